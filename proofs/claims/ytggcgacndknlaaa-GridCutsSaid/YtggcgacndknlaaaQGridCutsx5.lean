-- Written by a program of this session (a turned copy of the print) out of the translation. Lean checks it.
import Derived.Test.YtggcgacndknlaaaQGridCutsx0
import Derived.Test.YtggcgacndknlaaaQGridCutsx1
namespace Go.Proofs.Ytggcgacndknlaaa.QGridCuts
open Go.RowKit Go.Proofs.YtggcgacndknlaaaW.PrintWords Go.Proofs.YtggcgacndknlaaaW.PrintLast Go.Proofs.YtggcgacndknlaaaW.PrintMore
attribute [local go_sem] max2_int min2_int max_two min_two max_three min_three max_four min_four   -- for this text's walks alone
open Go.Proofs.YtggcgacndknlaaaW.PrintWords renaming below_alloc → b_a, pw_below_drewN → b_n, below_drew1 → b_d, below_set → b_s, blk_drewN → k_n, blk_drew → k_d, blk_alloc → k_a
open List renaming setIfInBounds_toArray → l_1, set_cons_zero → l_2, set_cons_succ → l_3, map_toArray → l_4, map_cons → l_5, map_nil → l_6, length_drop → l_7, length_take → l_8
set_option linter.unusedVariables false
set_option linter.unusedSimpArgs false

/-! ### pelotonlaw03_copied: function 23 -/
def pelotonlaw03_copied.l0 : Nat → List (S24) → List (S24) → Int → Option ((List (S24)))
 | 0, _, _, _ => none
 | k + 1, x0, x3, x4 => if x4 < (x0.length : Int) then (if 0 ≤ x4 then ((some (([] : List Int) : List Int)).bind fun y132 => (if y132.length + ((rd_T24 x0 x4).f2).length < 35184372088832 then (if x3.length < 3518437208883 then (pelotonlaw03_copied.l0 k x0 (x3 ++ [(⟨(rd_T24 x0 x4).f0, (rd_T24 x0 x4).f1, (y132 ++ ((rd_T24 x0 x4).f2))⟩ : S24)]) (wrap64 (x4 + 1))) else (none)) else (none))) else (none)) else (some x3)
def pelotonlaw03_copied.f (k : Nat) (l0 : List (S24)) : Option ((List (S24))) := pelotonlaw03_copied.l0 k l0 ([] : List (S24)) 0
theorem pelotonlaw03_copied.mono_l : ∀ k, (∀ y0 y1 y2, LeO (pelotonlaw03_copied.l0 k y0 y1 y2) (pelotonlaw03_copied.l0 (k + 1) y0 y1 y2))
 | 0 => fun _ _ _ r h => by simp [pelotonlaw03_copied.l0] at h
 | k + 1 => by
  have ih0 := pelotonlaw03_copied.mono_l k
  ·
   intro y0 y1 y2
   unfold pelotonlaw03_copied.l0
   repeat' first
   | (with_reducible exact ih0 _ _ _)
   | (with_reducible exact LeO.refl _)
   | (with_reducible exact LeO.none _)
   | (with_reducible refine LeO.ite ?_ ?_)
   | (with_reducible refine LeO.bind ?_ (fun _ => ?_))
   | exact ih0 _ _ _
   | exact LeO.none _
   | refine LeO.ite ?_ ?_
   | refine LeO.bind ?_ (fun _ => ?_)
theorem pelotonlaw03_copied.mono : ∀ a0 k, LeO (pelotonlaw03_copied.f k a0) (pelotonlaw03_copied.f (k + 1) a0) := by
 intro a0 k
 have ih0 := pelotonlaw03_copied.mono_l k
 unfold pelotonlaw03_copied.f
 repeat' first
   | (with_reducible exact ih0 _ _ _)
   | (with_reducible exact LeO.refl _)
   | (with_reducible exact LeO.none _)
   | (with_reducible refine LeO.ite ?_ ?_)
   | (with_reducible refine LeO.bind ?_ (fun _ => ?_))
   | exact ih0 _ _ _
   | exact LeO.none _
   | refine LeO.ite ?_ ?_
   | refine LeO.bind ?_ (fun _ => ?_)
def pelotonlaw03_copied.T5 : Bool × List (List Nat × List Nat) := (true, [([], []), ([], []), ([], []), ([1, 2], [1, 2]), ([3], [3]), ([4], [4]), ([], []), ([], []), ([6, 7], [6, 7]), ([8], [8]), ([9], [9]), ([], []), ([], []), ([], []), ([12, 13], [12, 13]), ([14], [14]), ([15], [15]), ([11, 16], [11, 16]), ([5, 10, 17], [5, 10, 17]), ([18], [18]), ([0, 19, 17], [0, 19]), ([20, 20, 0, 1, 2, 3, 4, 5, 6, 7, 8, 9, 10, 11, 12, 13, 14, 15, 16, 17, 18, 19, 20], [0, 20])])
def pelotonlaw03_copied.B5 : List Nat := [0, 0, 0, 6, 14, 30, 0, 0, 192, 448, 960, 0, 0, 0, 12288, 28672, 61440, 129024, 262142, 524286, 1048575, 2097151]
theorem pelotonlaw03_copied.tab5 : rtab .any (opsOf Try.f23 5) = pelotonlaw03_copied.T5 := by kernel_rfl
theorem pelotonlaw03_copied.bits5 : waitsOk pelotonlaw03_copied.T5.2 pelotonlaw03_copied.B5 = true := by kernel_rfl
set_option maxHeartbeats 60000000 in
set_option maxRecDepth 100000 in
theorem pelotonlaw03_copied.calls (k : Nat) (A0 : Option Addr) (c0 : Nat) (l0 : List (S24)) (r : List (S24)) (w : World) (hr0 : Kd.C k24 w A0 l0.length l0) (hc0 : l0.length ≤ c0) (h : pelotonlaw03_copied.f k l0 = some r) :
  Calls Try.prog 23 #[.slice A0 l0.length c0] w fun e w' => ∃ v0_ : Value, e = .returned (v0_) ∧ Kd.S k24 24 w' w.heap.size (fun _ => True) v0_ r ∧ Below w.heap.size w w' := by
 have hu24 := Try.underlying24
 have HR0 := Aside0.mk hr0
 have HC0 := Aside0.mk hc0
 clear hr0 hc0
 have HB := Aside0.mk (Below.refl w.heap.size w)
 have H : (pelotonlaw03_copied.l0 k l0 ([] : List (S24)) 0) = some r := h
 clear h
 have H' := Aside0.mk H
 clear H
 go_enter Try.func23, Try.ntmps23
 go_wp2
 go_loopg [3, 4] k (fun kq v3 v4 w' => ∃ (x3_1 : List (S24)) (x4_1 : Int), v4 = .int .i64 x4_1 ∧ Aside0 (pelotonlaw03_copied.l0 kq l0 x3_1 x4_1 = some r) ∧ Aside0 (kq ≤ k) ∧ Aside0 (Kd.S k24 24 w' w.heap.size (fun _ => True) v3 x3_1) ∧ Aside0 (Below w.heap.size w w'))
 case atStart => exact ⟨(([] : List (S24))), (0), (by first | rfl | (simp; done) | (simp [*]; done)), H', ⟨Nat.le_refl _⟩, ⟨by first | exact Kd.S_nil _ _ _ _ _ | exact Kd.N_nil _ _ _ _ _ | exact Kd.V_nil _ _ _ _ _ | exact Kd.Q_nil _ _ _ _ _ | exact Kd.R_nil _ _ _ _ _⟩, ⟨by repeat (first | (with_reducible first | exact HB.out | apply b_a | apply b_n | apply b_d) | exact HB.out)⟩⟩
 case round =>
  clear H'
  obtain ⟨x3_1, x4_1, rfl, HA, HK1, HO_3, HB⟩ := hrel
  cases gk with
  | zero => exact absurd HA.out (by simp [pelotonlaw03_copied.l0])
  | succ k1 =>
   have H := HA.out
   clear HA
   simp only [pelotonlaw03_copied.l0] at H
   by_cases c2 : x4_1 < (l0.length : Int)
   rotate_left
   ·
    rw [if_neg c2] at H
    have c2b0 : decide (x4_1 < (l0.length : Int)) = false := decide_eq_false c2
    clear c2
    obtain rfl := Option.some.inj H
    go_wp2
    go_ret
    exact ⟨_, by first | rfl | (simp [errW_none, errW_some] <;> rfl) | (simp [*, errW_none, errW_some] <;> rfl), by (with_reducible repeat (first | apply Kd.S_alloc | apply Kd.S_drewN | apply Kd.S_drew)); exact HO_3.out, by repeat (first | (with_reducible first | exact HB.out | apply b_a | apply b_n | apply b_d) | exact HB.out)⟩

   rw [if_pos c2] at H
   have c2b0 : decide (x4_1 < (l0.length : Int)) = true := decide_eq_true c2
   clear c2
   by_cases c3 : 0 ≤ x4_1
   rotate_left
   ·
    rw [if_neg c3] at H
    exact absurd H (by simp)
   rw [if_pos c3] at H
   have c3b0 : decide (0 ≤ x4_1) = true := decide_eq_true c3
   clear c3
   obtain ⟨y132, hy132⟩ : ∃ y_ : List Int, y_ = (([] : List Int)) := ⟨_, rfl⟩
   replace H : (if y132.length + ((rd_T24 l0 x4_1).f2).length < 35184372088832 then (if x3_1.length < 3518437208883 then (pelotonlaw03_copied.l0 k1 l0 (x3_1 ++ [(⟨(rd_T24 l0 x4_1).f0, (rd_T24 l0 x4_1).f1, (y132 ++ ((rd_T24 l0 x4_1).f2))⟩ : S24)]) (wrap64 (x4_1 + 1))) else (none)) else (none)) = some r := by first | (rw [hy132]; with_reducible exact H) | (have H2_ := (Option.bind_some _ _).symm.trans H; rw [hy132]; with_reducible exact H2_) | (have H2_ := (Option.bind_some _ _).symm.trans H; with_reducible exact H2_) | with_reducible exact H | (rw [hy132]; exact H) | exact H
   have Ny132 := Aside0.mk hy132
   clear hy132
   by_cases c4 : y132.length + ((rd_T24 l0 x4_1).f2).length < 35184372088832
   rotate_left
   ·
    rw [if_neg c4] at H
    exact absurd H (by simp)
   rw [if_pos c4] at H
   have LMc4 := Aside0.mk c4
   clear c4
   obtain ⟨y136, hy136⟩ : ∃ y_ : List Int, y_ = (y132 ++ ((rd_T24 l0 x4_1).f2)) := ⟨_, rfl⟩
   replace H : (if x3_1.length < 3518437208883 then (pelotonlaw03_copied.l0 k1 l0 (x3_1 ++ [(⟨(rd_T24 l0 x4_1).f0, (rd_T24 l0 x4_1).f1, y136⟩ : S24)]) (wrap64 (x4_1 + 1))) else (none)) = some r := by first | (rw [hy136]; with_reducible exact H) | (have H2_ := (Option.bind_some _ _).symm.trans H; rw [hy136]; with_reducible exact H2_) | (have H2_ := (Option.bind_some _ _).symm.trans H; with_reducible exact H2_) | with_reducible exact H | (rw [hy136]; exact H) | exact H
   have Ny136 := Aside0.mk hy136
   clear hy136
   by_cases c5 : x3_1.length < 3518437208883
   rotate_left
   ·
    rw [if_neg c5] at H
    exact absurd H (by simp)
   rw [if_pos c5] at H
   have LMc5 := Aside0.mk c5
   clear c5
   obtain ⟨y139, hy139⟩ : ∃ y_ : List (S24), y_ = (x3_1 ++ [(⟨(rd_T24 l0 x4_1).f0, (rd_T24 l0 x4_1).f1, y136⟩ : S24)]) := ⟨_, rfl⟩
   replace H : (pelotonlaw03_copied.l0 k1 l0 y139 (wrap64 (x4_1 + 1))) = some r := by first | (rw [hy139]; with_reducible exact H) | (have H2_ := (Option.bind_some _ _).symm.trans H; rw [hy139]; with_reducible exact H2_) | (have H2_ := (Option.bind_some _ _).symm.trans H; with_reducible exact H2_) | with_reducible exact H | (rw [hy139]; exact H) | exact H
   have Ny139 := Aside0.mk hy139
   clear hy139
   have H' := Aside0.mk H
   clear H
   try go_wp2
   replace HO_3 := Aside0.mk (Kd.S_drew HO_3.out)
   replace HB := Aside0.mk (b_d HB.out)
   have p130 : 0 ≤ (x4_1 : Int) := of_decide_eq_true (by first | (with_reducible assumption) | assumption)
   have q130 : x4_1 < (l0.length : Int) := of_decide_eq_true (by first | (with_reducible assumption) | assumption)
   obtain ⟨ad130, A130_2, c130_2, e130, hx130_0, hx130_1, hx130_2, hl130_2, hi130_2⟩ := at_T24 HR0.out x4_1 p130 q130
   have hw130_2 := hx130_2
   have hw130_1 := hx130_1
   have hw130_0 := hx130_0
   cases e130
   replace hx130_0 := cb_ HB hx130_0
   replace hx130_1 := cb_ HB hx130_1
   replace hx130_2 := cb_ HB hx130_2
   have HR130_2 := Aside0.mk hi130_2
   have HC130_2 := Aside0.mk hl130_2
   clear hi130_2 hl130_2
   replace p130 := eq_true p130
   replace q130 := eq_true q130
   have p131 : 0 ≤ (x4_1 : Int) := of_decide_eq_true (by first | (with_reducible assumption) | assumption)
   have q131 : x4_1 < (l0.length : Int) := of_decide_eq_true (by first | (with_reducible assumption) | assumption)
   obtain ⟨ad131, A131_2, c131_2, e131, hx131_0, hx131_1, hx131_2, hl131_2, hi131_2⟩ := at_T24 HR0.out x4_1 p131 q131
   have hw131_2 := hx131_2
   have hw131_1 := hx131_1
   have hw131_0 := hx131_0
   obtain rfl : ad130 = ad131 := (by injection e131)
   replace hx131_0 := cb_ HB hx131_0
   replace hx131_1 := cb_ HB hx131_1
   replace hx131_2 := cb_ HB hx131_2
   have HR131_2 := Aside0.mk hi131_2
   have HC131_2 := Aside0.mk hl131_2
   clear hi131_2 hl131_2
   replace p131 := eq_true p131
   replace q131 := eq_true q131
   have ea_ := Option.some.inj (hx130_2.symm.trans hx131_2)
   injection ea_ with ea_ en_ ec_
   subst ea_
   subst ec_
   clear en_
   have p135 : 0 ≤ (x4_1 : Int) := of_decide_eq_true (by first | (with_reducible assumption) | assumption)
   have q135 : x4_1 < (l0.length : Int) := of_decide_eq_true (by first | (with_reducible assumption) | assumption)
   obtain ⟨ad135, A135_2, c135_2, e135, hx135_0, hx135_1, hx135_2, hl135_2, hi135_2⟩ := at_T24 HR0.out x4_1 p135 q135
   have hw135_2 := hx135_2
   have hw135_1 := hx135_1
   have hw135_0 := hx135_0
   obtain rfl : ad130 = ad135 := (by injection e135)
   replace hx135_0 := cb_ HB hx135_0
   replace hx135_1 := cb_ HB hx135_1
   replace hx135_2 := cb_ HB hx135_2
   have HR135_2 := Aside0.mk hi135_2
   have HC135_2 := Aside0.mk hl135_2
   clear hi135_2 hl135_2
   replace p135 := eq_true p135
   replace q135 := eq_true q135
   have ea_ := Option.some.inj (hx130_2.symm.trans hx135_2)
   injection ea_ with ea_ en_ ec_
   subst ea_
   subst ec_
   clear en_
   refine start_ (n := 22) (S := fun w' => w'.cell? (ad130.add ((x4_1).toNat * 3)) = some (.int .i64 ((rd_T24 l0 x4_1).f0)) ∧ w'.cell? ⟨(ad130.add ((x4_1).toNat * 3)).block, (ad130.add ((x4_1).toNat * 3)).off + 1, none⟩ = some (.int .i64 ((rd_T24 l0 x4_1).f1)) ∧ w'.cell? ⟨(ad130.add ((x4_1).toNat * 3)).block, (ad130.add ((x4_1).toNat * 3)).off + 2, none⟩ = some (.slice A130_2 ((rd_T24 l0 x4_1).f2).length c130_2) ∧ w'.cell? (ad130.add ((x4_1).toNat * 3)) = some (.int .i64 ((rd_T24 l0 x4_1).f0)) ∧ w'.cell? ⟨(ad130.add ((x4_1).toNat * 3)).block, (ad130.add ((x4_1).toNat * 3)).off + 1, none⟩ = some (.int .i64 ((rd_T24 l0 x4_1).f1)) ∧ w'.cell? ⟨(ad130.add ((x4_1).toNat * 3)).block, (ad130.add ((x4_1).toNat * 3)).off + 2, none⟩ = some (.slice A130_2 ((rd_T24 l0 x4_1).f2).length c130_2) ∧ w'.cell? (ad130.add ((x4_1).toNat * 3)) = some (.int .i64 ((rd_T24 l0 x4_1).f0)) ∧ w'.cell? ⟨(ad130.add ((x4_1).toNat * 3)).block, (ad130.add ((x4_1).toNat * 3)).off + 1, none⟩ = some (.int .i64 ((rd_T24 l0 x4_1).f1)) ∧ w'.cell? ⟨(ad130.add ((x4_1).toNat * 3)).block, (ad130.add ((x4_1).toNat * 3)).off + 2, none⟩ = some (.slice A130_2 ((rd_T24 l0 x4_1).f2).length c130_2)) (ds := []) #[false, false, false, false, false, false, false, false, false, false, false, false, false, false, false, false, false, false, false, false, false, false] (by kernel_rfl) rfl rfl ⟨(cb_ HB hw130_0), (cb_ HB hw130_1), (cb_ HB hw130_2), (cb_ HB hw131_0), (cb_ HB hw131_1), (cb_ HB hw131_2), (cb_ HB hw135_0), (cb_ HB hw135_1), (cb_ HB hw135_2)⟩ (fun hHeld => ?_); refine with_tabW pelotonlaw03_copied.tab5 pelotonlaw03_copied.bits5 (fun HT_ HW_ => ?_)
   generalize wr.drew = w6 at HO_3 HB HR130_2 HR131_2 HR135_2 hx130_0 hx130_1 hx130_2 hx131_0 hx131_1 hx131_2 hx135_0 hx135_1 hx135_2 hHeld ⊢
   refine pu_ (i := 0) (N := some 11) (bs_ 22 1) rfl rfl HT_ ?_
   refine pu_ (i := 1) (N := some 12) (bs_ 22 3) rfl rfl HT_ ?_
   refine pu_ (i := 2) (N := some 13) (bs_ 22 7) rfl rfl HT_ ?_
   refine pu_ (i := 3) (N := some 14) (bs_ 22 15) rfl rfl HT_ ?_
   refine pu_ (i := 4) (N := some 15) (bs_ 22 31) rfl rfl HT_ ?_
   refine pu_ (i := 6) (N := some 17) (bs_ 22 95) rfl rfl HT_ ?_
   refine pu_ (i := 7) (N := some 18) (bs_ 22 223) rfl rfl HT_ ?_
   refine pu_ (i := 8) (N := some 19) (bs_ 22 479) rfl rfl HT_ ?_
   refine pu_ (i := 9) (N := some 20) (bs_ 22 991) rfl rfl HT_ ?_
   refine pu_ (i := 12) (N := some 23) (bs_ 22 5087) rfl rfl HT_ ?_
   refine pu_ (i := 13) (N := some 24) (bs_ 22 13279) rfl rfl HT_ ?_
   refine pu_ (i := 14) (N := some 25) (bs_ 22 29663) rfl rfl HT_ ?_
   refine pu_ (i := 15) (N := some 26) (bs_ 22 62431) rfl rfl HT_ ?_
   refine take_ (i := 5) (N := some 16) (v := ?_) (a' := ?_) (bs_ 22 62463) rfl rfl (take_ofW HT_.out HW_.out (by kernel_rfl)) (fun _ _ _ h => h) (Or.inl ⟨by rfl, ?_⟩) hHeld ?_ ?_
   rotate_left
   ·
    rintro w' ⟨s0, s1, s2, s3, s4, s5, s6, s7, s8⟩
    go_simp
    with_reducible rfl
   rotate_left
   ·
    simp only [Act.put, l_1, l_2, l_3, i64_w, i32_w]
    rfl
   refine take_ (i := 10) (N := some 21) (v := ?_) (a' := ?_) (bs_ 22 63487) rfl rfl (take_ofW HT_.out HW_.out (by kernel_rfl)) (fun _ _ _ h => h) (Or.inl ⟨by rfl, ?_⟩) hHeld ?_ ?_
   rotate_left
   ·
    rintro w' ⟨s0, s1, s2, s3, s4, s5, s6, s7, s8⟩
    go_simp
    with_reducible rfl
   rotate_left
   ·
    simp only [Act.put, l_1, l_2, l_3, i64_w, i32_w]
    rfl
   refine take_ (i := 16) (N := some 27) (v := ?_) (a' := ?_) (bs_ 22 129023) rfl rfl (take_ofW HT_.out HW_.out (by kernel_rfl)) (fun _ _ _ h => h) (Or.inl ⟨by rfl, ?_⟩) hHeld ?_ ?_
   rotate_left
   ·
    rintro w' ⟨s0, s1, s2, s3, s4, s5, s6, s7, s8⟩
    go_simp
    with_reducible rfl
   rotate_left
   ·
    simp only [Act.put, l_1, l_2, l_3, i64_w, i32_w]
    rfl
   refine one_ (i := 11) (N := some 22) (bs_ 22 131071) rfl rfl (one_of HT_.out (by kernel_rfl)) (by decide) (fun K hK => ?_)
   refine Kd.R_lit_step (Kd.int .i32) _ 21 ?hg (N := 22) ?hd (xs := ([] : List Int)) (inner := []) (ok := fun _ => True) (okp := fun _ => True) ?hr ?hp (fun _ hk => hk) trivial (Below.refl _ _) (Nat.le_refl _) (by simp) ?_; (case hd => rfl); (case hg => rfl); (case hr => first | (go_simp; done) | (go_simp; rfl)); (case hp => exact (Reps.none _ _))
   intro v133 w7 ho8 hb hg_ hnew_
   clear hg_ hnew_
   (first | rw [← Ny132.out] at ho8 | (simp only [Int.reduceToNat] at ho8; rw [← Ny132.out] at ho8))
   have HO134 := Aside0.mk (Kd.R_lower ho8 (below_size (bw_ HB)))
   replace HO_3 := Aside0.mk (Kd.S_elder' (tS_ HO_3) (Kd.R_base ho8) hb)
   replace HB := Aside0.mk (below_step (bw_ HB) hb)
   clear hb ho8
   refine hK.out _ _ ⟨(cb_ HB hw130_0), (cb_ HB hw130_1), (cb_ HB hw130_2), (cb_ HB hw131_0), (cb_ HB hw131_1), (cb_ HB hw131_2), (cb_ HB hw135_0), (cb_ HB hw135_1), (cb_ HB hw135_2)⟩ (fun hHeld => ?_)
   clear hK K
   refine no_ (N := some 22) ?_
   refine one_ (i := 17) (N := some 28) (bs_ 22 262143) rfl rfl (one_of HT_.out (by kernel_rfl)) (by decide) (fun K hK => ?_)
   refine Kd.R_append_rows_step (Kd.int .i32) (w0 := w) w.heap.size (by rfl) (.tmp 22) (.tmp 27) 22 21 (.int .i32 0) 4 rfl Try.underlying22 info21 rfl (by decide) (by omega) v133 y132 ((rd_T24 l0 x4_1).f2) _ _ _ (fun _ => True) (fun _ => False) rfl rfl ?aO ?aR (fun _ _ h => h) (fun _ h => h.elim) ?aF ?aB ?aS ?aL ?_
   (case aR => repeat (first | exact (Kd.C_below HR135_2.out HB.out) | (with_reducible refine Kd.C_alloc ?_ _) | (with_reducible refine Kd.C_drewN ?_ _) | (with_reducible refine Kd.C_drew ?_)))
   (case aB => exact (bw_ HB))
   (case aF => exact (fun _ _ => trivial))
   (case aO => exact (tR_ HO134))
   (case aS => exact (below_size (bw_ HB)))
   (case aL => have := LMc4.out; omega)
   intro v137 w9 ho hb hg hat
   rw [← Ny136.out] at ho
   have n0_ := Aside0.mk (Kd.S_after (ok := (fun _ => True)) (tS_ HO_3) hg hat)
   have n1_ := Aside0.mk (hb)
   have n2_ := Aside0.mk (ho)
   clear HO_3
   clear HB
   clear HO134
   have HO_3 := n0_
   have HB := n1_
   have HO138 := n2_
   clear n0_ n1_ n2_
   clear ho hb hg hat
   obtain ⟨Ao10, co10, eo10⟩ := Kd.R_slice HO138.out
   (first | subst eo10 | (injection eo10 with f1_ f2_ f3_; have f4_ := f1_.symm; have f5_ := f3_.symm; clear f1_ f2_ f3_; subst f4_; subst f5_))
   refine hK.out _ _ ⟨(cb_ HB hw130_0), (cb_ HB hw130_1), (cb_ HB hw130_2), (cb_ HB hw131_0), (cb_ HB hw131_1), (cb_ HB hw131_2), (cb_ HB hw135_0), (cb_ HB hw135_1), (cb_ HB hw135_2)⟩ (fun hHeld => ?_)
   clear hK K
   refine no_ (N := some 28) ?_
   refine pu_ (i := 18) (N := some 29) (bs_ 22 524287) rfl rfl HT_ ?_
   refine one_ (i := 19) (N := some 30) (bs_ 22 1048575) rfl rfl (one_of HT_.out (by kernel_rfl)) (by decide) (fun K hK => ?_)
   refine value_ (w1 := ?_) (v := ?_) (by rfl) rfl ?_ ?_
   rotate_left 2
   ·
    go_simp
    constructor
    ·
     rfl
    ·
     rfl
   refine hK.out _ _ ⟨(World.cell?_alloc_lt _ _ _ (World.block_lt_of_cell? _ _ ((cb_ HB hw130_0)))).trans ((cb_ HB hw130_0)), (World.cell?_alloc_lt _ _ _ (World.block_lt_of_cell? _ _ ((cb_ HB hw130_1)))).trans ((cb_ HB hw130_1)), (World.cell?_alloc_lt _ _ _ (World.block_lt_of_cell? _ _ ((cb_ HB hw130_2)))).trans ((cb_ HB hw130_2)), (World.cell?_alloc_lt _ _ _ (World.block_lt_of_cell? _ _ ((cb_ HB hw131_0)))).trans ((cb_ HB hw131_0)), (World.cell?_alloc_lt _ _ _ (World.block_lt_of_cell? _ _ ((cb_ HB hw131_1)))).trans ((cb_ HB hw131_1)), (World.cell?_alloc_lt _ _ _ (World.block_lt_of_cell? _ _ ((cb_ HB hw131_2)))).trans ((cb_ HB hw131_2)), (World.cell?_alloc_lt _ _ _ (World.block_lt_of_cell? _ _ ((cb_ HB hw135_0)))).trans ((cb_ HB hw135_0)), (World.cell?_alloc_lt _ _ _ (World.block_lt_of_cell? _ _ ((cb_ HB hw135_1)))).trans ((cb_ HB hw135_1)), (World.cell?_alloc_lt _ _ _ (World.block_lt_of_cell? _ _ ((cb_ HB hw135_2)))).trans ((cb_ HB hw135_2))⟩ (fun hHeld => ?_)
   clear hK K
   refine no_ (N := some 30) ?_
   refine one_ (i := 20) (N := some 31) (bs_ 22 2097151) rfl rfl (one_of HT_.out (by kernel_rfl)) (by decide) (fun K hK => ?_)
   refine Kd.S_append_step k24 (w0 := w) w.heap.size (by rfl) (.tmp 11) (.tmp 30) 44 24 (.agg #[(.int .i64 0), (.int .i64 0), (.slice none 0 0)]) 40 rfl Try.underlying44 info24 rfl (by decide) (by omega) u3 x3_1 (⟨(rd_T24 l0 x4_1).f0, (rd_T24 l0 x4_1).f1, y136⟩ : S24) [.int .i64 ((rd_T24 l0 x4_1).f0), .int .i64 ((rd_T24 l0 x4_1).f1), .slice Ao10 y136.length co10] (fun _ => True) (fun k_ => some k_ = (.slice Ao10 y136.length co10 : Value).ownBlock) rfl rfl ?aP (fun k_ hk_ => ((Kd.R_mono (ok' := fun k_ => ((fun _ => True)) k_ ∧ some k_ ≠ (u3 : Value).ownBlock) (Kd.R_apart' (HO138.out) (Kd.S_typed HO_3.out) (by decide)) (fun k_ hk => ⟨trivial, hk.2⟩))).1 k_ hk_.symm) ?aF ?aO ?aB ?aS ?aL ?_
   (case aP => exact k24_mkM _ _ _ (⟨(rd_T24 l0 x4_1).f0, (rd_T24 l0 x4_1).f1, y136⟩ : S24) (Kd.R_mono (Kd.R_tight rfl (Kd.R_mono (ok' := fun k_ => ((fun _ => True)) k_ ∧ some k_ ≠ (u3 : Value).ownBlock) (Kd.R_apart' (HO138.out) (Kd.S_typed HO_3.out) (by decide)) (fun k_ hk => ⟨trivial, hk.2⟩))) (fun _ h_ => h_)))
   (case aB => exact (bw_ HB))
   (case aF => exact (fun _ _ => trivial))
   (case aO => exact (by (with_reducible repeat (first | apply Kd.S_alloc | apply Kd.S_drewN | apply Kd.S_drew)); exact Kd.S_mono HO_3.out (fun k_ hk => ⟨trivial, fun e_ => hk.2 e_⟩)))
   (case aS => exact (below_size (bw_ HB)))
   (case aL => have := LMc5.out; omega)
   intro v140 w11 ho hb hg hat
   rw [← Ny139.out] at ho
   have n0_ := Aside0.mk (hb)
   have n1_ := Aside0.mk (ho)
   clear HB
   clear HO_3
   clear HO138
   have HB := n0_
   have HO141 := n1_
   clear n0_ n1_
   clear ho hb hg hat
   refine hK.out _ _ ⟨(cb_ HB hw130_0), (cb_ HB hw130_1), (cb_ HB hw130_2), (cb_ HB hw131_0), (cb_ HB hw131_1), (cb_ HB hw131_2), (cb_ HB hw135_0), (cb_ HB hw135_1), (cb_ HB hw135_2)⟩ (fun hHeld => ?_)
   clear hK K
   refine no_ (N := some 31) ?_
   refine pu_ (i := 21) (N := some 3) (bs_ 22 4194303) rfl rfl HT_ ?_
   refine done_ (done_of HT_.out (by kernel_rfl)) ?_
   try go_wp2
   go_roundg k1
   case measure => have := HK1.out; omega
   case rel => exact ⟨(y139), (wrap64 (x4_1 + 1)), (by first | rfl | (simp; done) | (simp [*]; done)), H', ⟨by have := HK1.out; omega⟩, ⟨tS_ HO141⟩, ⟨by repeat (first | (with_reducible first | exact HB.out | apply b_a | apply b_n | apply b_d) | exact HB.out)⟩⟩
/-! ### grid_cut: function 42 -/
def grid_cut.f (k : Nat) (a0_0 : Int) (a0_1 : Int) (l0_2 : List Int) (a1 : Int) (a2 : Int) (a3 : Int) : Option (Int) := (grid_fit.f k (([(⟨a0_0, a0_1, l0_2⟩ : S24)] : List (S24)))).bind fun t146 => (if t146 = true then (if a1 < 0 then (some 2) else (if a1 > a2 then (some 2) else (if a2 > a3 then (some 2) else (some 0)))) else (some 30))
theorem grid_cut.mono : ∀ a0 a1 a2 a3 a4 a5 k, LeO (grid_cut.f k a0 a1 a2 a3 a4 a5) (grid_cut.f (k + 1) a0 a1 a2 a3 a4 a5) := by
 intro a0 a1 a2 a3 a4 a5 k
 unfold grid_cut.f
 repeat' first
   | (with_reducible exact grid_fit.mono _ _)
   | (with_reducible exact LeO.refl _)
   | (with_reducible exact LeO.none _)
   | (with_reducible refine LeO.ite ?_ ?_)
   | (with_reducible refine LeO.bind ?_ (fun _ => ?_))
   | exact grid_fit.mono _ _
   | exact LeO.none _
   | refine LeO.ite ?_ ?_
   | refine LeO.bind ?_ (fun _ => ?_)
set_option maxHeartbeats 60000000 in
set_option maxRecDepth 100000 in
theorem grid_cut.calls (k : Nat) (a0_0 : Int) (a0_1 : Int) (P0_2_ : Nat → Prop) (A0_2 : Option Addr) (c0_2 : Nat) (l0_2 : List Int) (a1 : Int) (a2 : Int) (a3 : Int) (r : Int) (w : World) (hs0_2 : Kd.V (Kd.int .i32) 21 w w.heap.size (fun k_ => P0_2_ k_) (.slice A0_2 l0_2.length c0_2) l0_2) (h : grid_cut.f k a0_0 a0_1 l0_2 a1 a2 a3 = some r) :
  Calls Try.prog 42 #[.agg #[.int .i64 a0_0, .int .i64 a0_1, .slice A0_2 l0_2.length c0_2], .int .i64 a1, .int .i64 a2, .int .i64 a3] w fun e w' => e = .returned (.int .i64 r) ∧ Below w.heap.size w w' := by
 have hu24 := Try.underlying24
 have HO0_2 := Aside0.mk (show Kd.V (Kd.int .i32) 21 w w.heap.size (fun k_ => (P0_2_ k_ ∨ w.heap.size ≤ k_)) (.slice A0_2 l0_2.length c0_2) l0_2 from Kd.V_mono hs0_2 (fun k_ hk => .inl hk))
 have HB := Aside0.mk (Below.refl w.heap.size w)
 have H : ((grid_fit.f k (([(⟨a0_0, a0_1, l0_2⟩ : S24)] : List (S24)))).bind fun t146 => (if t146 = true then (if a1 < 0 then (some 2) else (if a1 > a2 then (some 2) else (if a2 > a3 then (some 2) else (some 0)))) else (some 30))) = some r := h
 clear h
 obtain ⟨y143, hy143⟩ : ∃ y_ : List (S24), y_ = (([(⟨a0_0, a0_1, l0_2⟩ : S24)] : List (S24))) := ⟨_, rfl⟩
 replace H : ((grid_fit.f k y143).bind fun t146 => (if t146 = true then (if a1 < 0 then (some 2) else (if a1 > a2 then (some 2) else (if a2 > a3 then (some 2) else (some 0)))) else (some 30))) = some r := by first | (rw [hy143]; with_reducible exact H) | (have H2_ := (Option.bind_some _ _).symm.trans H; rw [hy143]; with_reducible exact H2_) | (have H2_ := (Option.bind_some _ _).symm.trans H; with_reducible exact H2_) | with_reducible exact H | (rw [hy143]; exact H) | exact H
 have Ny143 := Aside0.mk hy143
 clear hy143
 replace H := Option.bind_eq_some_iff.mp H
 obtain ⟨t146, A50, H⟩ := H
 replace H : (if t146 = true then (if a1 < 0 then (some 2) else (if a1 > a2 then (some 2) else (if a2 > a3 then (some 2) else (some 0)))) else (some 30)) = some r := H
 have A5 := Aside0.mk A50
 clear A50
 by_cases c6 : t146 = true
 rotate_left
 ·
  replace c6 := Bool.eq_false_iff.mpr c6
  subst c6
  have H1 : (some 30) = some r := by rw [if_neg (show ¬ (false = true) by decide)] at H; exact H
  clear H
  have H := H1
  clear H1
  obtain rfl := Option.some.inj H
  go_enter Try.func42, Try.ntmps42
  go_wp2_with (first | ((with_reducible refine gate_dst (N := 4) rfl ?_); refine box_event ?hg (N := 4) ?hd (cs := #[.int .i64 a0_0, .int .i64 a0_1, .slice A0_2 l0_2.length c0_2]) (t := 24) ?hr ?_; (case hd => rfl); (case hg => rfl); (case hr => first | (go_simp; done) | (go_simp; rfl)); intro gb142 hg w34 hbox hb; have BK142 := Aside0.mk (hbox); have GW142 := Aside0.mk ((by rw [hg]; exact (below_size (bw_ HB)) : w.heap.size ≤ gb142)); have GE142 := Aside0.mk ((by rw [hg]; exact (below_size (bw_ HB)) : w.heap.size ≤ gb142)); replace HO0_2 := Aside0.mk (Kd.V_below (Kd.V_elderB (tV_ HO0_2) gb142 (Nat.le_of_eq hg.symm)) hb); replace HB := Aside0.mk (below_step (bw_ HB) hb); clear hb hbox hg; have hcz35_0 := bc_0 BK142; have hcz35_1 := bc_1 BK142; have hcz35_2 := bc_2 BK142; have hfz35_0 := blk_frozen BK142.out 0; have hfz35_1 := blk_frozen BK142.out 1; have hfz35_2 := blk_frozen BK142.out 2) | ((with_reducible refine gate_dst (N := 11) rfl ?_); refine Kd.N_lit k24 _ 24 ?hg (N' := 11) ?hd (xs := ([(⟨a0_0, a0_1, l0_2⟩ : S24)] : List (S24))) (inner := [.int .i64 a0_0, .int .i64 a0_1, .slice A0_2 l0_2.length c0_2]) (ok := (fun k_ => (P0_2_ k_ ∨ w.heap.size ≤ k_) ∧ k_ ≠ gb142)) (okp := (fun k_ => (P0_2_ k_ ∨ w.heap.size ≤ k_) ∧ k_ ≠ gb142)) ?hr ?hp (fun _ hk => hk) ((show ∀ k_, (_ : Nat) ≤ k_ → (fun k_ => (P0_2_ k_ ∨ w.heap.size ≤ k_) ∧ k_ ≠ gb142) k_ from fun k_ hk => ⟨(.inr (Nat.le_trans (below_size (bw_ HB)) hk)), Kd.freshB (tk_ BK142) k_ hk⟩) _ (Nat.le_refl _)) (Below.refl _ _) (Nat.le_refl _) (by simp) ?_; (case hd => rfl); (case hg => rfl); (case hr => first | (go_simp; done) | (go_simp; rfl)); (case hp => exact (Reps.c3 (show Kd.FK k24 _ _ (⟨a0_0, a0_1, l0_2⟩ : S24) [.int .i64 a0_0, .int .i64 a0_1, .slice A0_2 l0_2.length c0_2] from (k24_mkF _ _ (⟨a0_0, a0_1, l0_2⟩ : S24) (Kd.V_reads' (Kd.V_mono (ok' := (fun k_ => (P0_2_ k_ ∨ w.heap.size ≤ k_) ∧ k_ ≠ gb142)) (HO0_2.out) (fun k_ hk => ⟨hk.1, hk.2⟩))).2.1 (Kd.V_F (Kd.V_mono (ok' := (fun k_ => (P0_2_ k_ ∨ w.heap.size ≤ k_) ∧ k_ ≠ gb142)) (HO0_2.out) (fun k_ hk => ⟨hk.1, hk.2⟩))))) (Reps.none _ _))); intro v144 w36 ho37 hb hg_ hnew_; clear hg_ hnew_; (first | rw [← Ny143.out] at ho37 | (simp only [Int.reduceToNat] at ho37; rw [← Ny143.out] at ho37)); have HO145 := Aside0.mk (Kd.N_lower ho37 (below_size (bw_ HB))); replace HO0_2 := Aside0.mk (Kd.V_elder' (tV_ HO0_2) (by first | exact Kd.N_base ho37 | exact Kd.N_base (Kd.S_N ho37)) hb); replace BK142 := Aside0.mk (blk_below (tk_ BK142) hb); replace HB := Aside0.mk (below_step (bw_ HB) hb); clear hb ho37; obtain ⟨Ao38, co38, eo38⟩ := Kd.N_slice HO145.out; subst eo38) | ((with_reducible refine gate_callee (f := 36) rfl ?_); refine goesL_ (some 12) rfl rfl Try.func36 (by kernel_rfl) rfl #[.slice Ao38 y143.length co38] rfl (by (try simp only [l_4, l_5, l_6]); first | done | rfl | (simp only [l_7, l_8]; rfl)) ?_; (with_reducible refine (grid_fit.calls k _ _ y143 false _ ?side1 ?side2 A5.out).mono ?_); (case side1 => repeat (first | exact (Kd.N_reads' HO145.out).2.2 | (with_reducible refine Kd.C_alloc ?_ _) | (with_reducible refine Kd.C_drewN ?_ _) | (with_reducible refine Kd.C_drew ?_))); (case side2 => exact (Kd.N_reads' HO145.out).2.1); rintro e w39 ⟨rfl, hb⟩; (try clear A5); refine ⟨_, rfl, ?_⟩; replace HO0_2 := Aside0.mk (Kd.V_below (tV_ HO0_2) hb); replace HO145 := Aside0.mk (Kd.N_below (tN_ HO145) hb); replace BK142 := Aside0.mk (blk_below (tk_ BK142) hb); replace HB := Aside0.mk (below_step (bw_ HB) hb); (try clear hb); (try clear hb2); (try clear hk); (try clear hi)))
  go_ret
  exact ⟨by first | rfl | (simp [errW_none, errW_some] <;> rfl) | (simp [*, errW_none, errW_some] <;> rfl), by repeat (first | (with_reducible first | exact HB.out | apply b_a | apply b_n | apply b_d | refine b_s ?_ GE142.out) | exact HB.out)⟩

 subst c6
 have H1 : (if a1 < 0 then (some 2) else (if a1 > a2 then (some 2) else (if a2 > a3 then (some 2) else (some 0)))) = some r := by rw [if_pos rfl] at H; exact H
 clear H
 have H := H1
 clear H1
 by_cases c7 : a1 < 0
 ·
  rw [if_pos c7] at H
  have c7b0 : decide (a1 < 0) = true := decide_eq_true c7
  clear c7
  obtain rfl := Option.some.inj H
  go_enter Try.func42, Try.ntmps42
  go_wp2_with (first | ((with_reducible refine gate_dst (N := 4) rfl ?_); refine box_event ?hg (N := 4) ?hd (cs := #[.int .i64 a0_0, .int .i64 a0_1, .slice A0_2 l0_2.length c0_2]) (t := 24) ?hr ?_; (case hd => rfl); (case hg => rfl); (case hr => first | (go_simp; done) | (go_simp; rfl)); intro gb142 hg w8 hbox hb; have BK142 := Aside0.mk (hbox); have GW142 := Aside0.mk ((by rw [hg]; exact (below_size (bw_ HB)) : w.heap.size ≤ gb142)); have GE142 := Aside0.mk ((by rw [hg]; exact (below_size (bw_ HB)) : w.heap.size ≤ gb142)); replace HO0_2 := Aside0.mk (Kd.V_below (Kd.V_elderB (tV_ HO0_2) gb142 (Nat.le_of_eq hg.symm)) hb); replace HB := Aside0.mk (below_step (bw_ HB) hb); clear hb hbox hg; have hcz9_0 := bc_0 BK142; have hcz9_1 := bc_1 BK142; have hcz9_2 := bc_2 BK142; have hfz9_0 := blk_frozen BK142.out 0; have hfz9_1 := blk_frozen BK142.out 1; have hfz9_2 := blk_frozen BK142.out 2) | ((with_reducible refine gate_dst (N := 11) rfl ?_); refine Kd.N_lit k24 _ 24 ?hg (N' := 11) ?hd (xs := ([(⟨a0_0, a0_1, l0_2⟩ : S24)] : List (S24))) (inner := [.int .i64 a0_0, .int .i64 a0_1, .slice A0_2 l0_2.length c0_2]) (ok := (fun k_ => (P0_2_ k_ ∨ w.heap.size ≤ k_) ∧ k_ ≠ gb142)) (okp := (fun k_ => (P0_2_ k_ ∨ w.heap.size ≤ k_) ∧ k_ ≠ gb142)) ?hr ?hp (fun _ hk => hk) ((show ∀ k_, (_ : Nat) ≤ k_ → (fun k_ => (P0_2_ k_ ∨ w.heap.size ≤ k_) ∧ k_ ≠ gb142) k_ from fun k_ hk => ⟨(.inr (Nat.le_trans (below_size (bw_ HB)) hk)), Kd.freshB (tk_ BK142) k_ hk⟩) _ (Nat.le_refl _)) (Below.refl _ _) (Nat.le_refl _) (by simp) ?_; (case hd => rfl); (case hg => rfl); (case hr => first | (go_simp; done) | (go_simp; rfl)); (case hp => exact (Reps.c3 (show Kd.FK k24 _ _ (⟨a0_0, a0_1, l0_2⟩ : S24) [.int .i64 a0_0, .int .i64 a0_1, .slice A0_2 l0_2.length c0_2] from (k24_mkF _ _ (⟨a0_0, a0_1, l0_2⟩ : S24) (Kd.V_reads' (Kd.V_mono (ok' := (fun k_ => (P0_2_ k_ ∨ w.heap.size ≤ k_) ∧ k_ ≠ gb142)) (HO0_2.out) (fun k_ hk => ⟨hk.1, hk.2⟩))).2.1 (Kd.V_F (Kd.V_mono (ok' := (fun k_ => (P0_2_ k_ ∨ w.heap.size ≤ k_) ∧ k_ ≠ gb142)) (HO0_2.out) (fun k_ hk => ⟨hk.1, hk.2⟩))))) (Reps.none _ _))); intro v144 w10 ho11 hb hg_ hnew_; clear hg_ hnew_; (first | rw [← Ny143.out] at ho11 | (simp only [Int.reduceToNat] at ho11; rw [← Ny143.out] at ho11)); have HO145 := Aside0.mk (Kd.N_lower ho11 (below_size (bw_ HB))); replace HO0_2 := Aside0.mk (Kd.V_elder' (tV_ HO0_2) (by first | exact Kd.N_base ho11 | exact Kd.N_base (Kd.S_N ho11)) hb); replace BK142 := Aside0.mk (blk_below (tk_ BK142) hb); replace HB := Aside0.mk (below_step (bw_ HB) hb); clear hb ho11; obtain ⟨Ao12, co12, eo12⟩ := Kd.N_slice HO145.out; subst eo12) | ((with_reducible refine gate_callee (f := 36) rfl ?_); refine goesL_ (some 12) rfl rfl Try.func36 (by kernel_rfl) rfl #[.slice Ao12 y143.length co12] rfl (by (try simp only [l_4, l_5, l_6]); first | done | rfl | (simp only [l_7, l_8]; rfl)) ?_; (with_reducible refine (grid_fit.calls k _ _ y143 true _ ?side1 ?side2 A5.out).mono ?_); (case side1 => repeat (first | exact (Kd.N_reads' HO145.out).2.2 | (with_reducible refine Kd.C_alloc ?_ _) | (with_reducible refine Kd.C_drewN ?_ _) | (with_reducible refine Kd.C_drew ?_))); (case side2 => exact (Kd.N_reads' HO145.out).2.1); rintro e w13 ⟨rfl, hb⟩; (try clear A5); refine ⟨_, rfl, ?_⟩; replace HO0_2 := Aside0.mk (Kd.V_below (tV_ HO0_2) hb); replace HO145 := Aside0.mk (Kd.N_below (tN_ HO145) hb); replace BK142 := Aside0.mk (blk_below (tk_ BK142) hb); replace HB := Aside0.mk (below_step (bw_ HB) hb); (try clear hb); (try clear hb2); (try clear hk); (try clear hi)))
  go_ret
  exact ⟨by first | rfl | (simp [errW_none, errW_some] <;> rfl) | (simp [*, errW_none, errW_some] <;> rfl), by repeat (first | (with_reducible first | exact HB.out | apply b_a | apply b_n | apply b_d | refine b_s ?_ GE142.out) | exact HB.out)⟩
 rw [if_neg c7] at H
 have c7b0 : decide (a1 < 0) = false := decide_eq_false c7
 clear c7
 by_cases c14 : a1 > a2
 ·
  rw [if_pos c14] at H
  have c14b0 : decide (a2 < a1) = true := decide_eq_true c14
  clear c14
  obtain rfl := Option.some.inj H
  go_enter Try.func42, Try.ntmps42
  go_wp2_with (first | ((with_reducible refine gate_dst (N := 4) rfl ?_); refine box_event ?hg (N := 4) ?hd (cs := #[.int .i64 a0_0, .int .i64 a0_1, .slice A0_2 l0_2.length c0_2]) (t := 24) ?hr ?_; (case hd => rfl); (case hg => rfl); (case hr => first | (go_simp; done) | (go_simp; rfl)); intro gb142 hg w15 hbox hb; have BK142 := Aside0.mk (hbox); have GW142 := Aside0.mk ((by rw [hg]; exact (below_size (bw_ HB)) : w.heap.size ≤ gb142)); have GE142 := Aside0.mk ((by rw [hg]; exact (below_size (bw_ HB)) : w.heap.size ≤ gb142)); replace HO0_2 := Aside0.mk (Kd.V_below (Kd.V_elderB (tV_ HO0_2) gb142 (Nat.le_of_eq hg.symm)) hb); replace HB := Aside0.mk (below_step (bw_ HB) hb); clear hb hbox hg; have hcz16_0 := bc_0 BK142; have hcz16_1 := bc_1 BK142; have hcz16_2 := bc_2 BK142; have hfz16_0 := blk_frozen BK142.out 0; have hfz16_1 := blk_frozen BK142.out 1; have hfz16_2 := blk_frozen BK142.out 2) | ((with_reducible refine gate_dst (N := 11) rfl ?_); refine Kd.N_lit k24 _ 24 ?hg (N' := 11) ?hd (xs := ([(⟨a0_0, a0_1, l0_2⟩ : S24)] : List (S24))) (inner := [.int .i64 a0_0, .int .i64 a0_1, .slice A0_2 l0_2.length c0_2]) (ok := (fun k_ => (P0_2_ k_ ∨ w.heap.size ≤ k_) ∧ k_ ≠ gb142)) (okp := (fun k_ => (P0_2_ k_ ∨ w.heap.size ≤ k_) ∧ k_ ≠ gb142)) ?hr ?hp (fun _ hk => hk) ((show ∀ k_, (_ : Nat) ≤ k_ → (fun k_ => (P0_2_ k_ ∨ w.heap.size ≤ k_) ∧ k_ ≠ gb142) k_ from fun k_ hk => ⟨(.inr (Nat.le_trans (below_size (bw_ HB)) hk)), Kd.freshB (tk_ BK142) k_ hk⟩) _ (Nat.le_refl _)) (Below.refl _ _) (Nat.le_refl _) (by simp) ?_; (case hd => rfl); (case hg => rfl); (case hr => first | (go_simp; done) | (go_simp; rfl)); (case hp => exact (Reps.c3 (show Kd.FK k24 _ _ (⟨a0_0, a0_1, l0_2⟩ : S24) [.int .i64 a0_0, .int .i64 a0_1, .slice A0_2 l0_2.length c0_2] from (k24_mkF _ _ (⟨a0_0, a0_1, l0_2⟩ : S24) (Kd.V_reads' (Kd.V_mono (ok' := (fun k_ => (P0_2_ k_ ∨ w.heap.size ≤ k_) ∧ k_ ≠ gb142)) (HO0_2.out) (fun k_ hk => ⟨hk.1, hk.2⟩))).2.1 (Kd.V_F (Kd.V_mono (ok' := (fun k_ => (P0_2_ k_ ∨ w.heap.size ≤ k_) ∧ k_ ≠ gb142)) (HO0_2.out) (fun k_ hk => ⟨hk.1, hk.2⟩))))) (Reps.none _ _))); intro v144 w17 ho18 hb hg_ hnew_; clear hg_ hnew_; (first | rw [← Ny143.out] at ho18 | (simp only [Int.reduceToNat] at ho18; rw [← Ny143.out] at ho18)); have HO145 := Aside0.mk (Kd.N_lower ho18 (below_size (bw_ HB))); replace HO0_2 := Aside0.mk (Kd.V_elder' (tV_ HO0_2) (by first | exact Kd.N_base ho18 | exact Kd.N_base (Kd.S_N ho18)) hb); replace BK142 := Aside0.mk (blk_below (tk_ BK142) hb); replace HB := Aside0.mk (below_step (bw_ HB) hb); clear hb ho18; obtain ⟨Ao19, co19, eo19⟩ := Kd.N_slice HO145.out; subst eo19) | ((with_reducible refine gate_callee (f := 36) rfl ?_); refine goesL_ (some 12) rfl rfl Try.func36 (by kernel_rfl) rfl #[.slice Ao19 y143.length co19] rfl (by (try simp only [l_4, l_5, l_6]); first | done | rfl | (simp only [l_7, l_8]; rfl)) ?_; (with_reducible refine (grid_fit.calls k _ _ y143 true _ ?side1 ?side2 A5.out).mono ?_); (case side1 => repeat (first | exact (Kd.N_reads' HO145.out).2.2 | (with_reducible refine Kd.C_alloc ?_ _) | (with_reducible refine Kd.C_drewN ?_ _) | (with_reducible refine Kd.C_drew ?_))); (case side2 => exact (Kd.N_reads' HO145.out).2.1); rintro e w20 ⟨rfl, hb⟩; (try clear A5); refine ⟨_, rfl, ?_⟩; replace HO0_2 := Aside0.mk (Kd.V_below (tV_ HO0_2) hb); replace HO145 := Aside0.mk (Kd.N_below (tN_ HO145) hb); replace BK142 := Aside0.mk (blk_below (tk_ BK142) hb); replace HB := Aside0.mk (below_step (bw_ HB) hb); (try clear hb); (try clear hb2); (try clear hk); (try clear hi)))
  go_ret
  exact ⟨by first | rfl | (simp [errW_none, errW_some] <;> rfl) | (simp [*, errW_none, errW_some] <;> rfl), by repeat (first | (with_reducible first | exact HB.out | apply b_a | apply b_n | apply b_d | refine b_s ?_ GE142.out) | exact HB.out)⟩
 rw [if_neg c14] at H
 have c14b0 : decide (a2 < a1) = false := decide_eq_false c14
 clear c14
 by_cases c21 : a2 > a3
 ·
  rw [if_pos c21] at H
  have c21b0 : decide (a3 < a2) = true := decide_eq_true c21
  clear c21
  obtain rfl := Option.some.inj H
  go_enter Try.func42, Try.ntmps42
  go_wp2_with (first | ((with_reducible refine gate_dst (N := 4) rfl ?_); refine box_event ?hg (N := 4) ?hd (cs := #[.int .i64 a0_0, .int .i64 a0_1, .slice A0_2 l0_2.length c0_2]) (t := 24) ?hr ?_; (case hd => rfl); (case hg => rfl); (case hr => first | (go_simp; done) | (go_simp; rfl)); intro gb142 hg w22 hbox hb; have BK142 := Aside0.mk (hbox); have GW142 := Aside0.mk ((by rw [hg]; exact (below_size (bw_ HB)) : w.heap.size ≤ gb142)); have GE142 := Aside0.mk ((by rw [hg]; exact (below_size (bw_ HB)) : w.heap.size ≤ gb142)); replace HO0_2 := Aside0.mk (Kd.V_below (Kd.V_elderB (tV_ HO0_2) gb142 (Nat.le_of_eq hg.symm)) hb); replace HB := Aside0.mk (below_step (bw_ HB) hb); clear hb hbox hg; have hcz23_0 := bc_0 BK142; have hcz23_1 := bc_1 BK142; have hcz23_2 := bc_2 BK142; have hfz23_0 := blk_frozen BK142.out 0; have hfz23_1 := blk_frozen BK142.out 1; have hfz23_2 := blk_frozen BK142.out 2) | ((with_reducible refine gate_dst (N := 11) rfl ?_); refine Kd.N_lit k24 _ 24 ?hg (N' := 11) ?hd (xs := ([(⟨a0_0, a0_1, l0_2⟩ : S24)] : List (S24))) (inner := [.int .i64 a0_0, .int .i64 a0_1, .slice A0_2 l0_2.length c0_2]) (ok := (fun k_ => (P0_2_ k_ ∨ w.heap.size ≤ k_) ∧ k_ ≠ gb142)) (okp := (fun k_ => (P0_2_ k_ ∨ w.heap.size ≤ k_) ∧ k_ ≠ gb142)) ?hr ?hp (fun _ hk => hk) ((show ∀ k_, (_ : Nat) ≤ k_ → (fun k_ => (P0_2_ k_ ∨ w.heap.size ≤ k_) ∧ k_ ≠ gb142) k_ from fun k_ hk => ⟨(.inr (Nat.le_trans (below_size (bw_ HB)) hk)), Kd.freshB (tk_ BK142) k_ hk⟩) _ (Nat.le_refl _)) (Below.refl _ _) (Nat.le_refl _) (by simp) ?_; (case hd => rfl); (case hg => rfl); (case hr => first | (go_simp; done) | (go_simp; rfl)); (case hp => exact (Reps.c3 (show Kd.FK k24 _ _ (⟨a0_0, a0_1, l0_2⟩ : S24) [.int .i64 a0_0, .int .i64 a0_1, .slice A0_2 l0_2.length c0_2] from (k24_mkF _ _ (⟨a0_0, a0_1, l0_2⟩ : S24) (Kd.V_reads' (Kd.V_mono (ok' := (fun k_ => (P0_2_ k_ ∨ w.heap.size ≤ k_) ∧ k_ ≠ gb142)) (HO0_2.out) (fun k_ hk => ⟨hk.1, hk.2⟩))).2.1 (Kd.V_F (Kd.V_mono (ok' := (fun k_ => (P0_2_ k_ ∨ w.heap.size ≤ k_) ∧ k_ ≠ gb142)) (HO0_2.out) (fun k_ hk => ⟨hk.1, hk.2⟩))))) (Reps.none _ _))); intro v144 w24 ho25 hb hg_ hnew_; clear hg_ hnew_; (first | rw [← Ny143.out] at ho25 | (simp only [Int.reduceToNat] at ho25; rw [← Ny143.out] at ho25)); have HO145 := Aside0.mk (Kd.N_lower ho25 (below_size (bw_ HB))); replace HO0_2 := Aside0.mk (Kd.V_elder' (tV_ HO0_2) (by first | exact Kd.N_base ho25 | exact Kd.N_base (Kd.S_N ho25)) hb); replace BK142 := Aside0.mk (blk_below (tk_ BK142) hb); replace HB := Aside0.mk (below_step (bw_ HB) hb); clear hb ho25; obtain ⟨Ao26, co26, eo26⟩ := Kd.N_slice HO145.out; subst eo26) | ((with_reducible refine gate_callee (f := 36) rfl ?_); refine goesL_ (some 12) rfl rfl Try.func36 (by kernel_rfl) rfl #[.slice Ao26 y143.length co26] rfl (by (try simp only [l_4, l_5, l_6]); first | done | rfl | (simp only [l_7, l_8]; rfl)) ?_; (with_reducible refine (grid_fit.calls k _ _ y143 true _ ?side1 ?side2 A5.out).mono ?_); (case side1 => repeat (first | exact (Kd.N_reads' HO145.out).2.2 | (with_reducible refine Kd.C_alloc ?_ _) | (with_reducible refine Kd.C_drewN ?_ _) | (with_reducible refine Kd.C_drew ?_))); (case side2 => exact (Kd.N_reads' HO145.out).2.1); rintro e w27 ⟨rfl, hb⟩; (try clear A5); refine ⟨_, rfl, ?_⟩; replace HO0_2 := Aside0.mk (Kd.V_below (tV_ HO0_2) hb); replace HO145 := Aside0.mk (Kd.N_below (tN_ HO145) hb); replace BK142 := Aside0.mk (blk_below (tk_ BK142) hb); replace HB := Aside0.mk (below_step (bw_ HB) hb); (try clear hb); (try clear hb2); (try clear hk); (try clear hi)))
  go_ret
  exact ⟨by first | rfl | (simp [errW_none, errW_some] <;> rfl) | (simp [*, errW_none, errW_some] <;> rfl), by repeat (first | (with_reducible first | exact HB.out | apply b_a | apply b_n | apply b_d | refine b_s ?_ GE142.out) | exact HB.out)⟩
 rw [if_neg c21] at H
 have c21b0 : decide (a3 < a2) = false := decide_eq_false c21
 clear c21
 obtain rfl := Option.some.inj H
 go_enter Try.func42, Try.ntmps42
 go_wp2_with (first | ((with_reducible refine gate_dst (N := 4) rfl ?_); refine box_event ?hg (N := 4) ?hd (cs := #[.int .i64 a0_0, .int .i64 a0_1, .slice A0_2 l0_2.length c0_2]) (t := 24) ?hr ?_; (case hd => rfl); (case hg => rfl); (case hr => first | (go_simp; done) | (go_simp; rfl)); intro gb142 hg w28 hbox hb; have BK142 := Aside0.mk (hbox); have GW142 := Aside0.mk ((by rw [hg]; exact (below_size (bw_ HB)) : w.heap.size ≤ gb142)); have GE142 := Aside0.mk ((by rw [hg]; exact (below_size (bw_ HB)) : w.heap.size ≤ gb142)); replace HO0_2 := Aside0.mk (Kd.V_below (Kd.V_elderB (tV_ HO0_2) gb142 (Nat.le_of_eq hg.symm)) hb); replace HB := Aside0.mk (below_step (bw_ HB) hb); clear hb hbox hg; have hcz29_0 := bc_0 BK142; have hcz29_1 := bc_1 BK142; have hcz29_2 := bc_2 BK142; have hfz29_0 := blk_frozen BK142.out 0; have hfz29_1 := blk_frozen BK142.out 1; have hfz29_2 := blk_frozen BK142.out 2) | ((with_reducible refine gate_dst (N := 11) rfl ?_); refine Kd.N_lit k24 _ 24 ?hg (N' := 11) ?hd (xs := ([(⟨a0_0, a0_1, l0_2⟩ : S24)] : List (S24))) (inner := [.int .i64 a0_0, .int .i64 a0_1, .slice A0_2 l0_2.length c0_2]) (ok := (fun k_ => (P0_2_ k_ ∨ w.heap.size ≤ k_) ∧ k_ ≠ gb142)) (okp := (fun k_ => (P0_2_ k_ ∨ w.heap.size ≤ k_) ∧ k_ ≠ gb142)) ?hr ?hp (fun _ hk => hk) ((show ∀ k_, (_ : Nat) ≤ k_ → (fun k_ => (P0_2_ k_ ∨ w.heap.size ≤ k_) ∧ k_ ≠ gb142) k_ from fun k_ hk => ⟨(.inr (Nat.le_trans (below_size (bw_ HB)) hk)), Kd.freshB (tk_ BK142) k_ hk⟩) _ (Nat.le_refl _)) (Below.refl _ _) (Nat.le_refl _) (by simp) ?_; (case hd => rfl); (case hg => rfl); (case hr => first | (go_simp; done) | (go_simp; rfl)); (case hp => exact (Reps.c3 (show Kd.FK k24 _ _ (⟨a0_0, a0_1, l0_2⟩ : S24) [.int .i64 a0_0, .int .i64 a0_1, .slice A0_2 l0_2.length c0_2] from (k24_mkF _ _ (⟨a0_0, a0_1, l0_2⟩ : S24) (Kd.V_reads' (Kd.V_mono (ok' := (fun k_ => (P0_2_ k_ ∨ w.heap.size ≤ k_) ∧ k_ ≠ gb142)) (HO0_2.out) (fun k_ hk => ⟨hk.1, hk.2⟩))).2.1 (Kd.V_F (Kd.V_mono (ok' := (fun k_ => (P0_2_ k_ ∨ w.heap.size ≤ k_) ∧ k_ ≠ gb142)) (HO0_2.out) (fun k_ hk => ⟨hk.1, hk.2⟩))))) (Reps.none _ _))); intro v144 w30 ho31 hb hg_ hnew_; clear hg_ hnew_; (first | rw [← Ny143.out] at ho31 | (simp only [Int.reduceToNat] at ho31; rw [← Ny143.out] at ho31)); have HO145 := Aside0.mk (Kd.N_lower ho31 (below_size (bw_ HB))); replace HO0_2 := Aside0.mk (Kd.V_elder' (tV_ HO0_2) (by first | exact Kd.N_base ho31 | exact Kd.N_base (Kd.S_N ho31)) hb); replace BK142 := Aside0.mk (blk_below (tk_ BK142) hb); replace HB := Aside0.mk (below_step (bw_ HB) hb); clear hb ho31; obtain ⟨Ao32, co32, eo32⟩ := Kd.N_slice HO145.out; subst eo32) | ((with_reducible refine gate_callee (f := 36) rfl ?_); refine goesL_ (some 12) rfl rfl Try.func36 (by kernel_rfl) rfl #[.slice Ao32 y143.length co32] rfl (by (try simp only [l_4, l_5, l_6]); first | done | rfl | (simp only [l_7, l_8]; rfl)) ?_; (with_reducible refine (grid_fit.calls k _ _ y143 true _ ?side1 ?side2 A5.out).mono ?_); (case side1 => repeat (first | exact (Kd.N_reads' HO145.out).2.2 | (with_reducible refine Kd.C_alloc ?_ _) | (with_reducible refine Kd.C_drewN ?_ _) | (with_reducible refine Kd.C_drew ?_))); (case side2 => exact (Kd.N_reads' HO145.out).2.1); rintro e w33 ⟨rfl, hb⟩; (try clear A5); refine ⟨_, rfl, ?_⟩; replace HO0_2 := Aside0.mk (Kd.V_below (tV_ HO0_2) hb); replace HO145 := Aside0.mk (Kd.N_below (tN_ HO145) hb); replace BK142 := Aside0.mk (blk_below (tk_ BK142) hb); replace HB := Aside0.mk (below_step (bw_ HB) hb); (try clear hb); (try clear hb2); (try clear hk); (try clear hi)))
 go_ret
 exact ⟨by first | rfl | (simp [errW_none, errW_some] <;> rfl) | (simp [*, errW_none, errW_some] <;> rfl), by repeat (first | (with_reducible first | exact HB.out | apply b_a | apply b_n | apply b_d | refine b_s ?_ GE142.out) | exact HB.out)⟩
/-! ### slices_Clone_int32_int32: function 43 -/
def slices_Clone_int32_int32.f (l0 : List Int) : Option (List Int) := (some (([] : List Int) : List Int)).bind fun y147 => (if y147.length + l0.length < 35184372088832 then (some (y147 ++ l0)) else (none))
set_option maxHeartbeats 60000000 in
set_option maxRecDepth 100000 in
theorem slices_Clone_int32_int32.calls_some (b0 : Addr) (c0 : Nat) (l0 : List Int) (r : List Int) (w : World) (hr0 : Kd.C (Kd.int .i32) w (some b0) l0.length l0) (hc0 : l0.length ≤ c0) (h : slices_Clone_int32_int32.f l0 = some r) :
  Calls Try.prog 43 #[.slice (some b0) l0.length c0] w fun e w' => ∃ v0_ : Value, e = .returned (v0_) ∧ Kd.R (Kd.int .i32) 21 w' w.heap.size (fun _ => True) v0_ r ∧ Below w.heap.size w w' := by
 have hq_ : ∀ W : World, (binOp .eql 22 (.slice (some b0) l0.length c0) (.slice none 0 0)).run Try.prog W = .ok (.bool false) W := fun W => Go.Lib.run_eql_slice_nil W 22 21 (some b0) l0.length c0 0 0 Try.underlying22
 have HR0 := Aside0.mk hr0
 have HC0 := Aside0.mk hc0
 clear hr0 hc0
 have HB := Aside0.mk (Below.refl w.heap.size w)
 have H : ((some (([] : List Int) : List Int)).bind fun y147 => (if y147.length + l0.length < 35184372088832 then (some (y147 ++ l0)) else (none))) = some r := h
 clear h
 obtain ⟨y147, hy147⟩ : ∃ y_ : List Int, y_ = (([] : List Int)) := ⟨_, rfl⟩
 replace H : (if y147.length + l0.length < 35184372088832 then (some (y147 ++ l0)) else (none)) = some r := by first | (rw [hy147]; with_reducible exact H) | (have H2_ := (Option.bind_some _ _).symm.trans H; rw [hy147]; with_reducible exact H2_) | (have H2_ := (Option.bind_some _ _).symm.trans H; with_reducible exact H2_) | with_reducible exact H | (rw [hy147]; exact H) | exact H
 have Ny147 := Aside0.mk hy147
 clear hy147
 by_cases c2 : y147.length + l0.length < 35184372088832
 rotate_left
 ·
  rw [if_neg c2] at H
  exact absurd H (by simp)

 rw [if_pos c2] at H
 have LMc2 := Aside0.mk c2
 clear c2
 obtain ⟨y150, hy150⟩ : ∃ y_ : List Int, y_ = (y147 ++ l0) := ⟨_, rfl⟩
 replace H : (some y150) = some r := by first | (rw [hy150]; with_reducible exact H) | (have H2_ := (Option.bind_some _ _).symm.trans H; rw [hy150]; with_reducible exact H2_) | (have H2_ := (Option.bind_some _ _).symm.trans H; with_reducible exact H2_) | with_reducible exact H | (rw [hy150]; exact H) | exact H
 have Ny150 := Aside0.mk hy150
 clear hy150
 obtain rfl := Option.some.inj H
 go_enter Try.func43, Try.ntmps43
 go_wp2_with (first | ((with_reducible refine gate_dst (N := 5) rfl ?_); refine Kd.R_lit (Kd.int .i32) _ 21 ?hg (N := 5) ?hd (xs := ([] : List Int)) (inner := []) (ok := fun _ => True) (okp := fun _ => True) ?hr ?hp (fun _ hk => hk) trivial (Below.refl _ _) (Nat.le_refl _) (by simp) ?_; (case hd => rfl); (case hg => rfl); (case hr => first | (go_simp; done) | (go_simp; rfl)); (case hp => exact (Reps.none _ _)); intro v148 w3 ho4 hb hg_ hnew_; clear hg_ hnew_; (first | rw [← Ny147.out] at ho4 | (simp only [Int.reduceToNat] at ho4; rw [← Ny147.out] at ho4)); have HO149 := Aside0.mk (Kd.R_lower ho4 (below_size (bw_ HB))); replace HB := Aside0.mk (below_step (bw_ HB) hb); clear hb ho4) | ((with_reducible refine gate_builtin (b := .append) (xs := #[.tmp 5, .tmp 6]) rfl ?_); at_builtin; refine Kd.R_append_rows (Kd.int .i32) (w0 := w) w.heap.size rfl (.tmp 5) (.tmp 6) 22 21 (.int .i32 0) 4 rfl Try.underlying22 info21 rfl (by decide) (by omega) v148 y147 l0 _ _ _ (fun _ => True) (fun _ => False) rfl rfl ?aO ?aR (fun _ _ h => h) (fun _ h => h.elim) ?aF ?aB ?aS ?aL ?_; (case aR => repeat (first | exact (Kd.C_below HR0.out HB.out) | (with_reducible refine Kd.C_alloc ?_ _) | (with_reducible refine Kd.C_drewN ?_ _) | (with_reducible refine Kd.C_drew ?_))); (case aB => exact (bw_ HB)); (case aF => exact (fun _ _ => trivial)); (case aO => exact (tR_ HO149)); (case aS => exact (below_size (bw_ HB))); (case aL => have := LMc2.out; omega); intro v151 w5 ho hb hg hat; rw [← Ny150.out] at ho; have n0_ := Aside0.mk (hb); have n1_ := Aside0.mk (ho); clear HB; clear HO149; have HB := n0_; have HO152 := n1_; clear n0_ n1_; clear ho hb hg hat))
 go_ret
 exact ⟨_, by first | rfl | (simp [errW_none, errW_some] <;> rfl) | (simp [*, errW_none, errW_some] <;> rfl), by (with_reducible repeat (first | apply Kd.R_alloc | apply Kd.R_drewN | apply Kd.R_drew)); exact HO152.out, by repeat (first | (with_reducible first | exact HB.out | apply b_a | apply b_n | apply b_d) | exact HB.out)⟩
set_option maxHeartbeats 8000000 in
set_option maxRecDepth 100000 in
theorem slices_Clone_int32_int32.calls (A0 : Option Addr) (c0 : Nat) (l0 : List Int) (r : List Int) (w : World) (hr0 : Kd.C (Kd.int .i32) w A0 l0.length l0) (hc0 : l0.length ≤ c0) (h : slices_Clone_int32_int32.f l0 = some r) :
  Calls Try.prog 43 #[.slice A0 l0.length c0] w fun e w' => ∃ v0_ : Value, e = .returned (v0_) ∧ Kd.R (Kd.int .i32) 21 w' w.heap.size (fun _ => True) v0_ r ∧ Below w.heap.size w w' := by
 cases A0 with
 | some b0 => exact slices_Clone_int32_int32.calls_some b0 c0 l0 r w hr0 hc0 h
 | none =>
  have hz : l0 = [] := by
   rcases Nat.eq_zero_or_pos l0.length with h0 | h0
   ·
    exact List.length_eq_zero_iff.1 h0
   ·
    obtain ⟨ad, e_, _⟩ := hr0.2.2 h0
    cases e_
  subst hz
  have hr_ : r = [] := by
   have h2 := h
   simp [slices_Clone_int32_int32.f] at h2
   exact h2
  subst hr_
  clear h hr0
  have hq_ : ∀ (W : World) (m : Nat), (binOp .eql 22 (.slice none m c0) (.slice none 0 0)).run Try.prog W = .ok (.bool true) W := fun W m => Go.Lib.run_eql_slice_nil W 22 21 none m c0 0 0 Try.underlying22
  go_enter Try.func43, Try.ntmps43
  go_wp2
  go_ret
  exact ⟨.slice none 0 0, rfl, Kd.R_nil _ _ _ _ _, Below.refl _ _⟩

/-! ### grid_Rows: function 30 -/
def grid_Rows.f (k : Nat) (a0_0 : Int) (a0_1 : Int) (l0_2 : List Int) (a1 : Int) (a2 : Int) : Option (Int × Int × List Int × Int) := (grid_cut.f k a0_0 a0_1 l0_2 a1 a2 a0_0).bind fun t155 => (if t155 = 0 then (if 0 ≤ (wrap64 (a1 * a0_1)) then (if (wrap64 (a1 * a0_1)) ≤ (wrap64 (a2 * a0_1)) then (if (wrap64 (a2 * a0_1)) ≤ (l0_2.length : Int) then ((slices_Clone_int32_int32.f ((l0_2.take ((wrap64 (a2 * a0_1)) : Int).toNat).drop ((wrap64 (a1 * a0_1)) : Int).toNat)).bind fun t157 => (some (wrap64 (a2 - a1), a0_1, t157, 0))) else (none)) else (none)) else (none)) else (some (0, 0, ([] : List Int), t155)))
theorem grid_Rows.mono : ∀ a0 a1 a2 a3 a4 k, LeO (grid_Rows.f k a0 a1 a2 a3 a4) (grid_Rows.f (k + 1) a0 a1 a2 a3 a4) := by
 intro a0 a1 a2 a3 a4 k
 unfold grid_Rows.f
 repeat' first
   | (with_reducible exact grid_cut.mono _ _ _ _ _ _ _)
   | (with_reducible exact LeO.refl _)
   | (with_reducible exact LeO.none _)
   | (with_reducible refine LeO.ite ?_ ?_)
   | (with_reducible refine LeO.bind ?_ (fun _ => ?_))
   | exact grid_cut.mono _ _ _ _ _ _ _
   | exact LeO.none _
   | refine LeO.ite ?_ ?_
   | refine LeO.bind ?_ (fun _ => ?_)
def grid_Rows.T4 : Bool × List (List Nat × List Nat) := (true, [([], []), ([], []), ([0, 1], [0, 1]), ([], []), ([3], [3]), ([], []), ([5], [5]), ([], []), ([], []), ([8], [8]), ([7, 9], [7, 9]), ([], []), ([], []), ([12], [12]), ([11, 13], [11, 13]), ([6, 10, 14], [6, 10, 14]), ([15], [15]), ([2, 4, 16], [2, 4, 16]), ([17, 16, 0, 1, 2, 3, 4, 5, 6, 7, 8, 9, 10, 11, 12, 13, 14, 15, 16, 17], [17]), ([18, 0, 1, 2, 3, 4, 5, 6, 7, 8, 9, 10, 11, 12, 13, 14, 15, 16, 17, 18], [])])
def grid_Rows.B4 : List Nat := [0, 0, 3, 0, 8, 0, 32, 0, 0, 256, 896, 0, 0, 4096, 14336, 32736, 65504, 131071, 262143, 524287]
theorem grid_Rows.tab4 : rtab .any (opsOf Try.f30 4) = grid_Rows.T4 := by kernel_rfl
theorem grid_Rows.bits4 : waitsOk grid_Rows.T4.2 grid_Rows.B4 = true := by kernel_rfl
set_option maxHeartbeats 60000000 in
set_option maxRecDepth 100000 in
theorem grid_Rows.calls (k : Nat) (a0_0 : Int) (a0_1 : Int) (A0_2 : Option Addr) (c0_2 : Nat) (l0_2 : List Int) (a1 : Int) (a2 : Int) (r1 : Int) (r2 : Int) (r3 : List Int) (r4 : Int) (w : World) (hr0_2 : Kd.C (Kd.int .i32) w A0_2 l0_2.length l0_2) (hc0_2 : l0_2.length ≤ c0_2) (h : grid_Rows.f k a0_0 a0_1 l0_2 a1 a2 = some (r1, r2, r3, r4)) :
  Calls Try.prog 30 #[.agg #[.int .i64 a0_0, .int .i64 a0_1, .slice A0_2 l0_2.length c0_2], .int .i64 a1, .int .i64 a2] w fun e w' => ∃ v2_ : Value, e = .returned (.tuple #[.agg #[.int .i64 r1, .int .i64 r2, v2_], .int .i64 r4]) ∧ Kd.R (Kd.int .i32) 21 w' w.heap.size (fun _ => True) v2_ r3 ∧ Below w.heap.size w w' := by
 have hu24 := Try.underlying24
 have HR0_2 := Aside0.mk hr0_2
 have HC0_2 := Aside0.mk hc0_2
 clear hr0_2 hc0_2
 have HB := Aside0.mk (Below.refl w.heap.size w)
 have H : ((grid_cut.f k a0_0 a0_1 l0_2 a1 a2 a0_0).bind fun t155 => (if t155 = 0 then (if 0 ≤ (wrap64 (a1 * a0_1)) then (if (wrap64 (a1 * a0_1)) ≤ (wrap64 (a2 * a0_1)) then (if (wrap64 (a2 * a0_1)) ≤ (l0_2.length : Int) then ((slices_Clone_int32_int32.f ((l0_2.take ((wrap64 (a2 * a0_1)) : Int).toNat).drop ((wrap64 (a1 * a0_1)) : Int).toNat)).bind fun t157 => (some (wrap64 (a2 - a1), a0_1, t157, 0))) else (none)) else (none)) else (none)) else (some (0, 0, ([] : List Int), t155)))) = some (r1, r2, r3, r4) := h
 clear h
 replace H := Option.bind_eq_some_iff.mp H
 obtain ⟨t155, A40, H⟩ := H
 replace H : (if t155 = 0 then (if 0 ≤ (wrap64 (a1 * a0_1)) then (if (wrap64 (a1 * a0_1)) ≤ (wrap64 (a2 * a0_1)) then (if (wrap64 (a2 * a0_1)) ≤ (l0_2.length : Int) then ((slices_Clone_int32_int32.f ((l0_2.take ((wrap64 (a2 * a0_1)) : Int).toNat).drop ((wrap64 (a1 * a0_1)) : Int).toNat)).bind fun t157 => (some (wrap64 (a2 - a1), a0_1, t157, 0))) else (none)) else (none)) else (none)) else (some (0, 0, ([] : List Int), t155))) = some (r1, r2, r3, r4) := H
 have A4 := Aside0.mk A40
 clear A40
 by_cases c5 : t155 = 0
 rotate_left
 ·
  rw [if_neg c5] at H
  have c5b0 : (t155 == 0) = false := beq_eq_false_iff_ne.mpr c5
  have c5b1 : (t155 != 0) = true := bne_iff_ne.mpr c5
  simp only [Option.some.injEq, Prod.mk.injEq] at H
  obtain ⟨rfl, rfl, rfl, rfl⟩ := H
  go_enter Try.func30, Try.ntmps30
  go_wp2_with (first | ((with_reducible refine gate_dst (N := 3) rfl ?_); refine box_event ?hg (N := 3) ?hd (cs := #[.int .i64 a0_0, .int .i64 a0_1, .slice A0_2 l0_2.length c0_2]) (t := 24) ?hr ?_; (case hd => rfl); (case hg => rfl); (case hr => first | (go_simp; done) | (go_simp; rfl)); intro gb153 hg w23 hbox hb; have BK153 := Aside0.mk (hbox); have GW153 := Aside0.mk ((by rw [hg]; exact (below_size (bw_ HB)) : w.heap.size ≤ gb153)); have GE153 := Aside0.mk ((by rw [hg]; exact (below_size (bw_ HB)) : w.heap.size ≤ gb153)); replace HB := Aside0.mk (below_step (bw_ HB) hb); clear hb hbox hg) | ((with_reducible refine gate_dst (N := 6) rfl ?_); refine box_event ?hg (N := 6) ?hd (cs := #[.int .i64 0, .int .i64 0, .slice none 0 0]) (t := 24) ?hr ?_; (case hd => rfl); (case hg => rfl); (case hr => first | (go_simp; done) | (go_simp; rfl)); intro gb154 hg w24 hbox hb; have BK154 := Aside0.mk (hbox); have GW154 := Aside0.mk ((by rw [hg]; exact (below_size (bw_ HB)) : w.heap.size ≤ gb154)); have GE154 := Aside0.mk ((by rw [hg]; exact (below_size (bw_ HB)) : w.heap.size ≤ gb154)); have NB153_154 := Aside0.mk ((by rw [hg]; exact Nat.ne_of_lt (blk_lt (tk_ BK153)) : gb153 ≠ gb154)); have NB154_153 := Aside0.mk ((by rw [hg]; exact Nat.ne_of_gt (blk_lt (tk_ BK153)) : gb154 ≠ gb153)); replace BK153 := Aside0.mk (blk_below (tk_ BK153) hb); replace HB := Aside0.mk (below_step (bw_ HB) hb); clear hb hbox hg; have hnb25 := NB153_154.out; have hnc25 := NB154_153.out; have hcz26_0 := bc_0 BK153; have hcz26_1 := bc_1 BK153; have hcz26_2 := bc_2 BK153; have hfz26_0 := blk_frozen BK153.out 0; have hfz26_1 := blk_frozen BK153.out 1; have hfz26_2 := blk_frozen BK153.out 2) | ((with_reducible refine gate_callee (f := 42) rfl ?_); refine goesL_ (some 14) rfl rfl Try.func42 (by kernel_rfl) rfl #[.agg #[.int .i64 a0_0, .int .i64 a0_1, .slice A0_2 l0_2.length c0_2], .int .i64 a1, .int .i64 a2, .int .i64 a0_0] rfl (by (try simp only [l_4, l_5, l_6]); first | done | rfl | (simp only [l_7, l_8]; rfl)) ?_; (with_reducible refine (grid_cut.calls k a0_0 a0_1 (fun k_ => k_ < w.heap.size) _ _ l0_2 a1 a2 a0_0 t155 _ ?side1 A4.out).mono ?_); (case side1 => exact Kd.V_mk HC0_2.out (Kd.F_below (Kd.C_F (Kd.heap_int .i32) HR0_2.out) (bw_ HB))); rintro e w27 ⟨rfl, hb⟩; (try clear A4); refine ⟨_, rfl, ?_⟩; replace BK153 := Aside0.mk (blk_below (tk_ BK153) hb); replace BK154 := Aside0.mk (blk_below (tk_ BK154) hb); replace HB := Aside0.mk (below_step (bw_ HB) hb); (try clear hb); (try clear hb2); (try clear hk); (try clear hi); have hcz28_0 := bc_0 BK154; have hcz28_1 := bc_1 BK154; have hcz28_2 := bc_2 BK154; have hfz28_0 := blk_frozen BK154.out 0; have hfz28_1 := blk_frozen BK154.out 1; have hfz28_2 := blk_frozen BK154.out 2))
  refine bodyPost_ret (results_ct rfl _ _ gb154 24 #[.int .i64 0, .int .i64 0, .slice none 0 0] (0, 0) _ rfl (by (with_reducible repeat (first | refine k_n ?_ _ | refine k_d ?_ | refine k_a ?_ _)); refine blk_put (cs := #[.int .i64 0, .int .i64 0, .slice none 0 0]) ?_ 2 _ rfl; (with_reducible repeat (first | refine k_n ?_ _ | refine k_d ?_ | refine k_a ?_ _)); refine blk_put (cs := #[.int .i64 0, .int .i64 0, .slice none 0 0]) ?_ 1 _ rfl; (with_reducible repeat (first | refine k_n ?_ _ | refine k_d ?_ | refine k_a ?_ _)); refine blk_put (cs := #[.int .i64 0, .int .i64 0, .slice none 0 0]) ?_ 0 _ rfl; (with_reducible repeat (first | refine k_n ?_ _ | refine k_d ?_ | refine k_a ?_ _)); exact BK154.out) Try.underlying24 rfl (by kernel_rfl)) rfl ?_
  exact ⟨_, by first | rfl | (simp [errW_none, errW_some] <;> rfl) | (simp [*, errW_none, errW_some] <;> rfl), by first | exact Kd.R_nil _ _ _ _ _ | exact Kd.N_nil _ _ _ _ _ | exact Kd.V_nil _ _ _ _ _ | exact Kd.Q_nil _ _ _ _ _ | exact Kd.S_nil _ _ _ _ _, by repeat (first | (with_reducible first | exact HB.out | apply b_a | apply b_n | apply b_d | refine b_s ?_ GE153.out | refine b_s ?_ GE154.out) | exact HB.out)⟩

 rw [if_pos c5] at H
 have c5b0 : (t155 == 0) = true := beq_iff_eq.mpr c5
 have c5b1 : (t155 != 0) = false := bne_eq_false_iff_eq.mpr c5
 clear c5
 obtain ⟨ji6, hji6⟩ : ∃ j_ : Int, (wrap64 (a1 * a0_1)) = j_ := ⟨_, rfl⟩
 replace H : (if 0 ≤ (ji6) then (if (ji6) ≤ (wrap64 (a2 * a0_1)) then (if (wrap64 (a2 * a0_1)) ≤ (l0_2.length : Int) then ((slices_Clone_int32_int32.f ((l0_2.take ((wrap64 (a2 * a0_1)) : Int).toNat).drop ((ji6) : Int).toNat)).bind fun t157 => (some (wrap64 (a2 - a1), a0_1, t157, 0))) else (none)) else (none)) else (none)) = some (r1, r2, r3, r4) := by first | (rw [hji6] at H; exact H) | (simp only [hji6] at H ⊢; exact H)
 (try rw [hji6] at A4)
 have hji6w : (IntKind.i64.wrap (a1 * a0_1)) = ji6 := (i64_w _).trans hji6
 by_cases c7 : 0 ≤ (ji6)
 rotate_left
 ·
  rw [if_neg c7] at H
  exact absurd H (by simp)
 rw [if_pos c7] at H
 have c7b0 := eq_true c7
 have c7b1 : decide (0 ≤ (ji6)) = true := decide_eq_true c7
 clear c7
 by_cases c8 : (ji6) ≤ (wrap64 (a2 * a0_1))
 rotate_left
 ·
  rw [if_neg c8] at H
  exact absurd H (by simp)
 rw [if_pos c8] at H
 have c8b0 := eq_true c8
 have c8b1 : decide ((ji6) ≤ (wrap64 (a2 * a0_1))) = true := decide_eq_true c8
 clear c8
 by_cases c9 : (wrap64 (a2 * a0_1)) ≤ (l0_2.length : Int)
 rotate_left
 ·
  rw [if_neg c9] at H
  exact absurd H (by simp)
 rw [if_pos c9] at H
 have c9b0 := eq_true c9
 have c9b1 : decide ((wrap64 (a2 * a0_1)) ≤ (l0_2.length : Int)) = true := decide_eq_true c9
 clear c9
 replace H := Option.bind_eq_some_iff.mp H
 obtain ⟨t157, A100, H⟩ := H
 replace H : (some (wrap64 (a2 - a1), a0_1, t157, 0)) = some (r1, r2, r3, r4) := H
 have A10 := Aside0.mk A100
 clear A100
 simp only [Option.some.injEq, Prod.mk.injEq] at H
 obtain ⟨rfl, rfl, rfl, rfl⟩ := H
 go_enter Try.func30, Try.ntmps30
 try go_wp2_with (first | ((with_reducible refine gate_dst (N := 3) rfl ?_); refine box_event ?hg (N := 3) ?hd (cs := #[.int .i64 a0_0, .int .i64 a0_1, .slice A0_2 l0_2.length c0_2]) (t := 24) ?hr ?_; (case hd => rfl); (case hg => rfl); (case hr => first | (go_simp; done) | (go_simp; rfl)); intro gb153 hg w11 hbox hb; have BK153 := Aside0.mk (hbox); have GW153 := Aside0.mk ((by rw [hg]; exact (below_size (bw_ HB)) : w.heap.size ≤ gb153)); have GE153 := Aside0.mk ((by rw [hg]; exact (below_size (bw_ HB)) : w.heap.size ≤ gb153)); replace HB := Aside0.mk (below_step (bw_ HB) hb); clear hb hbox hg) | ((with_reducible refine gate_dst (N := 6) rfl ?_); refine box_event ?hg (N := 6) ?hd (cs := #[.int .i64 0, .int .i64 0, .slice none 0 0]) (t := 24) ?hr ?_; (case hd => rfl); (case hg => rfl); (case hr => first | (go_simp; done) | (go_simp; rfl)); intro gb154 hg w12 hbox hb; have BK154 := Aside0.mk (hbox); have GW154 := Aside0.mk ((by rw [hg]; exact (below_size (bw_ HB)) : w.heap.size ≤ gb154)); have GE154 := Aside0.mk ((by rw [hg]; exact (below_size (bw_ HB)) : w.heap.size ≤ gb154)); have NB153_154 := Aside0.mk ((by rw [hg]; exact Nat.ne_of_lt (blk_lt (tk_ BK153)) : gb153 ≠ gb154)); have NB154_153 := Aside0.mk ((by rw [hg]; exact Nat.ne_of_gt (blk_lt (tk_ BK153)) : gb154 ≠ gb153)); replace BK153 := Aside0.mk (blk_below (tk_ BK153) hb); replace HB := Aside0.mk (below_step (bw_ HB) hb); clear hb hbox hg; have hnb13 := NB153_154.out; have hnc13 := NB154_153.out; have hcz14_0 := bc_0 BK153; have hcz14_1 := bc_1 BK153; have hcz14_2 := bc_2 BK153; have hfz14_0 := blk_frozen BK153.out 0; have hfz14_1 := blk_frozen BK153.out 1; have hfz14_2 := blk_frozen BK153.out 2) | ((with_reducible refine gate_callee (f := 42) rfl ?_); refine goesL_ (some 14) rfl rfl Try.func42 (by kernel_rfl) rfl #[.agg #[.int .i64 a0_0, .int .i64 a0_1, .slice A0_2 l0_2.length c0_2], .int .i64 a1, .int .i64 a2, .int .i64 a0_0] rfl (by (try simp only [l_4, l_5, l_6]); first | done | rfl | (simp only [l_7, l_8]; rfl)) ?_; (with_reducible refine (grid_cut.calls k a0_0 a0_1 (fun k_ => k_ < w.heap.size) _ _ l0_2 a1 a2 a0_0 t155 _ ?side1 A4.out).mono ?_); (case side1 => exact Kd.V_mk HC0_2.out (Kd.F_below (Kd.C_F (Kd.heap_int .i32) HR0_2.out) (bw_ HB))); rintro e w15 ⟨rfl, hb⟩; (try clear A4); refine ⟨_, rfl, ?_⟩; replace BK153 := Aside0.mk (blk_below (tk_ BK153) hb); replace BK154 := Aside0.mk (blk_below (tk_ BK154) hb); replace HB := Aside0.mk (below_step (bw_ HB) hb); (try clear hb); (try clear hb2); (try clear hk); (try clear hi)))
 replace BK153 := Aside0.mk (k_d BK153.out)
 replace BK154 := Aside0.mk (k_d BK154.out)
 replace HB := Aside0.mk (b_d HB.out)
 obtain ⟨i017, hi017, _, hsz17, _⟩ := info_parts info21
 obtain ⟨A17, hcut17, hA17, hC17⟩ := print_mid_of (P := Try.prog) (Value.int .i32) 0 22 21 .i64 .i64 Try.underlying22 hi017 hsz17 A0_2 c0_2 l0_2 (ji6) (wrap64 (a2 * a0_1)) (of_decide_eq_true (by first | (with_reducible assumption) | assumption)) (by first | omega | exact of_decide_eq_true (by first | (with_reducible assumption) | assumption)) (of_decide_eq_true (by first | (with_reducible assumption) | assumption)) HC0_2.out
 have HR156 := Aside0.mk (Kd.C_of_reads (h1 := fun _ => rfl) (hA17 _ (Kd.reads_of_C HR0_2.out)))
 have HC156 := Aside0.mk hC17
 clear hA17 hC17 hi017 hsz17
 refine start_ (n := 20) (S := fun w' => w'.cell? ⟨gb153, 0, none⟩ = some (.int .i64 a0_0) ∧ w'.cell? ⟨gb153, 1, none⟩ = some (.int .i64 a0_1) ∧ w'.cell? ⟨gb153, 2, none⟩ = some (.slice A0_2 l0_2.length c0_2)) (ds := []) #[false, false, false, false, false, false, false, false, false, false, false, false, false, false, false, false, false, false, false, false] (by kernel_rfl) rfl rfl ⟨(blk_cell BK153.out 0).trans rfl, (blk_cell BK153.out 1).trans rfl, (blk_cell BK153.out 2).trans rfl⟩ (fun hHeld => ?_); refine with_tabW grid_Rows.tab4 grid_Rows.bits4 (fun HT_ HW_ => ?_)
 generalize w15.drew = w16 at BK153 BK154 HB HR156 hHeld ⊢
 refine pu_ (i := 0) (N := some 19) (bs_ 20 1) rfl rfl HT_ ?_
 refine pu_ (i := 1) (N := some 20) (bs_ 20 3) rfl rfl HT_ ?_
 refine pu_ (i := 2) (N := some 21) (bs_ 20 7) rfl rfl HT_ ?_
 refine pu_ (i := 3) (N := some 22) (bs_ 20 15) rfl rfl HT_ ?_
 refine pu_ (i := 5) (N := some 24) (bs_ 20 47) rfl rfl HT_ ?_
 refine pu_ (i := 7) (N := some 26) (bs_ 20 175) rfl rfl HT_ ?_
 refine pu_ (i := 8) (N := some 27) (bs_ 20 431) rfl rfl HT_ ?_
 refine pu_ (i := 11) (N := some 30) (bs_ 20 2479) rfl rfl HT_ ?_
 refine pu_ (i := 12) (N := some 31) (bs_ 20 6575) rfl rfl HT_ ?_
 refine take_ (i := 4) (N := some 23) (v := ?_) (a' := ?_) (bs_ 20 6591) rfl rfl (take_ofW HT_.out HW_.out (by kernel_rfl)) (fun _ _ _ h => h) (Or.inl ⟨by rfl, ?_⟩) hHeld ?_ ?_
 rotate_left
 ·
  rintro w' ⟨s0, s1, s2⟩
  go_simp
  with_reducible rfl
 rotate_left
 ·
  simp only [Act.put, l_1, l_2, l_3, i64_w, i32_w]
  rfl
 refine take_ (i := 6) (N := some 25) (v := ?_) (a' := ?_) (bs_ 20 6655) rfl rfl (take_ofW HT_.out HW_.out (by kernel_rfl)) (fun _ _ _ h => h) (Or.inl ⟨by rfl, ?_⟩) hHeld ?_ ?_
 rotate_left
 ·
  rintro w' ⟨s0, s1, s2⟩
  go_simp
  with_reducible rfl
 rotate_left
 ·
  simp only [Act.put, l_1, l_2, l_3, i64_w, i32_w]
  rfl
 refine take_ (i := 9) (N := some 28) (v := ?_) (a' := ?_) (bs_ 20 7167) rfl rfl (take_ofW HT_.out HW_.out (by kernel_rfl)) (fun _ _ _ h => h) (Or.inl ⟨by rfl, ?_⟩) hHeld ?_ ?_
 rotate_left
 ·
  rintro w' ⟨s0, s1, s2⟩
  go_simp
  with_reducible rfl
 rotate_left
 ·
  simp only [Act.put, l_1, l_2, l_3, i64_w, i32_w]
  rfl
 refine pu_ (i := 10) (N := some 29) (bs_ 20 8191) rfl rfl HT_ ?_
 refine take_ (i := 13) (N := some 32) (v := ?_) (a' := ?_) (bs_ 20 16383) rfl rfl (take_ofW HT_.out HW_.out (by kernel_rfl)) (fun _ _ _ h => h) (Or.inl ⟨by rfl, ?_⟩) hHeld ?_ ?_
 rotate_left
 ·
  rintro w' ⟨s0, s1, s2⟩
  go_simp
  with_reducible rfl
 rotate_left
 ·
  simp only [Act.put, l_1, l_2, l_3, i64_w, i32_w]
  rfl
 refine pu_ (i := 14) (N := some 33) (bs_ 20 32767) rfl rfl HT_ ?_
 refine pu_ (i := 15) (N := some 34) (bs_ 20 65535) rfl rfl HT_ ?_
 refine one_ (i := 16) (N := some 35) (bs_ 20 131071) rfl rfl (one_of HT_.out (by kernel_rfl)) (by decide) (fun K hK => ?_)
 refine goes_ Try.func43 (by kernel_rfl) rfl #[.slice A17 ((l0_2.take ((wrap64 (a2 * a0_1)) : Int).toNat).drop ((ji6) : Int).toNat).length (c0_2 - (ji6).toNat)] (by rfl) rfl rfl (by (try simp only [l_4, l_5, l_6]); first | done | (rw [show ((l0_2.take ((wrap64 (a2 * a0_1)) : Int).toNat).drop ((ji6) : Int).toNat).length = ((wrap64 (a2 * a0_1)).toNat - (ji6).toNat) from (by rw [l_7, l_8]; have h_ : ((wrap64 (a2 * a0_1)) : Int) ≤ (l0_2.length : Int) := of_decide_eq_true (by first | (with_reducible assumption) | assumption); omega)] <;> rfl) | (simp only [hji6]; rfl) | rfl | (simp only [l_7, l_8]; rfl)) ?_
 with_reducible refine (slices_Clone_int32_int32.calls _ _ ((l0_2.take ((wrap64 (a2 * a0_1)) : Int).toNat).drop ((ji6) : Int).toNat) t157 _ ?side1 ?side2 A10.out).mono ?_
 (case side1 => repeat (first | exact (Kd.C_below HR156.out HB.out) | (with_reducible refine Kd.C_alloc ?_ _) | (with_reducible refine Kd.C_drewN ?_ _) | (with_reducible refine Kd.C_drew ?_)))
 (case side2 => exact HC156.out)
 rintro e w18 ⟨v158, rfl, ho0, hb⟩
 refine ⟨_, rfl, ?_⟩
 have HO159 := Aside0.mk (Kd.R_lower ho0 (below_size (bw_ HB)))
 replace BK153 := Aside0.mk (blk_below (tk_ BK153) hb)
 replace BK154 := Aside0.mk (blk_below (tk_ BK154) hb)
 replace HB := Aside0.mk (below_step (bw_ HB) hb)
 (try clear hb)
 (try clear hb2)
 (try clear hk)
 (try clear hi)
 (try clear ho0)
 obtain ⟨Ao19, co19, eo19⟩ := Kd.R_slice HO159.out
 (first | subst eo19 | (injection eo19 with f1_ f2_ f3_; have f4_ := f1_.symm; have f5_ := f3_.symm; clear f1_ f2_ f3_; subst f4_; subst f5_))
 refine hK.out _ _ ⟨(blk_cell BK153.out 0).trans rfl, (blk_cell BK153.out 1).trans rfl, (blk_cell BK153.out 2).trans rfl⟩ (fun hHeld => ?_)
 clear hK K
 refine no_ (N := some 35) ?_
 refine pu_ (i := 17) (N := some 36) (bs_ 20 262143) rfl rfl HT_ ?_
 refine one_ (i := 18) (N := none) (bs_ 20 524287) rfl rfl (one_of HT_.out (by kernel_rfl)) (by decide) (fun K hK => ?_)
 have hs20 := bc_0 BK154
 have hfs20 := blk_frozen BK154.out 0
 have hns20_0 := NB153_154.out
 have hms20_0 := NB154_153.out
 have hs21 := bc_1 BK154
 have hfs21 := blk_frozen BK154.out 1
 have hns21_0 := NB153_154.out
 have hms21_0 := NB154_153.out
 have hs22 := bc_2 BK154
 have hfs22 := blk_frozen BK154.out 2
 have hns22_0 := NB153_154.out
 have hms22_0 := NB154_153.out
 refine skip_ (w1 := ?_) (by rfl) rfl ?_ ?_
 rotate_left
 ·
  go_simp
  rfl
 refine hK.out _ _ ⟨((cell_far (p := ⟨gb154, _, none⟩) NB153_154.out _).trans (((cell_far (p := ⟨gb154, _, none⟩) NB153_154.out _).trans (((cell_far (p := ⟨gb154, _, none⟩) NB153_154.out _).trans (hHeld.1)))))), ((cell_far (p := ⟨gb154, _, none⟩) NB153_154.out _).trans (((cell_far (p := ⟨gb154, _, none⟩) NB153_154.out _).trans (((cell_far (p := ⟨gb154, _, none⟩) NB153_154.out _).trans (hHeld.2.1)))))), ((cell_far (p := ⟨gb154, _, none⟩) NB153_154.out _).trans (((cell_far (p := ⟨gb154, _, none⟩) NB153_154.out _).trans (((cell_far (p := ⟨gb154, _, none⟩) NB153_154.out _).trans (hHeld.2.2))))))⟩ (fun hHeld => ?_)
 clear hK K
 refine pu_ (i := 19) (N := some 7) (bs_ 20 1048575) rfl rfl HT_ ?_
 refine done_ (done_of HT_.out (by kernel_rfl)) ?_
 try go_wp2
 refine bodyPost_ret (results_ct rfl _ _ gb154 24 #[.int .i64 (wrap64 (a2 - a1)), .int .i64 a0_1, .slice Ao19 t157.length co19] (0, 0) _ rfl (by (with_reducible repeat (first | refine k_n ?_ _ | refine k_d ?_ | refine k_a ?_ _)); refine blk_put (cs := #[.int .i64 (wrap64 (a2 - a1)), .int .i64 a0_1, .slice none 0 0]) ?_ 2 _ rfl; (with_reducible repeat (first | refine k_n ?_ _ | refine k_d ?_ | refine k_a ?_ _)); refine blk_put (cs := #[.int .i64 (wrap64 (a2 - a1)), .int .i64 0, .slice none 0 0]) ?_ 1 _ rfl; (with_reducible repeat (first | refine k_n ?_ _ | refine k_d ?_ | refine k_a ?_ _)); refine blk_put (cs := #[.int .i64 0, .int .i64 0, .slice none 0 0]) ?_ 0 _ rfl; (with_reducible repeat (first | refine k_n ?_ _ | refine k_d ?_ | refine k_a ?_ _)); exact BK154.out) Try.underlying24 rfl (by kernel_rfl)) rfl ?_
 exact ⟨_, by first | rfl | (simp [errW_none, errW_some] <;> rfl) | (simp only [← hji6]; first | rfl | (simp [errW_none, errW_some] <;> rfl)) | (simp [*, errW_none, errW_some] <;> rfl), by (with_reducible repeat (first | apply Kd.R_alloc | apply Kd.R_drewN | apply Kd.R_drew)); exact Kd.R_mono (Kd.R_far (p := ⟨gb154, 2, none⟩) (Kd.R_far (p := ⟨gb154, 1, none⟩) (Kd.R_far (p := ⟨gb154, 0, none⟩) (Kd.R_types HO159.out BK154.out (by decide)) (fun _ hk => hk.2) (.int .i64 (wrap64 (a2 - a1)))) (fun _ hk => hk.2) (.int .i64 a0_1)) (fun _ hk => hk.2) (.slice Ao19 t157.length co19)) (fun _ hk => trivial), by repeat (first | (with_reducible first | exact HB.out | apply b_a | apply b_n | apply b_d | refine b_s ?_ GE153.out | refine b_s ?_ GE154.out) | exact HB.out)⟩
end Go.Proofs.Ytggcgacndknlaaa.QGridCuts
