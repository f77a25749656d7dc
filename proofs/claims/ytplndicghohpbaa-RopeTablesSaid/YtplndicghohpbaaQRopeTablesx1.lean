-- Written by a program of this session (a turned copy of the print) out of the translation. Lean checks it.
import Derived.Test.YtplndicghohpbaaQRopeTablesx0
namespace Go.Proofs.Ytplndicghohpbaa.QRopeTables
open Go.RowKit Go.Proofs.YtplndicghohpbaaW.PrintWords Go.Proofs.YtplndicghohpbaaW.PrintLast Go.Proofs.YtplndicghohpbaaW.PrintMore
attribute [local go_sem] max2_int min2_int max_two min_two max_three min_three max_four min_four   -- for this text's walks alone
open Go.Proofs.YtplndicghohpbaaW.PrintWords renaming below_alloc → b_a, pw_below_drewN → b_n, below_drew1 → b_d, below_set → b_s, blk_drewN → k_n, blk_drew → k_d, blk_alloc → k_a
open List renaming setIfInBounds_toArray → l_1, set_cons_zero → l_2, set_cons_succ → l_3, map_toArray → l_4, map_cons → l_5, map_nil → l_6, length_drop → l_7, length_take → l_8
set_option linter.unusedVariables false
set_option linter.unusedSimpArgs false

/-! ### rope_step: function 19, by hand -/
def rope_step.tab : List Int := [0, 804, 1606, 2404, 3196, 3981, 4756, 5520, 6270, 7005, 7723, 8423, 9102, 9760, 10394, 11003, 11585, 12140, 12665, 13160, 13623, 14053, 14449, 14811, 15137, 15426, 15679, 15893, 16069, 16207, 16305, 16364, 16384]
def rope_step.f (a0 : Int) : Option (Int) := if 0 ≤ a0 then (some (rd rope_step.tab (mn a0 32))) else (none)
theorem rope_step.info : (Try.prog.info? 50).map (·.size) = some 33 := by kernel_rfl
theorem rope_step.zero : ((Try.prog.info? 50).bind (·.zero)).map (·.cells.size) = some 33 := by kernel_rfl
theorem rope_step.store (w : World) : (storeCells ⟨w.heap.size, 0, none⟩ (List.map (Value.int .i16) rope_step.tab)).run Try.prog (w.alloc (.cells #[Value.int .i16 0, Value.int .i16 0, Value.int .i16 0, Value.int .i16 0, Value.int .i16 0, Value.int .i16 0, Value.int .i16 0, Value.int .i16 0, Value.int .i16 0, Value.int .i16 0, Value.int .i16 0, Value.int .i16 0, Value.int .i16 0, Value.int .i16 0, Value.int .i16 0, Value.int .i16 0, Value.int .i16 0, Value.int .i16 0, Value.int .i16 0, Value.int .i16 0, Value.int .i16 0, Value.int .i16 0, Value.int .i16 0, Value.int .i16 0, Value.int .i16 0, Value.int .i16 0, Value.int .i16 0, Value.int .i16 0, Value.int .i16 0, Value.int .i16 0, Value.int .i16 0, Value.int .i16 0, Value.int .i16 0] 50)) = .ok () (w.alloc (.cells (List.map (Value.int .i16) rope_step.tab).toArray 50)) :=
  run_storeCells_new w 50 _ (List.map (Value.int .i16) rope_step.tab).toArray rope_step.info rfl (by simp [Value.oneCell'])
theorem rope_step.cell (w : World) (m : Int) (h0 : 0 ≤ m) (h1 : m < 33) : (w.alloc (.cells (List.map (Value.int .i16) rope_step.tab).toArray 50)).cell? ⟨w.heap.size, m.toNat, none⟩ = some (.int .i16 (rd rope_step.tab m)) := by
  rw [cell_of_row _ _ _ _ _ _ (heap_alloc_last _ _)]
  have hl : m.toNat < rope_step.tab.length := by have : rope_step.tab.length = 33 := rfl; omega
  simp [rd, List.getD, hl]
theorem rope_step.small : ∀ i : Nat, i < 33 → wrap64 (rd rope_step.tab (i : Int)) = rd rope_step.tab (i : Int) := by decide +kernel
theorem rope_step.ret {a b : Int} (h : a = b) : Ending.returned (.int .i64 a) = .returned (.int .i64 b) := by rw [h]
theorem rope_step.calls (a0 : Int) (r : Int) (w : World) (h : rope_step.f a0 = some r) :
    Calls Try.prog 19 #[.int .i64 a0] w fun e w' => e = .returned (.int .i64 r) ∧ Below w.heap.size w w' := by
  have HB := Aside0.mk (Below.refl w.heap.size w)
  unfold rope_step.f at h
  have h0 : 0 ≤ a0 := by
    by_cases h0 : 0 ≤ a0
    · exact h0
    · rw [if_neg h0] at h; cases h
  rw [if_pos h0] at h
  obtain rfl := Option.some.inj h
  clear h
  obtain ⟨m, hm⟩ : ∃ m, mn a0 32 = m := ⟨_, rfl⟩
  have hm0 : 0 ≤ m := by rw [← hm]; unfold mn; split <;> omega
  have hm1 : m < 33 := by rw [← hm]; unfold mn; split <;> omega
  have hmn : (if a0 < 32 then a0 else 32) = m := by rw [← hm]; unfold mn; (repeat' split) <;> omega
  have hmn2 : (if 32 < a0 then 32 else a0) = m := by rw [← hm]; unfold mn; (repeat' split) <;> omega
  have Hs : Aside0 (wrap64 (rd rope_step.tab m) = rd rope_step.tab m) := ⟨by
    have := rope_step.small m.toNat (by omega)
    rwa [show ((m.toNat : Nat) : Int) = m by omega] at this⟩
  rw [hm]
  clear hm
  go_enter Try.func19, Try.ntmps19
  have hst := rope_step.store w
  have hcl := rope_step.cell w m hm0 hm1
  go_wp2_with (first | (refine wpList_buildFlatArr rfl 50 49 33 _ rfl .i16 rope_step.tab Try.underlying50 (by kernel_rfl) rope_step.zero (by kernel_rfl) ?_))
  go_ret
  exact ⟨rope_step.ret Hs.out, by repeat (first | (with_reducible first | exact HB.out | apply b_a | apply b_n | apply b_d) | exact HB.out)⟩
/-! ### round_Shift: function 20 -/
def round_Shift.f (a0 : Int) (a1 : Int) : Option (Int) := if (Go.bits .and .u64 (IntKind.u64.wrap (a0)) (IntKind.u64.wrap ((IntKind.u64.wrap (2 ^ (mn (mx a1 0) 62).toNat)) - 1))) > ((IntKind.u64.wrap (2 ^ (mn (mx a1 0) 62).toNat)) / 2) then (some (wrap64 ((a0 / 2 ^ (mn (mx a1 0) 62).toNat) + 1))) else (if (Go.bits .and .u64 (IntKind.u64.wrap (a0)) (IntKind.u64.wrap ((IntKind.u64.wrap (2 ^ (mn (mx a1 0) 62).toNat)) - 1))) = ((IntKind.u64.wrap (2 ^ (mn (mx a1 0) 62).toNat)) / 2) then (if (mn (mx a1 0) 62) > 0 then (if (Go.bits .and .i64 (a0 / 2 ^ (mn (mx a1 0) 62).toNat) 1) = 1 then (some (wrap64 ((a0 / 2 ^ (mn (mx a1 0) 62).toNat) + 1))) else (some (a0 / 2 ^ (mn (mx a1 0) 62).toNat))) else (some (a0 / 2 ^ (mn (mx a1 0) 62).toNat))) else (some (a0 / 2 ^ (mn (mx a1 0) 62).toNat)))
set_option maxHeartbeats 60000000 in
set_option maxRecDepth 100000 in
theorem round_Shift.calls (a0 : Int) (a1 : Int) (r : Int) (w : World) (h : round_Shift.f a0 a1 = some r) :
  Calls Try.prog 20 #[.int .i64 a0, .int .i64 a1] w fun e w' => e = .returned (.int .i64 r) ∧ Below w.heap.size w w' := by
 have HB := Aside0.mk (Below.refl w.heap.size w)
 have H : (if (Go.bits .and .u64 (IntKind.u64.wrap (a0)) (IntKind.u64.wrap ((IntKind.u64.wrap (2 ^ (mn (mx a1 0) 62).toNat)) - 1))) > ((IntKind.u64.wrap (2 ^ (mn (mx a1 0) 62).toNat)) / 2) then (some (wrap64 ((a0 / 2 ^ (mn (mx a1 0) 62).toNat) + 1))) else (if (Go.bits .and .u64 (IntKind.u64.wrap (a0)) (IntKind.u64.wrap ((IntKind.u64.wrap (2 ^ (mn (mx a1 0) 62).toNat)) - 1))) = ((IntKind.u64.wrap (2 ^ (mn (mx a1 0) 62).toNat)) / 2) then (if (mn (mx a1 0) 62) > 0 then (if (Go.bits .and .i64 (a0 / 2 ^ (mn (mx a1 0) 62).toNat) 1) = 1 then (some (wrap64 ((a0 / 2 ^ (mn (mx a1 0) 62).toNat) + 1))) else (some (a0 / 2 ^ (mn (mx a1 0) 62).toNat))) else (some (a0 / 2 ^ (mn (mx a1 0) 62).toNat))) else (some (a0 / 2 ^ (mn (mx a1 0) 62).toNat)))) = some r := h
 clear h
 obtain ⟨ji3, hji3⟩ : ∃ j_ : Int, (mx a1 0) = j_ := ⟨_, rfl⟩
 replace H : (if (Go.bits .and .u64 (IntKind.u64.wrap (a0)) (IntKind.u64.wrap ((IntKind.u64.wrap (2 ^ (mn (ji3) 62).toNat)) - 1))) > ((IntKind.u64.wrap (2 ^ (mn (ji3) 62).toNat)) / 2) then (some (wrap64 ((a0 / 2 ^ (mn (ji3) 62).toNat) + 1))) else (if (Go.bits .and .u64 (IntKind.u64.wrap (a0)) (IntKind.u64.wrap ((IntKind.u64.wrap (2 ^ (mn (ji3) 62).toNat)) - 1))) = ((IntKind.u64.wrap (2 ^ (mn (ji3) 62).toNat)) / 2) then (if (mn (ji3) 62) > 0 then (if (Go.bits .and .i64 (a0 / 2 ^ (mn (ji3) 62).toNat) 1) = 1 then (some (wrap64 ((a0 / 2 ^ (mn (ji3) 62).toNat) + 1))) else (some (a0 / 2 ^ (mn (ji3) 62).toNat))) else (some (a0 / 2 ^ (mn (ji3) 62).toNat))) else (some (a0 / 2 ^ (mn (ji3) 62).toNat)))) = some r := by first | (rw [hji3] at H; exact H) | (simp only [hji3] at H ⊢; exact H)
 (try (have hji3l : 0 ≤ ji3 := by (rw [← hji3]; unfold mx; (repeat' split) <;> omega)))
 (try (have hji3m : 0 ≤ ji3 := by omega))
 have hji3_ : (if a1 < 0 then 0 else a1) = ji3 := hji3
 obtain ⟨ji4, hji4⟩ : ∃ j_ : Int, (mn (ji3) 62) = j_ := ⟨_, rfl⟩
 replace H : (if (Go.bits .and .u64 (IntKind.u64.wrap (a0)) (IntKind.u64.wrap ((IntKind.u64.wrap (2 ^ (ji4).toNat)) - 1))) > ((IntKind.u64.wrap (2 ^ (ji4).toNat)) / 2) then (some (wrap64 ((a0 / 2 ^ (ji4).toNat) + 1))) else (if (Go.bits .and .u64 (IntKind.u64.wrap (a0)) (IntKind.u64.wrap ((IntKind.u64.wrap (2 ^ (ji4).toNat)) - 1))) = ((IntKind.u64.wrap (2 ^ (ji4).toNat)) / 2) then (if (ji4) > 0 then (if (Go.bits .and .i64 (a0 / 2 ^ (ji4).toNat) 1) = 1 then (some (wrap64 ((a0 / 2 ^ (ji4).toNat) + 1))) else (some (a0 / 2 ^ (ji4).toNat))) else (some (a0 / 2 ^ (ji4).toNat))) else (some (a0 / 2 ^ (ji4).toNat)))) = some r := by first | (rw [hji4] at H; exact H) | (simp only [hji4] at H ⊢; exact H)
 have hji4_ : (if 62 < (ji3) then 62 else (ji3)) = ji4 := hji4
 by_cases c5 : (Go.bits .and .u64 (IntKind.u64.wrap (a0)) (IntKind.u64.wrap ((IntKind.u64.wrap (2 ^ (ji4).toNat)) - 1))) > ((IntKind.u64.wrap (2 ^ (ji4).toNat)) / 2)
 ·
  rw [if_pos c5] at H
  have c5b0 : decide (((IntKind.u64.wrap (2 ^ (ji4).toNat)) / 2) < (Go.bits .and .u64 (IntKind.u64.wrap (a0)) (IntKind.u64.wrap ((IntKind.u64.wrap (2 ^ (ji4).toNat)) - 1)))) = true := decide_eq_true c5
  clear c5
  obtain rfl := Option.some.inj H
  go_enter Try.func20, Try.ntmps20
  go_wp2
  go_ret
  exact ⟨by first | rfl | (simp [errW_none, errW_some] <;> rfl) | (simp only [← hji3, ← hji4]; first | rfl | (simp [errW_none, errW_some] <;> rfl)) | (simp [*, errW_none, errW_some] <;> rfl), by repeat (first | (with_reducible first | exact HB.out | apply b_a | apply b_n | apply b_d) | exact HB.out)⟩
 rw [if_neg c5] at H
 have c5b0 : decide (((IntKind.u64.wrap (2 ^ (ji4).toNat)) / 2) < (Go.bits .and .u64 (IntKind.u64.wrap (a0)) (IntKind.u64.wrap ((IntKind.u64.wrap (2 ^ (ji4).toNat)) - 1)))) = false := decide_eq_false c5
 clear c5
 by_cases c6 : (Go.bits .and .u64 (IntKind.u64.wrap (a0)) (IntKind.u64.wrap ((IntKind.u64.wrap (2 ^ (ji4).toNat)) - 1))) = ((IntKind.u64.wrap (2 ^ (ji4).toNat)) / 2)
 rotate_left
 ·
  rw [if_neg c6] at H
  have c6b0 : ((Go.bits .and .u64 (IntKind.u64.wrap (a0)) (IntKind.u64.wrap ((IntKind.u64.wrap (2 ^ (ji4).toNat)) - 1))) == ((IntKind.u64.wrap (2 ^ (ji4).toNat)) / 2)) = false := beq_eq_false_iff_ne.mpr c6
  have c6b1 : ((Go.bits .and .u64 (IntKind.u64.wrap (a0)) (IntKind.u64.wrap ((IntKind.u64.wrap (2 ^ (ji4).toNat)) - 1))) != ((IntKind.u64.wrap (2 ^ (ji4).toNat)) / 2)) = true := bne_iff_ne.mpr c6
  obtain rfl := Option.some.inj H
  go_enter Try.func20, Try.ntmps20
  go_wp2
  go_ret
  exact ⟨by first | rfl | (simp [errW_none, errW_some] <;> rfl) | (simp only [← hji3, ← hji4]; first | rfl | (simp [errW_none, errW_some] <;> rfl)) | (simp [*, errW_none, errW_some] <;> rfl), by repeat (first | (with_reducible first | exact HB.out | apply b_a | apply b_n | apply b_d) | exact HB.out)⟩

 rw [if_pos c6] at H
 have c6b0 : ((Go.bits .and .u64 (IntKind.u64.wrap (a0)) (IntKind.u64.wrap ((IntKind.u64.wrap (2 ^ (ji4).toNat)) - 1))) == ((IntKind.u64.wrap (2 ^ (ji4).toNat)) / 2)) = true := beq_iff_eq.mpr c6
 have c6b1 : ((Go.bits .and .u64 (IntKind.u64.wrap (a0)) (IntKind.u64.wrap ((IntKind.u64.wrap (2 ^ (ji4).toNat)) - 1))) != ((IntKind.u64.wrap (2 ^ (ji4).toNat)) / 2)) = false := bne_eq_false_iff_eq.mpr c6
 clear c6
 by_cases c7 : (ji4) > 0
 rotate_left
 ·
  rw [if_neg c7] at H
  have c7b0 : decide (0 < (ji4)) = false := decide_eq_false c7
  clear c7
  obtain rfl := Option.some.inj H
  go_enter Try.func20, Try.ntmps20
  go_wp2
  go_ret
  exact ⟨by first | rfl | (simp [errW_none, errW_some] <;> rfl) | (simp only [← hji3, ← hji4]; first | rfl | (simp [errW_none, errW_some] <;> rfl)) | (simp [*, errW_none, errW_some] <;> rfl), by repeat (first | (with_reducible first | exact HB.out | apply b_a | apply b_n | apply b_d) | exact HB.out)⟩
 rw [if_pos c7] at H
 have c7b0 : decide (0 < (ji4)) = true := decide_eq_true c7
 clear c7
 by_cases c8 : (Go.bits .and .i64 (a0 / 2 ^ (ji4).toNat) 1) = 1
 rotate_left
 ·
  rw [if_neg c8] at H
  have c8b0 : ((Go.bits .and .i64 (a0 / 2 ^ (ji4).toNat) 1) == 1) = false := beq_eq_false_iff_ne.mpr c8
  have c8b1 : ((Go.bits .and .i64 (a0 / 2 ^ (ji4).toNat) 1) != 1) = true := bne_iff_ne.mpr c8
  obtain rfl := Option.some.inj H
  go_enter Try.func20, Try.ntmps20
  go_wp2
  go_ret
  exact ⟨by first | rfl | (simp [errW_none, errW_some] <;> rfl) | (simp only [← hji3, ← hji4]; first | rfl | (simp [errW_none, errW_some] <;> rfl)) | (simp [*, errW_none, errW_some] <;> rfl), by repeat (first | (with_reducible first | exact HB.out | apply b_a | apply b_n | apply b_d) | exact HB.out)⟩
 rw [if_pos c8] at H
 have c8b0 : ((Go.bits .and .i64 (a0 / 2 ^ (ji4).toNat) 1) == 1) = true := beq_iff_eq.mpr c8
 have c8b1 : ((Go.bits .and .i64 (a0 / 2 ^ (ji4).toNat) 1) != 1) = false := bne_eq_false_iff_eq.mpr c8
 clear c8
 obtain rfl := Option.some.inj H
 go_enter Try.func20, Try.ntmps20
 go_wp2
 go_ret
 exact ⟨by first | rfl | (simp [errW_none, errW_some] <;> rfl) | (simp only [← hji3, ← hji4]; first | rfl | (simp [errW_none, errW_some] <;> rfl)) | (simp [*, errW_none, errW_some] <;> rfl), by repeat (first | (with_reducible first | exact HB.out | apply b_a | apply b_n | apply b_d) | exact HB.out)⟩
/-! ### rope_Sin: function 9 -/
def rope_Sin.j0 : Nat → Int → Int → Option (Int)
 | 0, _, _ => none
 | k + 1, x3, x4 => (rope_step.f (x4 / 512)).bind fun t101 => ((rope_step.f (wrap64 ((x4 / 512) + 1))).bind fun t102 => ((rope_step.f (x4 / 512)).bind fun t103 => ((round_Shift.f (wrap64 ((wrap64 (t102 - t103)) * (Go.bits .and .i64 x4 511))) 9).bind fun t104 => (if x3 ≥ 2 then (some (wrap32 (wrap64 (-(wrap64 (t101 + t104)))))) else (some (wrap32 (wrap64 (t101 + t104))))))))
def rope_Sin.f (k : Nat) (a0 : Int) : Option (Int) := if (Go.bits .and .i64 (wrap64 (Int.tdiv (Go.bits .and .i64 a0 65535) 16384)) 1) = 1 then (rope_Sin.j0 k (wrap64 (Int.tdiv (Go.bits .and .i64 a0 65535) 16384)) (wrap64 (16384 - (Int.tmod (Go.bits .and .i64 a0 65535) 16384)))) else (rope_Sin.j0 k (wrap64 (Int.tdiv (Go.bits .and .i64 a0 65535) 16384)) (Int.tmod (Go.bits .and .i64 a0 65535) 16384))
theorem rope_Sin.mono_l : ∀ k, (∀ y0 y1, LeO (rope_Sin.j0 k y0 y1) (rope_Sin.j0 (k + 1) y0 y1))
 | 0 => fun _ _ r h => by simp [rope_Sin.j0] at h
 | k + 1 => by
  have ih0 := rope_Sin.mono_l k
  ·
   intro y0 y1
   unfold rope_Sin.j0
   repeat' first
   | (with_reducible exact ih0 _ _)
   | (with_reducible exact LeO.refl _)
   | (with_reducible exact LeO.none _)
   | (with_reducible refine LeO.ite ?_ ?_)
   | (with_reducible refine LeO.bind ?_ (fun _ => ?_))
   | exact ih0 _ _
   | exact LeO.none _
   | refine LeO.ite ?_ ?_
   | refine LeO.bind ?_ (fun _ => ?_)
theorem rope_Sin.mono : ∀ a0 k, LeO (rope_Sin.f k a0) (rope_Sin.f (k + 1) a0) := by
 intro a0 k
 have ih0 := rope_Sin.mono_l k
 unfold rope_Sin.f
 repeat' first
   | (with_reducible exact ih0 _ _)
   | (with_reducible exact LeO.refl _)
   | (with_reducible exact LeO.none _)
   | (with_reducible refine LeO.ite ?_ ?_)
   | (with_reducible refine LeO.bind ?_ (fun _ => ?_))
   | exact ih0 _ _
   | exact LeO.none _
   | refine LeO.ite ?_ ?_
   | refine LeO.bind ?_ (fun _ => ?_)
set_option maxHeartbeats 60000000 in
set_option maxRecDepth 100000 in
theorem rope_Sin.calls (k : Nat) (a0 : Int) (r : Int) (w : World) (h : rope_Sin.f k a0 = some r) :
  Calls Try.prog 9 #[.int .i64 a0] w fun e w' => e = .returned (.int .i32 r) ∧ Below w.heap.size w w' := by
 have HB := Aside0.mk (Below.refl w.heap.size w)
 have H : (if (Go.bits .and .i64 (wrap64 (Int.tdiv (Go.bits .and .i64 a0 65535) 16384)) 1) = 1 then (rope_Sin.j0 k (wrap64 (Int.tdiv (Go.bits .and .i64 a0 65535) 16384)) (wrap64 (16384 - (Int.tmod (Go.bits .and .i64 a0 65535) 16384)))) else (rope_Sin.j0 k (wrap64 (Int.tdiv (Go.bits .and .i64 a0 65535) 16384)) (Int.tmod (Go.bits .and .i64 a0 65535) 16384))) = some r := h
 clear h
 have HC2 := Aside0.mk H
 clear H
 go_enter Try.func9, Try.ntmps9
 go_upto_if 16 with (fail)
 go_cut [4] (fun v4 wc => ∃ (kq : Nat) (x4_1 : Int), v4 = .int .i64 x4_1 ∧ Aside0 (rope_Sin.j0 kq (wrap64 (Int.tdiv (Go.bits .and .i64 a0 65535) 16384)) x4_1 = some r) ∧ Aside0 (kq ≤ k) ∧ Aside0 (Below w.heap.size w wc))
 case first =>
  have H := HC2.out
  clear HC2
  by_cases c3 : (Go.bits .and .i64 (wrap64 (Int.tdiv (Go.bits .and .i64 a0 65535) 16384)) 1) = 1
  rotate_left
  ·
   rw [if_neg c3] at H
   have c3b0 : ((Go.bits .and .i64 (wrap64 (Int.tdiv (Go.bits .and .i64 a0 65535) 16384)) 1) == 1) = false := beq_eq_false_iff_ne.mpr c3
   have c3b1 : ((Go.bits .and .i64 (wrap64 (Int.tdiv (Go.bits .and .i64 a0 65535) 16384)) 1) != 1) = true := bne_iff_ne.mpr c3
   (first | rw [c3b0] | (simp only [i64_w, i32_w]; rw [c3b0]) | skip)
   have H' := Aside0.mk H
   clear H
   go_wp2
   go_meet
   case rel => exact ⟨_, (Int.tmod (Go.bits .and .i64 a0 65535) 16384), (by first | rfl | (simp; done) | (simp [*]; done)), H', ⟨by first | omega | exact Nat.le_refl _⟩, ⟨by repeat (first | (with_reducible first | exact HB.out | apply b_a | apply b_n | apply b_d) | exact HB.out)⟩⟩
  rw [if_pos c3] at H
  have c3b0 : ((Go.bits .and .i64 (wrap64 (Int.tdiv (Go.bits .and .i64 a0 65535) 16384)) 1) == 1) = true := beq_iff_eq.mpr c3
  have c3b1 : ((Go.bits .and .i64 (wrap64 (Int.tdiv (Go.bits .and .i64 a0 65535) 16384)) 1) != 1) = false := bne_eq_false_iff_eq.mpr c3
  clear c3
  (first | rw [c3b0] | (simp only [i64_w, i32_w]; rw [c3b0]) | skip)
  have H' := Aside0.mk H
  clear H
  go_wp2
  go_meet
  case rel => exact ⟨_, (wrap64 (16384 - (Int.tmod (Go.bits .and .i64 a0 65535) 16384))), (by first | rfl | (simp; done) | (simp [*]; done)), H', ⟨by first | omega | exact Nat.le_refl _⟩, ⟨by repeat (first | (with_reducible first | exact HB.out | apply b_a | apply b_n | apply b_d) | exact HB.out)⟩⟩
 case rest => as_aux_lemma =>
  clear HC2
  try clear p2
  try clear c3
  try clear c3b0
  try clear c3b1
  obtain ⟨kq, x4_1, rfl, HA, HJ1, HB⟩ := hcut
  cases kq with
  | zero => exact absurd HA.out (by simp [rope_Sin.j0])
  | succ kj1 =>
   have H := HA.out
   clear HA
   simp only [rope_Sin.j0] at H
   replace H := Option.bind_eq_some_iff.mp H
   obtain ⟨t101, A40, H⟩ := H
   replace H : ((rope_step.f (wrap64 ((x4_1 / 512) + 1))).bind fun t102 => ((rope_step.f (x4_1 / 512)).bind fun t103 => ((round_Shift.f (wrap64 ((wrap64 (t102 - t103)) * (Go.bits .and .i64 x4_1 511))) 9).bind fun t104 => (if (wrap64 (Int.tdiv (Go.bits .and .i64 a0 65535) 16384)) ≥ 2 then (some (wrap32 (wrap64 (-(wrap64 (t101 + t104)))))) else (some (wrap32 (wrap64 (t101 + t104)))))))) = some r := H
   have A4 := Aside0.mk A40
   clear A40
   replace H := Option.bind_eq_some_iff.mp H
   obtain ⟨t102, A50, H⟩ := H
   replace H : ((rope_step.f (x4_1 / 512)).bind fun t103 => ((round_Shift.f (wrap64 ((wrap64 (t102 - t103)) * (Go.bits .and .i64 x4_1 511))) 9).bind fun t104 => (if (wrap64 (Int.tdiv (Go.bits .and .i64 a0 65535) 16384)) ≥ 2 then (some (wrap32 (wrap64 (-(wrap64 (t101 + t104)))))) else (some (wrap32 (wrap64 (t101 + t104))))))) = some r := H
   have A5 := Aside0.mk A50
   clear A50
   replace H := Option.bind_eq_some_iff.mp H
   obtain ⟨t103, A60, H⟩ := H
   replace H : ((round_Shift.f (wrap64 ((wrap64 (t102 - t103)) * (Go.bits .and .i64 x4_1 511))) 9).bind fun t104 => (if (wrap64 (Int.tdiv (Go.bits .and .i64 a0 65535) 16384)) ≥ 2 then (some (wrap32 (wrap64 (-(wrap64 (t101 + t104)))))) else (some (wrap32 (wrap64 (t101 + t104)))))) = some r := H
   have A6 := Aside0.mk A60
   clear A60
   replace H := Option.bind_eq_some_iff.mp H
   obtain ⟨t104, A70, H⟩ := H
   replace H : (if (wrap64 (Int.tdiv (Go.bits .and .i64 a0 65535) 16384)) ≥ 2 then (some (wrap32 (wrap64 (-(wrap64 (t101 + t104)))))) else (some (wrap32 (wrap64 (t101 + t104))))) = some r := H
   have A7 := Aside0.mk A70
   clear A70
   by_cases c8 : (wrap64 (Int.tdiv (Go.bits .and .i64 a0 65535) 16384)) ≥ 2
   ·
    rw [if_pos c8] at H
    have c8b0 : decide (2 ≤ (wrap64 (Int.tdiv (Go.bits .and .i64 a0 65535) 16384))) = true := decide_eq_true c8
    clear c8
    obtain rfl := Option.some.inj H
    go_wp2_with (first | ((with_reducible refine gate_callee (f := 19) rfl ?_); refine goesL_ (some 24) rfl rfl Try.func19 (by kernel_rfl) rfl #[.int .i64 (x4_1 / 512)] rfl (by (try simp only [l_4, l_5, l_6]); first | done | rfl | (simp only [l_7, l_8]; rfl)) ?_; (with_reducible refine (rope_step.calls (x4_1 / 512) t101 _ A4.out).mono ?_); rintro e w9 ⟨rfl, hb⟩; (try clear A4); refine ⟨_, rfl, ?_⟩; replace HB := Aside0.mk (below_step (bw_ HB) hb); (try clear hb); (try clear hb2); (try clear hk); (try clear hi)) | ((with_reducible refine gate_callee (f := 19) rfl ?_); refine goesL_ (some 27) rfl rfl Try.func19 (by kernel_rfl) rfl #[.int .i64 (wrap64 ((x4_1 / 512) + 1))] rfl (by (try simp only [l_4, l_5, l_6]); first | done | rfl | (simp only [l_7, l_8]; rfl)) ?_; (with_reducible refine (rope_step.calls (wrap64 ((x4_1 / 512) + 1)) t102 _ A5.out).mono ?_); rintro e w10 ⟨rfl, hb⟩; (try clear A5); refine ⟨_, rfl, ?_⟩; replace HB := Aside0.mk (below_step (bw_ HB) hb); (try clear hb); (try clear hb2); (try clear hk); (try clear hi)) | ((with_reducible refine gate_callee (f := 19) rfl ?_); refine goesL_ (some 29) rfl rfl Try.func19 (by kernel_rfl) rfl #[.int .i64 (x4_1 / 512)] rfl (by (try simp only [l_4, l_5, l_6]); first | done | rfl | (simp only [l_7, l_8]; rfl)) ?_; (with_reducible refine (rope_step.calls (x4_1 / 512) t103 _ A6.out).mono ?_); rintro e w11 ⟨rfl, hb⟩; (try clear A6); refine ⟨_, rfl, ?_⟩; replace HB := Aside0.mk (below_step (bw_ HB) hb); (try clear hb); (try clear hb2); (try clear hk); (try clear hi)) | ((with_reducible refine gate_callee (f := 20) rfl ?_); refine goesL_ (some 33) rfl rfl Try.func20 (by kernel_rfl) rfl #[.int .i64 (wrap64 ((wrap64 (t102 - t103)) * (Go.bits .and .i64 x4_1 511))), .int .i64 9] rfl (by (try simp only [l_4, l_5, l_6]); first | done | rfl | (simp only [l_7, l_8]; rfl)) ?_; (with_reducible refine (round_Shift.calls (wrap64 ((wrap64 (t102 - t103)) * (Go.bits .and .i64 x4_1 511))) 9 t104 _ A7.out).mono ?_); rintro e w12 ⟨rfl, hb⟩; (try clear A7); refine ⟨_, rfl, ?_⟩; replace HB := Aside0.mk (below_step (bw_ HB) hb); (try clear hb); (try clear hb2); (try clear hk); (try clear hi)))
    go_ret
    exact ⟨by first | rfl | (simp [errW_none, errW_some] <;> rfl) | (simp [*, errW_none, errW_some] <;> rfl), by repeat (first | (with_reducible first | exact HB.out | apply b_a | apply b_n | apply b_d) | exact HB.out)⟩
   rw [if_neg c8] at H
   have c8b0 : decide (2 ≤ (wrap64 (Int.tdiv (Go.bits .and .i64 a0 65535) 16384))) = false := decide_eq_false c8
   clear c8
   obtain rfl := Option.some.inj H
   go_wp2_with (first | ((with_reducible refine gate_callee (f := 19) rfl ?_); refine goesL_ (some 24) rfl rfl Try.func19 (by kernel_rfl) rfl #[.int .i64 (x4_1 / 512)] rfl (by (try simp only [l_4, l_5, l_6]); first | done | rfl | (simp only [l_7, l_8]; rfl)) ?_; (with_reducible refine (rope_step.calls (x4_1 / 512) t101 _ A4.out).mono ?_); rintro e w13 ⟨rfl, hb⟩; (try clear A4); refine ⟨_, rfl, ?_⟩; replace HB := Aside0.mk (below_step (bw_ HB) hb); (try clear hb); (try clear hb2); (try clear hk); (try clear hi)) | ((with_reducible refine gate_callee (f := 19) rfl ?_); refine goesL_ (some 27) rfl rfl Try.func19 (by kernel_rfl) rfl #[.int .i64 (wrap64 ((x4_1 / 512) + 1))] rfl (by (try simp only [l_4, l_5, l_6]); first | done | rfl | (simp only [l_7, l_8]; rfl)) ?_; (with_reducible refine (rope_step.calls (wrap64 ((x4_1 / 512) + 1)) t102 _ A5.out).mono ?_); rintro e w14 ⟨rfl, hb⟩; (try clear A5); refine ⟨_, rfl, ?_⟩; replace HB := Aside0.mk (below_step (bw_ HB) hb); (try clear hb); (try clear hb2); (try clear hk); (try clear hi)) | ((with_reducible refine gate_callee (f := 19) rfl ?_); refine goesL_ (some 29) rfl rfl Try.func19 (by kernel_rfl) rfl #[.int .i64 (x4_1 / 512)] rfl (by (try simp only [l_4, l_5, l_6]); first | done | rfl | (simp only [l_7, l_8]; rfl)) ?_; (with_reducible refine (rope_step.calls (x4_1 / 512) t103 _ A6.out).mono ?_); rintro e w15 ⟨rfl, hb⟩; (try clear A6); refine ⟨_, rfl, ?_⟩; replace HB := Aside0.mk (below_step (bw_ HB) hb); (try clear hb); (try clear hb2); (try clear hk); (try clear hi)) | ((with_reducible refine gate_callee (f := 20) rfl ?_); refine goesL_ (some 33) rfl rfl Try.func20 (by kernel_rfl) rfl #[.int .i64 (wrap64 ((wrap64 (t102 - t103)) * (Go.bits .and .i64 x4_1 511))), .int .i64 9] rfl (by (try simp only [l_4, l_5, l_6]); first | done | rfl | (simp only [l_7, l_8]; rfl)) ?_; (with_reducible refine (round_Shift.calls (wrap64 ((wrap64 (t102 - t103)) * (Go.bits .and .i64 x4_1 511))) 9 t104 _ A7.out).mono ?_); rintro e w16 ⟨rfl, hb⟩; (try clear A7); refine ⟨_, rfl, ?_⟩; replace HB := Aside0.mk (below_step (bw_ HB) hb); (try clear hb); (try clear hb2); (try clear hk); (try clear hi)))
   go_ret
   exact ⟨by first | rfl | (simp [errW_none, errW_some] <;> rfl) | (simp [*, errW_none, errW_some] <;> rfl), by repeat (first | (with_reducible first | exact HB.out | apply b_a | apply b_n | apply b_d) | exact HB.out)⟩

/-! ### rope_Cos: function 11 -/
def rope_Cos.f (k : Nat) (a0 : Int) : Option (Int) := (rope_Sin.f k (wrap64 ((Go.bits .and .i64 a0 65535) + 16384))).bind fun t105 => (some t105)
theorem rope_Cos.mono : ∀ a0 k, LeO (rope_Cos.f k a0) (rope_Cos.f (k + 1) a0) := by
 intro a0 k
 unfold rope_Cos.f
 repeat' first
   | (with_reducible exact rope_Sin.mono _ _)
   | (with_reducible exact LeO.refl _)
   | (with_reducible exact LeO.none _)
   | (with_reducible refine LeO.ite ?_ ?_)
   | (with_reducible refine LeO.bind ?_ (fun _ => ?_))
   | exact rope_Sin.mono _ _
   | exact LeO.none _
   | refine LeO.ite ?_ ?_
   | refine LeO.bind ?_ (fun _ => ?_)
set_option maxHeartbeats 60000000 in
set_option maxRecDepth 100000 in
theorem rope_Cos.calls (k : Nat) (a0 : Int) (r : Int) (w : World) (h : rope_Cos.f k a0 = some r) :
  Calls Try.prog 11 #[.int .i64 a0] w fun e w' => e = .returned (.int .i32 r) ∧ Below w.heap.size w w' := by
 have HB := Aside0.mk (Below.refl w.heap.size w)
 have H : ((rope_Sin.f k (wrap64 ((Go.bits .and .i64 a0 65535) + 16384))).bind fun t105 => (some t105)) = some r := h
 clear h
 replace H := Option.bind_eq_some_iff.mp H
 obtain ⟨t105, A20, H⟩ := H
 replace H : (some t105) = some r := H
 have A2 := Aside0.mk A20
 clear A20
 obtain rfl := Option.some.inj H
 go_enter Try.func11, Try.ntmps11
 go_wp2_with (first | ((with_reducible refine gate_callee (f := 9) rfl ?_); refine goesL_ (some 6) rfl rfl Try.func9 (by kernel_rfl) rfl #[.int .i64 (wrap64 ((Go.bits .and .i64 a0 65535) + 16384))] rfl (by (try simp only [l_4, l_5, l_6]); first | done | rfl | (simp only [l_7, l_8]; rfl)) ?_; (with_reducible refine (rope_Sin.calls k (wrap64 ((Go.bits .and .i64 a0 65535) + 16384)) t105 _ A2.out).mono ?_); rintro e w3 ⟨rfl, hb⟩; (try clear A2); refine ⟨_, rfl, ?_⟩; replace HB := Aside0.mk (below_step (bw_ HB) hb); (try clear hb); (try clear hb2); (try clear hk); (try clear hi)))
 go_ret
 exact ⟨by first | rfl | (simp [errW_none, errW_some] <;> rfl) | (simp [*, errW_none, errW_some] <;> rfl), by repeat (first | (with_reducible first | exact HB.out | apply b_a | apply b_n | apply b_d) | exact HB.out)⟩

/-! ### rope_Angle: function 13 -/
def rope_Angle.f (a0 : Int) (a1 : Int) : Option (Int) := if a0 < 0 then (some 0) else (if a0 > 1048576 then (some 0) else (if a1 < 0 then (some 0) else (if 0 ≤ (mn (IntKind.u64.wrap (a1)) 14) then (some (Go.bits .and .i64 (wrap64 (a0 * (8192 / 2 ^ (mn (IntKind.u64.wrap (a1)) 14).toNat))) 65535)) else (none))))
set_option maxHeartbeats 60000000 in
set_option maxRecDepth 100000 in
theorem rope_Angle.calls (a0 : Int) (a1 : Int) (r : Int) (w : World) (h : rope_Angle.f a0 a1 = some r) :
  Calls Try.prog 13 #[.int .i64 a0, .int .i64 a1] w fun e w' => e = .returned (.int .i64 r) ∧ Below w.heap.size w w' := by
 have HB := Aside0.mk (Below.refl w.heap.size w)
 have H : (if a0 < 0 then (some 0) else (if a0 > 1048576 then (some 0) else (if a1 < 0 then (some 0) else (if 0 ≤ (mn (IntKind.u64.wrap (a1)) 14) then (some (Go.bits .and .i64 (wrap64 (a0 * (8192 / 2 ^ (mn (IntKind.u64.wrap (a1)) 14).toNat))) 65535)) else (none))))) = some r := h
 clear h
 by_cases c3 : a0 < 0
 ·
  rw [if_pos c3] at H
  have c3b0 : decide (a0 < 0) = true := decide_eq_true c3
  clear c3
  obtain rfl := Option.some.inj H
  go_enter Try.func13, Try.ntmps13
  go_wp2
  go_ret
  exact ⟨by first | rfl | (simp [errW_none, errW_some] <;> rfl) | (simp [*, errW_none, errW_some] <;> rfl), by repeat (first | (with_reducible first | exact HB.out | apply b_a | apply b_n | apply b_d) | exact HB.out)⟩
 rw [if_neg c3] at H
 have c3b0 : decide (a0 < 0) = false := decide_eq_false c3
 clear c3
 by_cases c4 : a0 > 1048576
 ·
  rw [if_pos c4] at H
  have c4b0 : decide (1048576 < a0) = true := decide_eq_true c4
  clear c4
  obtain rfl := Option.some.inj H
  go_enter Try.func13, Try.ntmps13
  go_wp2
  go_ret
  exact ⟨by first | rfl | (simp [errW_none, errW_some] <;> rfl) | (simp [*, errW_none, errW_some] <;> rfl), by repeat (first | (with_reducible first | exact HB.out | apply b_a | apply b_n | apply b_d) | exact HB.out)⟩
 rw [if_neg c4] at H
 have c4b0 : decide (1048576 < a0) = false := decide_eq_false c4
 clear c4
 by_cases c5 : a1 < 0
 ·
  rw [if_pos c5] at H
  have c5b0 : decide (a1 < 0) = true := decide_eq_true c5
  clear c5
  obtain rfl := Option.some.inj H
  go_enter Try.func13, Try.ntmps13
  go_wp2
  go_ret
  exact ⟨by first | rfl | (simp [errW_none, errW_some] <;> rfl) | (simp [*, errW_none, errW_some] <;> rfl), by repeat (first | (with_reducible first | exact HB.out | apply b_a | apply b_n | apply b_d) | exact HB.out)⟩
 rw [if_neg c5] at H
 have c5b0 : decide (a1 < 0) = false := decide_eq_false c5
 clear c5
 obtain ⟨ji6, hji6⟩ : ∃ j_ : Int, (mn (IntKind.u64.wrap (a1)) 14) = j_ := ⟨_, rfl⟩
 replace H : (if 0 ≤ (ji6) then (some (Go.bits .and .i64 (wrap64 (a0 * (8192 / 2 ^ (ji6).toNat))) 65535)) else (none)) = some r := by first | (rw [hji6] at H; exact H) | (simp only [hji6] at H ⊢; exact H)
 (try (have hji6h : ji6 ≤ 14 := by (rw [← hji6]; unfold mn; (repeat' split) <;> omega)))
 (try (have hji6g : ji6 ≤ 64 := by omega))
 have hji6_ : (if 14 < (IntKind.u64.wrap (a1)) then 14 else (IntKind.u64.wrap (a1))) = ji6 := hji6
 by_cases c7 : 0 ≤ (ji6)
 rotate_left
 ·
  rw [if_neg c7] at H
  exact absurd H (by simp)

 rw [if_pos c7] at H
 have c7b0 := eq_true c7
 have c7b1 : decide (0 ≤ (ji6)) = true := decide_eq_true c7
 clear c7
 obtain rfl := Option.some.inj H
 go_enter Try.func13, Try.ntmps13
 go_wp2
 go_ret
 exact ⟨by first | rfl | (simp [errW_none, errW_some] <;> rfl) | (simp only [← hji6]; first | rfl | (simp [errW_none, errW_some] <;> rfl)) | (simp [*, errW_none, errW_some] <;> rfl), by repeat (first | (with_reducible first | exact HB.out | apply b_a | apply b_n | apply b_d) | exact HB.out)⟩
/-! ### round_near_int8: function 27 -/
def round_near_int8.f (a0 : Int) (a1 : Int) (a2 : Int) : Option (Int) := some (IntKind.i8.wrap (mn (mx a0 a1) a2))
set_option maxHeartbeats 60000000 in
set_option maxRecDepth 100000 in
theorem round_near_int8.calls (a0 : Int) (a1 : Int) (a2 : Int) (r : Int) (w : World) (h : round_near_int8.f a0 a1 a2 = some r) :
  Calls Try.prog 27 #[.int .i64 a0, .int .i64 a1, .int .i64 a2] w fun e w' => e = .returned (.int .i8 r) ∧ Below w.heap.size w w' := by
 have HB := Aside0.mk (Below.refl w.heap.size w)
 have H : (some (IntKind.i8.wrap (mn (mx a0 a1) a2))) = some r := h
 clear h
 obtain ⟨ji4, hji4⟩ : ∃ j_ : Int, (mx a0 a1) = j_ := ⟨_, rfl⟩
 replace H : (some (IntKind.i8.wrap (mn (ji4) a2))) = some r := by first | (rw [hji4] at H; exact H) | (simp only [hji4] at H ⊢; exact H)
 have hji4_ : (if a0 < a1 then a1 else a0) = ji4 := hji4
 obtain ⟨ji5, hji5⟩ : ∃ j_ : Int, (mn (ji4) a2) = j_ := ⟨_, rfl⟩
 replace H : (some (IntKind.i8.wrap (ji5))) = some r := by first | (rw [hji5] at H; exact H) | (simp only [hji5] at H ⊢; exact H)
 have hji5_ : (if a2 < (ji4) then a2 else (ji4)) = ji5 := hji5
 obtain rfl := Option.some.inj H
 go_enter Try.func27, Try.ntmps27
 go_wp2
 go_ret
 exact ⟨by first | rfl | (simp [errW_none, errW_some] <;> rfl) | (simp only [← hji4, ← hji5]; first | rfl | (simp [errW_none, errW_some] <;> rfl)) | (simp [*, errW_none, errW_some] <;> rfl), by repeat (first | (with_reducible first | exact HB.out | apply b_a | apply b_n | apply b_d) | exact HB.out)⟩

/-! ### round_Sat8: function 26 -/
def round_Sat8.f (a0 : Int) : Option (Int) := (round_near_int8.f a0 (-128) 127).bind fun t106 => (some t106)
set_option maxHeartbeats 60000000 in
set_option maxRecDepth 100000 in
theorem round_Sat8.calls (a0 : Int) (r : Int) (w : World) (h : round_Sat8.f a0 = some r) :
  Calls Try.prog 26 #[.int .i64 a0] w fun e w' => e = .returned (.int .i8 r) ∧ Below w.heap.size w w' := by
 have HB := Aside0.mk (Below.refl w.heap.size w)
 have H : ((round_near_int8.f a0 (-128) 127).bind fun t106 => (some t106)) = some r := h
 clear h
 replace H := Option.bind_eq_some_iff.mp H
 obtain ⟨t106, A20, H⟩ := H
 replace H : (some t106) = some r := H
 have A2 := Aside0.mk A20
 clear A20
 obtain rfl := Option.some.inj H
 go_enter Try.func26, Try.ntmps26
 go_wp2_with (first | ((with_reducible refine gate_callee (f := 27) rfl ?_); refine goesL_ (some 4) rfl rfl Try.func27 (by kernel_rfl) rfl #[.int .i64 a0, .int .i64 (-128), .int .i64 127] rfl (by (try simp only [l_4, l_5, l_6]); first | done | rfl | (simp only [l_7, l_8]; rfl)) ?_; (with_reducible refine (round_near_int8.calls a0 (-128) 127 t106 _ A2.out).mono ?_); rintro e w3 ⟨rfl, hb⟩; (try clear A2); refine ⟨_, rfl, ?_⟩; replace HB := Aside0.mk (below_step (bw_ HB) hb); (try clear hb); (try clear hb2); (try clear hk); (try clear hi)))
 go_ret
 exact ⟨by first | rfl | (simp [errW_none, errW_some] <;> rfl) | (simp [*, errW_none, errW_some] <;> rfl), by repeat (first | (with_reducible first | exact HB.out | apply b_a | apply b_n | apply b_d) | exact HB.out)⟩

/-! ### rope_pairOf: function 24 -/
def rope_pairOf.f (a0 : Int) (a1 : Int) (a2_0 : Int) (a2_1 : Int) : Option (Int × Int) := (round_Shift.f (wrap64 ((wrap64 ((wrap64 (a0)) * (wrap64 (a2_0)))) - (wrap64 ((wrap64 (a1)) * (wrap64 (a2_1)))))) 14).bind fun t108 => ((round_Sat8.f t108).bind fun t109 => ((round_Shift.f (wrap64 ((wrap64 ((wrap64 (a0)) * (wrap64 (a2_1)))) + (wrap64 ((wrap64 (a1)) * (wrap64 (a2_0)))))) 14).bind fun t110 => ((round_Sat8.f t110).bind fun t111 => (some (t109, t111)))))
set_option maxHeartbeats 60000000 in
set_option maxRecDepth 100000 in
theorem rope_pairOf.calls (a0 : Int) (a1 : Int) (a2_0 : Int) (a2_1 : Int) (r1 : Int) (r2 : Int) (w : World) (h : rope_pairOf.f a0 a1 a2_0 a2_1 = some (r1, r2)) :
  Calls Try.prog 24 #[.int .i8 a0, .int .i8 a1, .agg #[.int .i32 a2_0, .int .i32 a2_1]] w fun e w' => e = .returned (.tuple #[.int .i8 r1, .int .i8 r2]) ∧ Below w.heap.size w w' := by
 have hu40 := Try.underlying40
 have HB := Aside0.mk (Below.refl w.heap.size w)
 have H : ((round_Shift.f (wrap64 ((wrap64 ((wrap64 (a0)) * (wrap64 (a2_0)))) - (wrap64 ((wrap64 (a1)) * (wrap64 (a2_1)))))) 14).bind fun t108 => ((round_Sat8.f t108).bind fun t109 => ((round_Shift.f (wrap64 ((wrap64 ((wrap64 (a0)) * (wrap64 (a2_1)))) + (wrap64 ((wrap64 (a1)) * (wrap64 (a2_0)))))) 14).bind fun t110 => ((round_Sat8.f t110).bind fun t111 => (some (t109, t111)))))) = some (r1, r2) := h
 clear h
 replace H := Option.bind_eq_some_iff.mp H
 obtain ⟨t108, A40, H⟩ := H
 replace H : ((round_Sat8.f t108).bind fun t109 => ((round_Shift.f (wrap64 ((wrap64 ((wrap64 (a0)) * (wrap64 (a2_1)))) + (wrap64 ((wrap64 (a1)) * (wrap64 (a2_0)))))) 14).bind fun t110 => ((round_Sat8.f t110).bind fun t111 => (some (t109, t111))))) = some (r1, r2) := H
 have A4 := Aside0.mk A40
 clear A40
 replace H := Option.bind_eq_some_iff.mp H
 obtain ⟨t109, A50, H⟩ := H
 replace H : ((round_Shift.f (wrap64 ((wrap64 ((wrap64 (a0)) * (wrap64 (a2_1)))) + (wrap64 ((wrap64 (a1)) * (wrap64 (a2_0)))))) 14).bind fun t110 => ((round_Sat8.f t110).bind fun t111 => (some (t109, t111)))) = some (r1, r2) := H
 have A5 := Aside0.mk A50
 clear A50
 replace H := Option.bind_eq_some_iff.mp H
 obtain ⟨t110, A60, H⟩ := H
 replace H : ((round_Sat8.f t110).bind fun t111 => (some (t109, t111))) = some (r1, r2) := H
 have A6 := Aside0.mk A60
 clear A60
 replace H := Option.bind_eq_some_iff.mp H
 obtain ⟨t111, A70, H⟩ := H
 replace H : (some (t109, t111)) = some (r1, r2) := H
 have A7 := Aside0.mk A70
 clear A70
 simp only [Option.some.injEq, Prod.mk.injEq] at H
 obtain ⟨rfl, rfl⟩ := H
 go_enter Try.func24, Try.ntmps24
 go_wp2_with (first | ((with_reducible refine gate_dst (N := 5) rfl ?_); refine box_event ?hg (N := 5) ?hd (cs := #[.int .i32 a2_0, .int .i32 a2_1]) (t := 40) ?hr ?_; (case hd => rfl); (case hg => rfl); (case hr => first | (go_simp; done) | (go_simp; rfl)); intro gb107 hg w8 hbox hb; have BK107 := Aside0.mk (hbox); have GW107 := Aside0.mk ((by rw [hg]; exact (below_size (bw_ HB)) : w.heap.size ≤ gb107)); have GE107 := Aside0.mk ((by rw [hg]; exact (below_size (bw_ HB)) : w.heap.size ≤ gb107)); replace HB := Aside0.mk (below_step (bw_ HB) hb); clear hb hbox hg; have hcz9_0 := bc_0 BK107; have hcz9_1 := bc_1 BK107; have hfz9_0 := blk_frozen BK107.out 0; have hfz9_1 := blk_frozen BK107.out 1) | (go_at_call 20; (with_reducible refine (round_Shift.calls (wrap64 ((wrap64 ((wrap64 (a0)) * (wrap64 (a2_0)))) - (wrap64 ((wrap64 (a1)) * (wrap64 (a2_1)))))) 14 t108 _ A4.out).mono ?_); rintro e w10 ⟨rfl, hb⟩; (try clear A4); replace BK107 := Aside0.mk (blk_below (tk_ BK107) hb); replace HB := Aside0.mk (below_step (bw_ HB) hb); (try clear hb); (try clear hb2); (try clear hk); (try clear hi)) | (go_at_call 26; (with_reducible refine (round_Sat8.calls t108 t109 _ A5.out).mono ?_); rintro e w11 ⟨rfl, hb⟩; (try clear A5); replace BK107 := Aside0.mk (blk_below (tk_ BK107) hb); replace HB := Aside0.mk (below_step (bw_ HB) hb); (try clear hb); (try clear hb2); (try clear hk); (try clear hi)) | (go_at_call 20; (with_reducible refine (round_Shift.calls (wrap64 ((wrap64 ((wrap64 (a0)) * (wrap64 (a2_1)))) + (wrap64 ((wrap64 (a1)) * (wrap64 (a2_0)))))) 14 t110 _ A6.out).mono ?_); rintro e w12 ⟨rfl, hb⟩; (try clear A6); replace BK107 := Aside0.mk (blk_below (tk_ BK107) hb); replace HB := Aside0.mk (below_step (bw_ HB) hb); (try clear hb); (try clear hb2); (try clear hk); (try clear hi)) | (go_at_call 26; (with_reducible refine (round_Sat8.calls t110 t111 _ A7.out).mono ?_); rintro e w13 ⟨rfl, hb⟩; (try clear A7); replace BK107 := Aside0.mk (blk_below (tk_ BK107) hb); replace HB := Aside0.mk (below_step (bw_ HB) hb); (try clear hb); (try clear hb2); (try clear hk); (try clear hi)))
 repeat (go_quiet (first | ((with_reducible refine gate_dst (N := 5) rfl ?_); refine box_event ?hg (N := 5) ?hd (cs := #[.int .i32 a2_0, .int .i32 a2_1]) (t := 40) ?hr ?_; (case hd => rfl); (case hg => rfl); (case hr => first | (go_simp; done) | (go_simp; rfl)); intro gb107 hg w8 hbox hb; have BK107 := Aside0.mk (hbox); have GW107 := Aside0.mk ((by rw [hg]; exact (below_size (bw_ HB)) : w.heap.size ≤ gb107)); have GE107 := Aside0.mk ((by rw [hg]; exact (below_size (bw_ HB)) : w.heap.size ≤ gb107)); replace HB := Aside0.mk (below_step (bw_ HB) hb); clear hb hbox hg; have hcz9_0 := bc_0 BK107; have hcz9_1 := bc_1 BK107; have hfz9_0 := blk_frozen BK107.out 0; have hfz9_1 := blk_frozen BK107.out 1) | (go_at_call 20; (with_reducible refine (round_Shift.calls (wrap64 ((wrap64 ((wrap64 (a0)) * (wrap64 (a2_0)))) - (wrap64 ((wrap64 (a1)) * (wrap64 (a2_1)))))) 14 t108 _ A4.out).mono ?_); rintro e w10 ⟨rfl, hb⟩; (try clear A4); replace BK107 := Aside0.mk (blk_below (tk_ BK107) hb); replace HB := Aside0.mk (below_step (bw_ HB) hb); (try clear hb); (try clear hb2); (try clear hk); (try clear hi)) | (go_at_call 26; (with_reducible refine (round_Sat8.calls t108 t109 _ A5.out).mono ?_); rintro e w11 ⟨rfl, hb⟩; (try clear A5); replace BK107 := Aside0.mk (blk_below (tk_ BK107) hb); replace HB := Aside0.mk (below_step (bw_ HB) hb); (try clear hb); (try clear hb2); (try clear hk); (try clear hi)) | (go_at_call 20; (with_reducible refine (round_Shift.calls (wrap64 ((wrap64 ((wrap64 (a0)) * (wrap64 (a2_1)))) + (wrap64 ((wrap64 (a1)) * (wrap64 (a2_0)))))) 14 t110 _ A6.out).mono ?_); rintro e w12 ⟨rfl, hb⟩; (try clear A6); replace BK107 := Aside0.mk (blk_below (tk_ BK107) hb); replace HB := Aside0.mk (below_step (bw_ HB) hb); (try clear hb); (try clear hb2); (try clear hk); (try clear hi)) | (go_at_call 26; (with_reducible refine (round_Sat8.calls t110 t111 _ A7.out).mono ?_); rintro e w13 ⟨rfl, hb⟩; (try clear A7); replace BK107 := Aside0.mk (blk_below (tk_ BK107) hb); replace HB := Aside0.mk (below_step (bw_ HB) hb); (try clear hb); (try clear hb2); (try clear hk); (try clear hi))); try go_wp2_with (first | ((with_reducible refine gate_dst (N := 5) rfl ?_); refine box_event ?hg (N := 5) ?hd (cs := #[.int .i32 a2_0, .int .i32 a2_1]) (t := 40) ?hr ?_; (case hd => rfl); (case hg => rfl); (case hr => first | (go_simp; done) | (go_simp; rfl)); intro gb107 hg w8 hbox hb; have BK107 := Aside0.mk (hbox); have GW107 := Aside0.mk ((by rw [hg]; exact (below_size (bw_ HB)) : w.heap.size ≤ gb107)); have GE107 := Aside0.mk ((by rw [hg]; exact (below_size (bw_ HB)) : w.heap.size ≤ gb107)); replace HB := Aside0.mk (below_step (bw_ HB) hb); clear hb hbox hg; have hcz9_0 := bc_0 BK107; have hcz9_1 := bc_1 BK107; have hfz9_0 := blk_frozen BK107.out 0; have hfz9_1 := blk_frozen BK107.out 1) | (go_at_call 20; (with_reducible refine (round_Shift.calls (wrap64 ((wrap64 ((wrap64 (a0)) * (wrap64 (a2_0)))) - (wrap64 ((wrap64 (a1)) * (wrap64 (a2_1)))))) 14 t108 _ A4.out).mono ?_); rintro e w10 ⟨rfl, hb⟩; (try clear A4); replace BK107 := Aside0.mk (blk_below (tk_ BK107) hb); replace HB := Aside0.mk (below_step (bw_ HB) hb); (try clear hb); (try clear hb2); (try clear hk); (try clear hi)) | (go_at_call 26; (with_reducible refine (round_Sat8.calls t108 t109 _ A5.out).mono ?_); rintro e w11 ⟨rfl, hb⟩; (try clear A5); replace BK107 := Aside0.mk (blk_below (tk_ BK107) hb); replace HB := Aside0.mk (below_step (bw_ HB) hb); (try clear hb); (try clear hb2); (try clear hk); (try clear hi)) | (go_at_call 20; (with_reducible refine (round_Shift.calls (wrap64 ((wrap64 ((wrap64 (a0)) * (wrap64 (a2_1)))) + (wrap64 ((wrap64 (a1)) * (wrap64 (a2_0)))))) 14 t110 _ A6.out).mono ?_); rintro e w12 ⟨rfl, hb⟩; (try clear A6); replace BK107 := Aside0.mk (blk_below (tk_ BK107) hb); replace HB := Aside0.mk (below_step (bw_ HB) hb); (try clear hb); (try clear hb2); (try clear hk); (try clear hi)) | (go_at_call 26; (with_reducible refine (round_Sat8.calls t110 t111 _ A7.out).mono ?_); rintro e w13 ⟨rfl, hb⟩; (try clear A7); replace BK107 := Aside0.mk (blk_below (tk_ BK107) hb); replace HB := Aside0.mk (below_step (bw_ HB) hb); (try clear hb); (try clear hb2); (try clear hk); (try clear hi))))
 go_ret2
 exact ⟨by first | rfl | (simp [errW_none, errW_some] <;> rfl) | (simp [*, errW_none, errW_some] <;> rfl), by repeat (first | (with_reducible first | exact HB.out | apply b_a | apply b_n | apply b_d | refine b_s ?_ GE107.out) | exact HB.out)⟩

end Go.Proofs.Ytplndicghohpbaa.QRopeTables
