-- PRINTED by print.py (a twelfth state) out of the translation. Not trusted: Lean checks it.
import Derived.Test.YtmaochcdjmnffaaT3Px0
import Derived.Test.YtmaochcdjmnffaaT3Px18
import Derived.Test.YtmaochcdjmnffaaT3Px33
namespace Go.Proofs.Ytmaochcdjmnffaa.P
open Go.RowKit Go.Proofs.YtmaochcdjmnffaaW.PrintWords Go.Proofs.YtmaochcdjmnffaaW.PrintLast Go.Proofs.YtmaochcdjmnffaaW.PrintMore
attribute [local go_sem] max2_int min2_int max_two min_two max_three min_three max_four min_four   -- for this text's walks alone
set_option linter.unusedVariables false
set_option linter.unusedSimpArgs false

/-! ### swarfref44_Read: function 21 -/
def swarfref44_Read.f (k : Nat) (a0_0 : Bool) (l0_1 : List (S80)) (a0_2 : ByteArray) (a1 : Int) (a2 : Int) (a3 : Int) (a4 : Bool) (a5_0 : Int) (a5_1 : Int) (a5_2 : Int) (a5_3 : Int) (a5_4 : Int) (a5_5 : Int) (a5_6 : Bool) : Option (Int × Int × Int × Int × Int × Int × Bool × Int) := (swarfref44_value.f k a0_0 l0_1 a0_2 82 a5_1).bind fun t369 => ((swarfref44_value.f k a0_0 l0_1 a0_2 90 a5_2).bind fun t370 => ((swarfref44_value.f k a0_0 l0_1 a0_2 81 a5_3).bind fun t371 => ((swarfref44_value.f k a0_0 l0_1 a0_2 70 a2).bind fun t372 => ((swarfref44_Valid.f k a1 t369 t370 t371 t372 a3 a4).bind fun t374 => (if t374 = 0 then (some (a1, t369, t370, t371, t372, a3, a4, 0)) else (some (0, 0, 0, 0, 0, 0, false, t374)))))))
theorem swarfref44_Read.mono : ∀ a0 a1 a2 a3 a4 a5 a6 a7 a8 a9 a10 a11 a12 a13 k, LeO (swarfref44_Read.f k a0 a1 a2 a3 a4 a5 a6 a7 a8 a9 a10 a11 a12 a13) (swarfref44_Read.f (k + 1) a0 a1 a2 a3 a4 a5 a6 a7 a8 a9 a10 a11 a12 a13) := by
  intro a0 a1 a2 a3 a4 a5 a6 a7 a8 a9 a10 a11 a12 a13 k
  unfold swarfref44_Read.f
  repeat' first
      | (with_reducible exact swarfref44_Valid.mono _ _ _ _ _ _ _ _)
      | (with_reducible exact swarfref44_value.mono _ _ _ _ _ _)
      | (with_reducible exact LeO.refl _)
      | (with_reducible exact LeO.none _)
      | (with_reducible refine LeO.ite ?_ ?_)
      | (with_reducible refine LeO.bind ?_ (fun _ => ?_))
      | exact swarfref44_Valid.mono _ _ _ _ _ _ _ _
      | exact swarfref44_value.mono _ _ _ _ _ _
      | exact LeO.none _
      | refine LeO.ite ?_ ?_
      | refine LeO.bind ?_ (fun _ => ?_)
def swarfref44_Read.T1 : Bool × List (List Nat × List Nat) := (true, [([], []), ([], []), ([], []), ([2], [2]), ([1, 3], [1, 3]), ([], []), ([], []), ([6], [6]), ([5, 7, 4], [5, 7]), ([], []), ([], []), ([10], [10]), ([9, 11, 8], [9, 11]), ([], []), ([], []), ([13, 14, 12], [13, 14]), ([], []), ([], []), ([0, 4, 8, 12, 15, 16, 17], [0, 4, 8, 12, 15, 16, 17]), ([], []), ([19, 18, 15, 0, 1, 2, 3, 4, 5, 6, 7, 8, 9, 10, 11, 12, 13, 14, 15, 16, 17, 18, 19], [18, 19])])
def swarfref44_Read.B1 : List Nat := [0, 0, 0, 4, 14, 0, 0, 64, 254, 0, 0, 1024, 4094, 0, 0, 32766, 0, 0, 262143, 0, 1048575]
theorem swarfref44_Read.tab1 : rtab .any (opsOf Try.f21 1) = swarfref44_Read.T1 := by kernel_rfl
theorem swarfref44_Read.bits1 : waitsOk swarfref44_Read.T1.2 swarfref44_Read.B1 = true := by kernel_rfl
set_option maxHeartbeats 8000000 in
set_option maxRecDepth 100000 in
theorem swarfref44_Read.calls (k : Nat) (a0_0 : Bool) (A0_1 : Option Addr) (c0_1 : Nat) (l0_1 : List (S80)) (a0_2 : ByteArray) (a1 : Int) (a2 : Int) (a3 : Int) (a4 : Bool) (a5_0 : Int) (a5_1 : Int) (a5_2 : Int) (a5_3 : Int) (a5_4 : Int) (a5_5 : Int) (a5_6 : Bool) (r1 : Int) (r2 : Int) (r3 : Int) (r4 : Int) (r5 : Int) (r6 : Int) (r7 : Bool) (r8 : Int) (w : World) (hr0_1 : Kd.C k80 w A0_1 l0_1.length l0_1) (hc0_1 : l0_1.length ≤ c0_1) (h : swarfref44_Read.f k a0_0 l0_1 a0_2 a1 a2 a3 a4 a5_0 a5_1 a5_2 a5_3 a5_4 a5_5 a5_6 = some (r1, r2, r3, r4, r5, r6, r7, r8)) :
    Calls Try.prog 21 #[.agg #[.bool a0_0, .slice A0_1 l0_1.length c0_1, .string a0_2], .int .i64 a1, .int .i64 a2, .int .i64 a3, .bool a4, .agg #[.int .i64 a5_0, .int .i64 a5_1, .int .i64 a5_2, .int .i64 a5_3, .int .i64 a5_4, .int .i64 a5_5, .bool a5_6]] w fun e w' => e = .returned (.tuple #[.agg #[.int .i64 r1, .int .i64 r2, .int .i64 r3, .int .i64 r4, .int .i64 r5, .int .i64 r6, .bool r7], .int .i64 r8]) ∧ Below w.heap.size w w' := by
  have hu54 := Try.underlying54
  have hu23 := Try.underlying23
  have HR0_1 := Aside0.mk hr0_1
  have HC0_1 := Aside0.mk hc0_1
  clear hr0_1 hc0_1
  have HB := Aside0.mk (Below.refl w.heap.size w)
  have H : ((swarfref44_value.f k a0_0 l0_1 a0_2 82 a5_1).bind fun t369 => ((swarfref44_value.f k a0_0 l0_1 a0_2 90 a5_2).bind fun t370 => ((swarfref44_value.f k a0_0 l0_1 a0_2 81 a5_3).bind fun t371 => ((swarfref44_value.f k a0_0 l0_1 a0_2 70 a2).bind fun t372 => ((swarfref44_Valid.f k a1 t369 t370 t371 t372 a3 a4).bind fun t374 => (if t374 = 0 then (some (a1, t369, t370, t371, t372, a3, a4, 0)) else (some (0, 0, 0, 0, 0, 0, false, t374)))))))) = some (r1, r2, r3, r4, r5, r6, r7, r8) := h
  clear h
  replace H := Option.bind_eq_some_iff.mp H
  obtain ⟨t369, A70, H⟩ := H
  replace H : ((swarfref44_value.f k a0_0 l0_1 a0_2 90 a5_2).bind fun t370 => ((swarfref44_value.f k a0_0 l0_1 a0_2 81 a5_3).bind fun t371 => ((swarfref44_value.f k a0_0 l0_1 a0_2 70 a2).bind fun t372 => ((swarfref44_Valid.f k a1 t369 t370 t371 t372 a3 a4).bind fun t374 => (if t374 = 0 then (some (a1, t369, t370, t371, t372, a3, a4, 0)) else (some (0, 0, 0, 0, 0, 0, false, t374))))))) = some (r1, r2, r3, r4, r5, r6, r7, r8) := H
  have A7 := Aside0.mk A70
  clear A70
  replace H := Option.bind_eq_some_iff.mp H
  obtain ⟨t370, A80, H⟩ := H
  replace H : ((swarfref44_value.f k a0_0 l0_1 a0_2 81 a5_3).bind fun t371 => ((swarfref44_value.f k a0_0 l0_1 a0_2 70 a2).bind fun t372 => ((swarfref44_Valid.f k a1 t369 t370 t371 t372 a3 a4).bind fun t374 => (if t374 = 0 then (some (a1, t369, t370, t371, t372, a3, a4, 0)) else (some (0, 0, 0, 0, 0, 0, false, t374)))))) = some (r1, r2, r3, r4, r5, r6, r7, r8) := H
  have A8 := Aside0.mk A80
  clear A80
  replace H := Option.bind_eq_some_iff.mp H
  obtain ⟨t371, A90, H⟩ := H
  replace H : ((swarfref44_value.f k a0_0 l0_1 a0_2 70 a2).bind fun t372 => ((swarfref44_Valid.f k a1 t369 t370 t371 t372 a3 a4).bind fun t374 => (if t374 = 0 then (some (a1, t369, t370, t371, t372, a3, a4, 0)) else (some (0, 0, 0, 0, 0, 0, false, t374))))) = some (r1, r2, r3, r4, r5, r6, r7, r8) := H
  have A9 := Aside0.mk A90
  clear A90
  replace H := Option.bind_eq_some_iff.mp H
  obtain ⟨t372, A100, H⟩ := H
  replace H : ((swarfref44_Valid.f k a1 t369 t370 t371 t372 a3 a4).bind fun t374 => (if t374 = 0 then (some (a1, t369, t370, t371, t372, a3, a4, 0)) else (some (0, 0, 0, 0, 0, 0, false, t374)))) = some (r1, r2, r3, r4, r5, r6, r7, r8) := H
  have A10 := Aside0.mk A100
  clear A100
  replace H := Option.bind_eq_some_iff.mp H
  obtain ⟨t374, A110, H⟩ := H
  replace H : (if t374 = 0 then (some (a1, t369, t370, t371, t372, a3, a4, 0)) else (some (0, 0, 0, 0, 0, 0, false, t374))) = some (r1, r2, r3, r4, r5, r6, r7, r8) := H
  have A11 := Aside0.mk A110
  clear A110
  by_cases c12 : t374 = 0
  · rw [if_pos c12] at H
    have c12b0 : (t374 == 0) = true := beq_iff_eq.mpr c12
    have c12b1 : (t374 != 0) = false := bne_eq_false_iff_eq.mpr c12
    clear c12
    simp only [Option.some.injEq, Prod.mk.injEq] at H
    obtain ⟨rfl, rfl, rfl, rfl, rfl, rfl, rfl, rfl⟩ := H
    go_enter Try.func21, Try.ntmps21
    try go_wp2_with (first | ((with_reducible refine gate_dst (N := 6) rfl ?_); refine box_event ?hg (N := 6) ?hd (cs := #[.bool a0_0, .slice A0_1 l0_1.length c0_1, .string a0_2]) (t := 54) ?hr ?_; (case hd => rfl); (case hg => rfl); (case hr => first | (go_simp; done) | (go_simp; rfl)); intro gb366 hg w13 hbox hb; have n0_ := Aside0.mk (below_step (by repeat (first | (with_reducible first | exact HB.out | apply below_alloc | apply pw_below_drewN | apply below_drew1) | exact HB.out)) hb); have n1_ := Aside0.mk (hbox); have n2_ := Aside0.mk ((by rw [hg]; exact (below_size (by repeat (first | (with_reducible first | exact HB.out | apply below_alloc | apply pw_below_drewN | apply below_drew1) | exact HB.out))) : w.heap.size ≤ gb366)); have n3_ := Aside0.mk ((by rw [hg]; exact (below_size (by repeat (first | (with_reducible first | exact HB.out | apply below_alloc | apply pw_below_drewN | apply below_drew1) | exact HB.out))) : w.heap.size ≤ gb366)); clear HB; have HB := n0_; have BK366 := n1_; have GW366 := n2_; have GE366 := n3_; clear n0_ n1_ n2_ n3_; clear hb hbox hg) | ((with_reducible refine gate_dst (N := 11) rfl ?_); refine box_event ?hg (N := 11) ?hd (cs := #[.int .i64 a5_0, .int .i64 a5_1, .int .i64 a5_2, .int .i64 a5_3, .int .i64 a5_4, .int .i64 a5_5, .bool a5_6]) (t := 23) ?hr ?_; (case hd => rfl); (case hg => rfl); (case hr => first | (go_simp; done) | (go_simp; rfl)); intro gb367 hg w14 hbox hb; have n0_ := Aside0.mk (blk_below (g := gb366) (o := .cells #[.bool a0_0, .slice A0_1 l0_1.length c0_1, .string a0_2] 54 (0, 0)) (by (with_reducible repeat (first | refine blk_drewN ?_ _ | refine blk_drew ?_ | refine blk_alloc ?_ _)); exact BK366.out) hb); have n1_ := Aside0.mk (below_step (by repeat (first | (with_reducible first | exact HB.out | apply below_alloc | apply pw_below_drewN | apply below_drew1 | refine below_set ?_ GE366.out) | exact HB.out)) hb); have n2_ := Aside0.mk (hbox); have n3_ := Aside0.mk ((by rw [hg]; exact (below_size (by repeat (first | (with_reducible first | exact HB.out | apply below_alloc | apply pw_below_drewN | apply below_drew1 | refine below_set ?_ GE366.out) | exact HB.out))) : w.heap.size ≤ gb367)); have n4_ := Aside0.mk ((by rw [hg]; exact (below_size (by repeat (first | (with_reducible first | exact HB.out | apply below_alloc | apply pw_below_drewN | apply below_drew1 | refine below_set ?_ GE366.out) | exact HB.out))) : w.heap.size ≤ gb367)); have n5_ := Aside0.mk ((by rw [hg]; exact Nat.ne_of_lt (blk_lt (g := gb366) (o := .cells #[.bool a0_0, .slice A0_1 l0_1.length c0_1, .string a0_2] 54 (0, 0)) (by (with_reducible repeat (first | refine blk_drewN ?_ _ | refine blk_drew ?_ | refine blk_alloc ?_ _)); exact BK366.out)) : gb366 ≠ gb367)); have n6_ := Aside0.mk ((by rw [hg]; exact Nat.ne_of_gt (blk_lt (g := gb366) (o := .cells #[.bool a0_0, .slice A0_1 l0_1.length c0_1, .string a0_2] 54 (0, 0)) (by (with_reducible repeat (first | refine blk_drewN ?_ _ | refine blk_drew ?_ | refine blk_alloc ?_ _)); exact BK366.out)) : gb367 ≠ gb366)); clear BK366; clear HB; have BK366 := n0_; have HB := n1_; have BK367 := n2_; have GW367 := n3_; have GE367 := n4_; have NB366_367 := n5_; have NB367_366 := n6_; clear n0_ n1_ n2_ n3_ n4_ n5_ n6_; clear hb hbox hg) | ((with_reducible refine gate_dst (N := 12) rfl ?_); refine box_event ?hg (N := 12) ?hd (cs := #[.int .i64 0, .int .i64 0, .int .i64 0, .int .i64 0, .int .i64 0, .int .i64 0, .bool false]) (t := 23) ?hr ?_; (case hd => rfl); (case hg => rfl); (case hr => first | (go_simp; done) | (go_simp; rfl)); intro gb368 hg w15 hbox hb; have n0_ := Aside0.mk (blk_below (g := gb366) (o := .cells #[.bool a0_0, .slice A0_1 l0_1.length c0_1, .string a0_2] 54 (0, 0)) (by (with_reducible repeat (first | refine blk_drewN ?_ _ | refine blk_drew ?_ | refine blk_alloc ?_ _)); exact BK366.out) hb); have n1_ := Aside0.mk (blk_below (g := gb367) (o := .cells #[.int .i64 a5_0, .int .i64 a5_1, .int .i64 a5_2, .int .i64 a5_3, .int .i64 a5_4, .int .i64 a5_5, .bool a5_6] 23 (0, 0)) (by (with_reducible repeat (first | refine blk_drewN ?_ _ | refine blk_drew ?_ | refine blk_alloc ?_ _)); exact BK367.out) hb); have n2_ := Aside0.mk (below_step (by repeat (first | (with_reducible first | exact HB.out | apply below_alloc | apply pw_below_drewN | apply below_drew1 | refine below_set ?_ GE366.out | refine below_set ?_ GE367.out) | exact HB.out)) hb); have n3_ := Aside0.mk (hbox); have n4_ := Aside0.mk ((by rw [hg]; exact (below_size (by repeat (first | (with_reducible first | exact HB.out | apply below_alloc | apply pw_below_drewN | apply below_drew1 | refine below_set ?_ GE366.out | refine below_set ?_ GE367.out) | exact HB.out))) : w.heap.size ≤ gb368)); have n5_ := Aside0.mk ((by rw [hg]; exact (below_size (by repeat (first | (with_reducible first | exact HB.out | apply below_alloc | apply pw_below_drewN | apply below_drew1 | refine below_set ?_ GE366.out | refine below_set ?_ GE367.out) | exact HB.out))) : w.heap.size ≤ gb368)); have n6_ := Aside0.mk ((by rw [hg]; exact Nat.ne_of_lt (blk_lt (g := gb366) (o := .cells #[.bool a0_0, .slice A0_1 l0_1.length c0_1, .string a0_2] 54 (0, 0)) (by (with_reducible repeat (first | refine blk_drewN ?_ _ | refine blk_drew ?_ | refine blk_alloc ?_ _)); exact BK366.out)) : gb366 ≠ gb368)); have n7_ := Aside0.mk ((by rw [hg]; exact Nat.ne_of_gt (blk_lt (g := gb366) (o := .cells #[.bool a0_0, .slice A0_1 l0_1.length c0_1, .string a0_2] 54 (0, 0)) (by (with_reducible repeat (first | refine blk_drewN ?_ _ | refine blk_drew ?_ | refine blk_alloc ?_ _)); exact BK366.out)) : gb368 ≠ gb366)); have n8_ := Aside0.mk ((by rw [hg]; exact Nat.ne_of_lt (blk_lt (g := gb367) (o := .cells #[.int .i64 a5_0, .int .i64 a5_1, .int .i64 a5_2, .int .i64 a5_3, .int .i64 a5_4, .int .i64 a5_5, .bool a5_6] 23 (0, 0)) (by (with_reducible repeat (first | refine blk_drewN ?_ _ | refine blk_drew ?_ | refine blk_alloc ?_ _)); exact BK367.out)) : gb367 ≠ gb368)); have n9_ := Aside0.mk ((by rw [hg]; exact Nat.ne_of_gt (blk_lt (g := gb367) (o := .cells #[.int .i64 a5_0, .int .i64 a5_1, .int .i64 a5_2, .int .i64 a5_3, .int .i64 a5_4, .int .i64 a5_5, .bool a5_6] 23 (0, 0)) (by (with_reducible repeat (first | refine blk_drewN ?_ _ | refine blk_drew ?_ | refine blk_alloc ?_ _)); exact BK367.out)) : gb368 ≠ gb367)); clear BK366; clear BK367; clear HB; have BK366 := n0_; have BK367 := n1_; have HB := n2_; have BK368 := n3_; have GW368 := n4_; have GE368 := n5_; have NB366_368 := n6_; have NB368_366 := n7_; have NB367_368 := n8_; have NB368_367 := n9_; clear n0_ n1_ n2_ n3_ n4_ n5_ n6_ n7_ n8_ n9_; clear hb hbox hg))
    have n0_ := Aside0.mk (blk_drew BK366.out)
    have n1_ := Aside0.mk (blk_drew BK367.out)
    have n2_ := Aside0.mk (blk_drew BK368.out)
    have n3_ := Aside0.mk (below_drew1 HB.out)
    clear BK366
    clear BK367
    clear BK368
    clear HB
    have BK366 := n0_
    have BK367 := n1_
    have BK368 := n2_
    have HB := n3_
    clear n0_ n1_ n2_ n3_
    refine start_ (n := 21) (S := fun w' => w'.cell? ⟨gb366, 0, none⟩ = some (.bool a0_0) ∧ w'.cell? ⟨gb366, 1, none⟩ = some (.slice A0_1 l0_1.length c0_1) ∧ w'.cell? ⟨gb366, 2, none⟩ = some (.string a0_2) ∧ w'.cell? ⟨gb367, 0, none⟩ = some (.int .i64 a5_0) ∧ w'.cell? ⟨gb367, 1, none⟩ = some (.int .i64 a5_1) ∧ w'.cell? ⟨gb367, 2, none⟩ = some (.int .i64 a5_2) ∧ w'.cell? ⟨gb367, 3, none⟩ = some (.int .i64 a5_3) ∧ w'.cell? ⟨gb367, 4, none⟩ = some (.int .i64 a5_4) ∧ w'.cell? ⟨gb367, 5, none⟩ = some (.int .i64 a5_5) ∧ w'.cell? ⟨gb367, 6, none⟩ = some (.bool a5_6)) (ds := []) #[false, false, false, false, false, false, false, false, false, false, false, false, false, false, false, false, false, false, false, false, false] (by kernel_rfl) rfl rfl ⟨(blk_cell BK366.out 0).trans rfl, (blk_cell BK366.out 1).trans rfl, (blk_cell BK366.out 2).trans rfl, (blk_cell BK367.out 0).trans rfl, (blk_cell BK367.out 1).trans rfl, (blk_cell BK367.out 2).trans rfl, (blk_cell BK367.out 3).trans rfl, (blk_cell BK367.out 4).trans rfl, (blk_cell BK367.out 5).trans rfl, (blk_cell BK367.out 6).trans rfl⟩ (fun hHeld => ?_); refine with_tabW swarfref44_Read.tab1 swarfref44_Read.bits1 (fun HT_ HW_ => ?_)
    generalize w15.drew = w16 at BK366 BK367 BK368 HB hHeld ⊢
    refine pure_ (i := 0) (N := some 16) (v := ?_) (a' := ?_) #[true, false, false, false, false, false, false, false, false, false, false, false, false, false, false, false, false, false, false, false, false] rfl rfl (any_of HT_.out (by kernel_rfl)) (fun _ _ _ h => h) (Or.inl ⟨by rfl, ?_⟩) ?_ ?_
    rotate_left
    · intro w'
      go_simp
      with_reducible rfl
    rotate_left
    · simp only [Act.put, List.setIfInBounds_toArray, List.set_cons_zero, List.set_cons_succ, i64_w, i32_w]
      rfl
    refine pure_ (i := 2) (N := some 18) (v := ?_) (a' := ?_) #[true, false, true, false, false, false, false, false, false, false, false, false, false, false, false, false, false, false, false, false, false] rfl rfl (any_of HT_.out (by kernel_rfl)) (fun _ _ _ h => h) (Or.inl ⟨by rfl, ?_⟩) ?_ ?_
    rotate_left
    · intro w'
      go_simp
      with_reducible rfl
    rotate_left
    · simp only [Act.put, List.setIfInBounds_toArray, List.set_cons_zero, List.set_cons_succ, i64_w, i32_w]
      rfl
    refine pure_ (i := 6) (N := some 22) (v := ?_) (a' := ?_) #[true, false, true, false, false, false, true, false, false, false, false, false, false, false, false, false, false, false, false, false, false] rfl rfl (any_of HT_.out (by kernel_rfl)) (fun _ _ _ h => h) (Or.inl ⟨by rfl, ?_⟩) ?_ ?_
    rotate_left
    · intro w'
      go_simp
      with_reducible rfl
    rotate_left
    · simp only [Act.put, List.setIfInBounds_toArray, List.set_cons_zero, List.set_cons_succ, i64_w, i32_w]
      rfl
    refine pure_ (i := 10) (N := some 26) (v := ?_) (a' := ?_) #[true, false, true, false, false, false, true, false, false, false, true, false, false, false, false, false, false, false, false, false, false] rfl rfl (any_of HT_.out (by kernel_rfl)) (fun _ _ _ h => h) (Or.inl ⟨by rfl, ?_⟩) ?_ ?_
    rotate_left
    · intro w'
      go_simp
      with_reducible rfl
    rotate_left
    · simp only [Act.put, List.setIfInBounds_toArray, List.set_cons_zero, List.set_cons_succ, i64_w, i32_w]
      rfl
    refine pure_ (i := 14) (N := some 30) (v := ?_) (a' := ?_) #[true, false, true, false, false, false, true, false, false, false, true, false, false, false, true, false, false, false, false, false, false] rfl rfl (any_of HT_.out (by kernel_rfl)) (fun _ _ _ h => h) (Or.inl ⟨by rfl, ?_⟩) ?_ ?_
    rotate_left
    · intro w'
      go_simp
      with_reducible rfl
    rotate_left
    · simp only [Act.put, List.setIfInBounds_toArray, List.set_cons_zero, List.set_cons_succ, i64_w, i32_w]
      rfl
    refine pure_ (i := 16) (N := some 32) (v := ?_) (a' := ?_) #[true, false, true, false, false, false, true, false, false, false, true, false, false, false, true, false, true, false, false, false, false] rfl rfl (any_of HT_.out (by kernel_rfl)) (fun _ _ _ h => h) (Or.inl ⟨by rfl, ?_⟩) ?_ ?_
    rotate_left
    · intro w'
      go_simp
      with_reducible rfl
    rotate_left
    · simp only [Act.put, List.setIfInBounds_toArray, List.set_cons_zero, List.set_cons_succ, i64_w, i32_w]
      rfl
    refine pure_ (i := 17) (N := some 33) (v := ?_) (a' := ?_) #[true, false, true, false, false, false, true, false, false, false, true, false, false, false, true, false, true, true, false, false, false] rfl rfl (any_of HT_.out (by kernel_rfl)) (fun _ _ _ h => h) (Or.inl ⟨by rfl, ?_⟩) ?_ ?_
    rotate_left
    · intro w'
      go_simp
      with_reducible rfl
    rotate_left
    · simp only [Act.put, List.setIfInBounds_toArray, List.set_cons_zero, List.set_cons_succ, i64_w, i32_w]
      rfl
    refine take_ (i := 1) (N := some 17) (v := ?_) (a' := ?_) #[true, true, true, false, false, false, true, false, false, false, true, false, false, false, true, false, true, true, false, false, false] rfl rfl (take_ofW HT_.out HW_.out (by kernel_rfl)) (fun _ _ _ h => h) (Or.inl ⟨by rfl, ?_⟩) hHeld ?_ ?_
    rotate_left
    · rintro w' ⟨s0, s1, s2, s3, s4, s5, s6, s7, s8, s9⟩
      go_simp
      with_reducible rfl
    rotate_left
    · simp only [Act.put, List.setIfInBounds_toArray, List.set_cons_zero, List.set_cons_succ, i64_w, i32_w]
      rfl
    refine take_ (i := 3) (N := some 19) (v := ?_) (a' := ?_) #[true, true, true, true, false, false, true, false, false, false, true, false, false, false, true, false, true, true, false, false, false] rfl rfl (take_ofW HT_.out HW_.out (by kernel_rfl)) (fun _ _ _ h => h) (Or.inl ⟨by rfl, ?_⟩) hHeld ?_ ?_
    rotate_left
    · rintro w' ⟨s0, s1, s2, s3, s4, s5, s6, s7, s8, s9⟩
      go_simp
      with_reducible rfl
    rotate_left
    · simp only [Act.put, List.setIfInBounds_toArray, List.set_cons_zero, List.set_cons_succ, i64_w, i32_w]
      rfl
    refine take_ (i := 5) (N := some 21) (v := ?_) (a' := ?_) #[true, true, true, true, false, true, true, false, false, false, true, false, false, false, true, false, true, true, false, false, false] rfl rfl (take_ofW HT_.out HW_.out (by kernel_rfl)) (fun _ _ _ h => h) (Or.inl ⟨by rfl, ?_⟩) hHeld ?_ ?_
    rotate_left
    · rintro w' ⟨s0, s1, s2, s3, s4, s5, s6, s7, s8, s9⟩
      go_simp
      with_reducible rfl
    rotate_left
    · simp only [Act.put, List.setIfInBounds_toArray, List.set_cons_zero, List.set_cons_succ, i64_w, i32_w]
      rfl
    refine take_ (i := 7) (N := some 23) (v := ?_) (a' := ?_) #[true, true, true, true, false, true, true, true, false, false, true, false, false, false, true, false, true, true, false, false, false] rfl rfl (take_ofW HT_.out HW_.out (by kernel_rfl)) (fun _ _ _ h => h) (Or.inl ⟨by rfl, ?_⟩) hHeld ?_ ?_
    rotate_left
    · rintro w' ⟨s0, s1, s2, s3, s4, s5, s6, s7, s8, s9⟩
      go_simp
      with_reducible rfl
    rotate_left
    · simp only [Act.put, List.setIfInBounds_toArray, List.set_cons_zero, List.set_cons_succ, i64_w, i32_w]
      rfl
    refine take_ (i := 9) (N := some 25) (v := ?_) (a' := ?_) #[true, true, true, true, false, true, true, true, false, true, true, false, false, false, true, false, true, true, false, false, false] rfl rfl (take_ofW HT_.out HW_.out (by kernel_rfl)) (fun _ _ _ h => h) (Or.inl ⟨by rfl, ?_⟩) hHeld ?_ ?_
    rotate_left
    · rintro w' ⟨s0, s1, s2, s3, s4, s5, s6, s7, s8, s9⟩
      go_simp
      with_reducible rfl
    rotate_left
    · simp only [Act.put, List.setIfInBounds_toArray, List.set_cons_zero, List.set_cons_succ, i64_w, i32_w]
      rfl
    refine take_ (i := 11) (N := some 27) (v := ?_) (a' := ?_) #[true, true, true, true, false, true, true, true, false, true, true, true, false, false, true, false, true, true, false, false, false] rfl rfl (take_ofW HT_.out HW_.out (by kernel_rfl)) (fun _ _ _ h => h) (Or.inl ⟨by rfl, ?_⟩) hHeld ?_ ?_
    rotate_left
    · rintro w' ⟨s0, s1, s2, s3, s4, s5, s6, s7, s8, s9⟩
      go_simp
      with_reducible rfl
    rotate_left
    · simp only [Act.put, List.setIfInBounds_toArray, List.set_cons_zero, List.set_cons_succ, i64_w, i32_w]
      rfl
    refine take_ (i := 13) (N := some 29) (v := ?_) (a' := ?_) #[true, true, true, true, false, true, true, true, false, true, true, true, false, true, true, false, true, true, false, false, false] rfl rfl (take_ofW HT_.out HW_.out (by kernel_rfl)) (fun _ _ _ h => h) (Or.inl ⟨by rfl, ?_⟩) hHeld ?_ ?_
    rotate_left
    · rintro w' ⟨s0, s1, s2, s3, s4, s5, s6, s7, s8, s9⟩
      go_simp
      with_reducible rfl
    rotate_left
    · simp only [Act.put, List.setIfInBounds_toArray, List.set_cons_zero, List.set_cons_succ, i64_w, i32_w]
      rfl
    refine join_ (σ := Nat) 1 #[true, true, true, true, true, true, true, true, true, true, true, true, true, true, true, true, true, true, true, true, false] (fun s_ => [(20, .int .i64 t369), (24, .int .i64 t370), (28, .int .i64 t371), (31, .int .i64 t372), (14, .pointer (some ⟨s_, 0, none⟩)), (34, .agg #[.int .i64 a1, .int .i64 t369, .int .i64 t370, .int .i64 t371, .int .i64 t372, .int .i64 a3, .bool a4])]) (fun s_ w' => (w'.cell? ⟨gb366, 0, none⟩ = some (.bool a0_0) ∧ w'.cell? ⟨gb366, 1, none⟩ = some (.slice A0_1 l0_1.length c0_1) ∧ w'.cell? ⟨gb366, 2, none⟩ = some (.string a0_2) ∧ w'.cell? ⟨gb367, 0, none⟩ = some (.int .i64 a5_0) ∧ w'.cell? ⟨gb367, 1, none⟩ = some (.int .i64 a5_1) ∧ w'.cell? ⟨gb367, 2, none⟩ = some (.int .i64 a5_2) ∧ w'.cell? ⟨gb367, 3, none⟩ = some (.int .i64 a5_3) ∧ w'.cell? ⟨gb367, 4, none⟩ = some (.int .i64 a5_4) ∧ w'.cell? ⟨gb367, 5, none⟩ = some (.int .i64 a5_5) ∧ w'.cell? ⟨gb367, 6, none⟩ = some (.bool a5_6)) ∧ (w'.heap[gb366]? = some (.cells #[.bool a0_0, .slice A0_1 l0_1.length c0_1, .string a0_2] 54 (0, 0))) ∧ (w'.heap[gb367]? = some (.cells #[.int .i64 a5_0, .int .i64 a5_1, .int .i64 a5_2, .int .i64 a5_3, .int .i64 a5_4, .int .i64 a5_5, .bool a5_6] 23 (0, 0))) ∧ (w'.heap[gb368]? = some (.cells #[.int .i64 0, .int .i64 0, .int .i64 0, .int .i64 0, .int .i64 0, .int .i64 0, .bool false] 23 (0, 0))) ∧ (w'.heap[s_]? = some (.cells #[.int .i64 0, .int .i64 0, .int .i64 0, .int .i64 0, .int .i64 0, .int .i64 0, .bool false] 23 (0, 0))) ∧ (w.heap.size ≤ s_) ∧ (w.heap.size ≤ s_) ∧ (gb366 ≠ s_) ∧ (s_ ≠ gb366) ∧ (gb367 ≠ s_) ∧ (s_ ≠ gb367) ∧ (gb368 ≠ s_) ∧ (s_ ≠ gb368) ∧ (Below w.heap.size w w')) ?_ ?_
    rotate_left
    · intro hJ4_8_12_15_19
      refine join_ (σ := Unit) 2 #[true, true, true, true, true, true, true, true, true, true, true, true, true, true, true, true, true, true, true, false, false] (fun s_ => [(20, .int .i64 t369), (24, .int .i64 t370), (28, .int .i64 t371), (31, .int .i64 t372), (34, .agg #[.int .i64 a1, .int .i64 t369, .int .i64 t370, .int .i64 t371, .int .i64 t372, .int .i64 a3, .bool a4])]) (fun s_ w' => (w'.cell? ⟨gb366, 0, none⟩ = some (.bool a0_0) ∧ w'.cell? ⟨gb366, 1, none⟩ = some (.slice A0_1 l0_1.length c0_1) ∧ w'.cell? ⟨gb366, 2, none⟩ = some (.string a0_2) ∧ w'.cell? ⟨gb367, 0, none⟩ = some (.int .i64 a5_0) ∧ w'.cell? ⟨gb367, 1, none⟩ = some (.int .i64 a5_1) ∧ w'.cell? ⟨gb367, 2, none⟩ = some (.int .i64 a5_2) ∧ w'.cell? ⟨gb367, 3, none⟩ = some (.int .i64 a5_3) ∧ w'.cell? ⟨gb367, 4, none⟩ = some (.int .i64 a5_4) ∧ w'.cell? ⟨gb367, 5, none⟩ = some (.int .i64 a5_5) ∧ w'.cell? ⟨gb367, 6, none⟩ = some (.bool a5_6)) ∧ (w'.heap[gb366]? = some (.cells #[.bool a0_0, .slice A0_1 l0_1.length c0_1, .string a0_2] 54 (0, 0))) ∧ (w'.heap[gb367]? = some (.cells #[.int .i64 a5_0, .int .i64 a5_1, .int .i64 a5_2, .int .i64 a5_3, .int .i64 a5_4, .int .i64 a5_5, .bool a5_6] 23 (0, 0))) ∧ (w'.heap[gb368]? = some (.cells #[.int .i64 0, .int .i64 0, .int .i64 0, .int .i64 0, .int .i64 0, .int .i64 0, .bool false] 23 (0, 0))) ∧ (Below w.heap.size w w')) ?_ ?_
      rotate_left
      · intro hJ4_8_12_15
        refine join_ (σ := Nat) 3 #[true, true, true, true, true, true, true, true, true, true, true, true, true, true, true, false, true, true, false, true, false] (fun s_ => [(20, .int .i64 t369), (24, .int .i64 t370), (28, .int .i64 t371), (14, .pointer (some ⟨s_, 0, none⟩))]) (fun s_ w' => (w'.cell? ⟨gb366, 0, none⟩ = some (.bool a0_0) ∧ w'.cell? ⟨gb366, 1, none⟩ = some (.slice A0_1 l0_1.length c0_1) ∧ w'.cell? ⟨gb366, 2, none⟩ = some (.string a0_2) ∧ w'.cell? ⟨gb367, 0, none⟩ = some (.int .i64 a5_0) ∧ w'.cell? ⟨gb367, 1, none⟩ = some (.int .i64 a5_1) ∧ w'.cell? ⟨gb367, 2, none⟩ = some (.int .i64 a5_2) ∧ w'.cell? ⟨gb367, 3, none⟩ = some (.int .i64 a5_3) ∧ w'.cell? ⟨gb367, 4, none⟩ = some (.int .i64 a5_4) ∧ w'.cell? ⟨gb367, 5, none⟩ = some (.int .i64 a5_5) ∧ w'.cell? ⟨gb367, 6, none⟩ = some (.bool a5_6)) ∧ (w'.heap[gb366]? = some (.cells #[.bool a0_0, .slice A0_1 l0_1.length c0_1, .string a0_2] 54 (0, 0))) ∧ (w'.heap[gb367]? = some (.cells #[.int .i64 a5_0, .int .i64 a5_1, .int .i64 a5_2, .int .i64 a5_3, .int .i64 a5_4, .int .i64 a5_5, .bool a5_6] 23 (0, 0))) ∧ (w'.heap[gb368]? = some (.cells #[.int .i64 0, .int .i64 0, .int .i64 0, .int .i64 0, .int .i64 0, .int .i64 0, .bool false] 23 (0, 0))) ∧ (w'.heap[s_]? = some (.cells #[.int .i64 0, .int .i64 0, .int .i64 0, .int .i64 0, .int .i64 0, .int .i64 0, .bool false] 23 (0, 0))) ∧ (w.heap.size ≤ s_) ∧ (w.heap.size ≤ s_) ∧ (gb366 ≠ s_) ∧ (s_ ≠ gb366) ∧ (gb367 ≠ s_) ∧ (s_ ≠ gb367) ∧ (gb368 ≠ s_) ∧ (s_ ≠ gb368) ∧ (Below w.heap.size w w')) ?_ ?_
        rotate_left
        · intro hJ4_8_12_19
          refine join_ (σ := Unit) 4 #[true, true, true, true, true, true, true, true, true, true, true, true, true, true, true, false, true, true, false, false, false] (fun s_ => [(20, .int .i64 t369), (24, .int .i64 t370), (28, .int .i64 t371)]) (fun s_ w' => (w'.cell? ⟨gb366, 0, none⟩ = some (.bool a0_0) ∧ w'.cell? ⟨gb366, 1, none⟩ = some (.slice A0_1 l0_1.length c0_1) ∧ w'.cell? ⟨gb366, 2, none⟩ = some (.string a0_2) ∧ w'.cell? ⟨gb367, 0, none⟩ = some (.int .i64 a5_0) ∧ w'.cell? ⟨gb367, 1, none⟩ = some (.int .i64 a5_1) ∧ w'.cell? ⟨gb367, 2, none⟩ = some (.int .i64 a5_2) ∧ w'.cell? ⟨gb367, 3, none⟩ = some (.int .i64 a5_3) ∧ w'.cell? ⟨gb367, 4, none⟩ = some (.int .i64 a5_4) ∧ w'.cell? ⟨gb367, 5, none⟩ = some (.int .i64 a5_5) ∧ w'.cell? ⟨gb367, 6, none⟩ = some (.bool a5_6)) ∧ (w'.heap[gb366]? = some (.cells #[.bool a0_0, .slice A0_1 l0_1.length c0_1, .string a0_2] 54 (0, 0))) ∧ (w'.heap[gb367]? = some (.cells #[.int .i64 a5_0, .int .i64 a5_1, .int .i64 a5_2, .int .i64 a5_3, .int .i64 a5_4, .int .i64 a5_5, .bool a5_6] 23 (0, 0))) ∧ (w'.heap[gb368]? = some (.cells #[.int .i64 0, .int .i64 0, .int .i64 0, .int .i64 0, .int .i64 0, .int .i64 0, .bool false] 23 (0, 0))) ∧ (Below w.heap.size w w')) ?_ ?_
          rotate_left
          · intro hJ4_8_12
            refine join_ (σ := Nat) 4 #[true, true, true, true, true, true, true, true, true, true, true, true, false, true, true, false, true, true, false, true, false] (fun s_ => [(20, .int .i64 t369), (24, .int .i64 t370), (14, .pointer (some ⟨s_, 0, none⟩))]) (fun s_ w' => (w'.cell? ⟨gb366, 0, none⟩ = some (.bool a0_0) ∧ w'.cell? ⟨gb366, 1, none⟩ = some (.slice A0_1 l0_1.length c0_1) ∧ w'.cell? ⟨gb366, 2, none⟩ = some (.string a0_2) ∧ w'.cell? ⟨gb367, 0, none⟩ = some (.int .i64 a5_0) ∧ w'.cell? ⟨gb367, 1, none⟩ = some (.int .i64 a5_1) ∧ w'.cell? ⟨gb367, 2, none⟩ = some (.int .i64 a5_2) ∧ w'.cell? ⟨gb367, 3, none⟩ = some (.int .i64 a5_3) ∧ w'.cell? ⟨gb367, 4, none⟩ = some (.int .i64 a5_4) ∧ w'.cell? ⟨gb367, 5, none⟩ = some (.int .i64 a5_5) ∧ w'.cell? ⟨gb367, 6, none⟩ = some (.bool a5_6)) ∧ (w'.heap[gb366]? = some (.cells #[.bool a0_0, .slice A0_1 l0_1.length c0_1, .string a0_2] 54 (0, 0))) ∧ (w'.heap[gb367]? = some (.cells #[.int .i64 a5_0, .int .i64 a5_1, .int .i64 a5_2, .int .i64 a5_3, .int .i64 a5_4, .int .i64 a5_5, .bool a5_6] 23 (0, 0))) ∧ (w'.heap[gb368]? = some (.cells #[.int .i64 0, .int .i64 0, .int .i64 0, .int .i64 0, .int .i64 0, .int .i64 0, .bool false] 23 (0, 0))) ∧ (w'.heap[s_]? = some (.cells #[.int .i64 0, .int .i64 0, .int .i64 0, .int .i64 0, .int .i64 0, .int .i64 0, .bool false] 23 (0, 0))) ∧ (w.heap.size ≤ s_) ∧ (w.heap.size ≤ s_) ∧ (gb366 ≠ s_) ∧ (s_ ≠ gb366) ∧ (gb367 ≠ s_) ∧ (s_ ≠ gb367) ∧ (gb368 ≠ s_) ∧ (s_ ≠ gb368) ∧ (Below w.heap.size w w')) ?_ ?_
            rotate_left
            · intro hJ4_8_19
              refine join_ (σ := Unit) 5 #[true, true, true, true, true, true, true, true, true, true, true, true, false, true, true, false, true, true, false, false, false] (fun s_ => [(20, .int .i64 t369), (24, .int .i64 t370)]) (fun s_ w' => (w'.cell? ⟨gb366, 0, none⟩ = some (.bool a0_0) ∧ w'.cell? ⟨gb366, 1, none⟩ = some (.slice A0_1 l0_1.length c0_1) ∧ w'.cell? ⟨gb366, 2, none⟩ = some (.string a0_2) ∧ w'.cell? ⟨gb367, 0, none⟩ = some (.int .i64 a5_0) ∧ w'.cell? ⟨gb367, 1, none⟩ = some (.int .i64 a5_1) ∧ w'.cell? ⟨gb367, 2, none⟩ = some (.int .i64 a5_2) ∧ w'.cell? ⟨gb367, 3, none⟩ = some (.int .i64 a5_3) ∧ w'.cell? ⟨gb367, 4, none⟩ = some (.int .i64 a5_4) ∧ w'.cell? ⟨gb367, 5, none⟩ = some (.int .i64 a5_5) ∧ w'.cell? ⟨gb367, 6, none⟩ = some (.bool a5_6)) ∧ (w'.heap[gb366]? = some (.cells #[.bool a0_0, .slice A0_1 l0_1.length c0_1, .string a0_2] 54 (0, 0))) ∧ (w'.heap[gb367]? = some (.cells #[.int .i64 a5_0, .int .i64 a5_1, .int .i64 a5_2, .int .i64 a5_3, .int .i64 a5_4, .int .i64 a5_5, .bool a5_6] 23 (0, 0))) ∧ (w'.heap[gb368]? = some (.cells #[.int .i64 0, .int .i64 0, .int .i64 0, .int .i64 0, .int .i64 0, .int .i64 0, .bool false] 23 (0, 0))) ∧ (Below w.heap.size w w')) ?_ ?_
              rotate_left
              · intro hJ4_8
                refine join_ (σ := Nat) 5 #[true, true, true, true, true, true, true, true, false, true, true, true, false, true, true, false, true, true, false, true, false] (fun s_ => [(20, .int .i64 t369), (14, .pointer (some ⟨s_, 0, none⟩))]) (fun s_ w' => (w'.cell? ⟨gb366, 0, none⟩ = some (.bool a0_0) ∧ w'.cell? ⟨gb366, 1, none⟩ = some (.slice A0_1 l0_1.length c0_1) ∧ w'.cell? ⟨gb366, 2, none⟩ = some (.string a0_2) ∧ w'.cell? ⟨gb367, 0, none⟩ = some (.int .i64 a5_0) ∧ w'.cell? ⟨gb367, 1, none⟩ = some (.int .i64 a5_1) ∧ w'.cell? ⟨gb367, 2, none⟩ = some (.int .i64 a5_2) ∧ w'.cell? ⟨gb367, 3, none⟩ = some (.int .i64 a5_3) ∧ w'.cell? ⟨gb367, 4, none⟩ = some (.int .i64 a5_4) ∧ w'.cell? ⟨gb367, 5, none⟩ = some (.int .i64 a5_5) ∧ w'.cell? ⟨gb367, 6, none⟩ = some (.bool a5_6)) ∧ (w'.heap[gb366]? = some (.cells #[.bool a0_0, .slice A0_1 l0_1.length c0_1, .string a0_2] 54 (0, 0))) ∧ (w'.heap[gb367]? = some (.cells #[.int .i64 a5_0, .int .i64 a5_1, .int .i64 a5_2, .int .i64 a5_3, .int .i64 a5_4, .int .i64 a5_5, .bool a5_6] 23 (0, 0))) ∧ (w'.heap[gb368]? = some (.cells #[.int .i64 0, .int .i64 0, .int .i64 0, .int .i64 0, .int .i64 0, .int .i64 0, .bool false] 23 (0, 0))) ∧ (w'.heap[s_]? = some (.cells #[.int .i64 0, .int .i64 0, .int .i64 0, .int .i64 0, .int .i64 0, .int .i64 0, .bool false] 23 (0, 0))) ∧ (w.heap.size ≤ s_) ∧ (w.heap.size ≤ s_) ∧ (gb366 ≠ s_) ∧ (s_ ≠ gb366) ∧ (gb367 ≠ s_) ∧ (s_ ≠ gb367) ∧ (gb368 ≠ s_) ∧ (s_ ≠ gb368) ∧ (Below w.heap.size w w')) ?_ ?_
                rotate_left
                · intro hJ4_19
                  refine join_ (σ := Unit) 6 #[true, true, true, true, true, true, true, true, false, true, true, true, false, true, true, false, true, true, false, false, false] (fun s_ => [(20, .int .i64 t369)]) (fun s_ w' => (w'.cell? ⟨gb366, 0, none⟩ = some (.bool a0_0) ∧ w'.cell? ⟨gb366, 1, none⟩ = some (.slice A0_1 l0_1.length c0_1) ∧ w'.cell? ⟨gb366, 2, none⟩ = some (.string a0_2) ∧ w'.cell? ⟨gb367, 0, none⟩ = some (.int .i64 a5_0) ∧ w'.cell? ⟨gb367, 1, none⟩ = some (.int .i64 a5_1) ∧ w'.cell? ⟨gb367, 2, none⟩ = some (.int .i64 a5_2) ∧ w'.cell? ⟨gb367, 3, none⟩ = some (.int .i64 a5_3) ∧ w'.cell? ⟨gb367, 4, none⟩ = some (.int .i64 a5_4) ∧ w'.cell? ⟨gb367, 5, none⟩ = some (.int .i64 a5_5) ∧ w'.cell? ⟨gb367, 6, none⟩ = some (.bool a5_6)) ∧ (w'.heap[gb366]? = some (.cells #[.bool a0_0, .slice A0_1 l0_1.length c0_1, .string a0_2] 54 (0, 0))) ∧ (w'.heap[gb367]? = some (.cells #[.int .i64 a5_0, .int .i64 a5_1, .int .i64 a5_2, .int .i64 a5_3, .int .i64 a5_4, .int .i64 a5_5, .bool a5_6] 23 (0, 0))) ∧ (w'.heap[gb368]? = some (.cells #[.int .i64 0, .int .i64 0, .int .i64 0, .int .i64 0, .int .i64 0, .int .i64 0, .bool false] 23 (0, 0))) ∧ (Below w.heap.size w w')) ?_ ?_
                  rotate_left
                  · intro hJ4
                    refine join_ (σ := Nat) 6 #[true, true, true, true, false, true, true, true, false, true, true, true, false, true, true, false, true, true, false, true, false] (fun s_ => [(14, .pointer (some ⟨s_, 0, none⟩))]) (fun s_ w' => (w'.cell? ⟨gb366, 0, none⟩ = some (.bool a0_0) ∧ w'.cell? ⟨gb366, 1, none⟩ = some (.slice A0_1 l0_1.length c0_1) ∧ w'.cell? ⟨gb366, 2, none⟩ = some (.string a0_2) ∧ w'.cell? ⟨gb367, 0, none⟩ = some (.int .i64 a5_0) ∧ w'.cell? ⟨gb367, 1, none⟩ = some (.int .i64 a5_1) ∧ w'.cell? ⟨gb367, 2, none⟩ = some (.int .i64 a5_2) ∧ w'.cell? ⟨gb367, 3, none⟩ = some (.int .i64 a5_3) ∧ w'.cell? ⟨gb367, 4, none⟩ = some (.int .i64 a5_4) ∧ w'.cell? ⟨gb367, 5, none⟩ = some (.int .i64 a5_5) ∧ w'.cell? ⟨gb367, 6, none⟩ = some (.bool a5_6)) ∧ (w'.heap[gb366]? = some (.cells #[.bool a0_0, .slice A0_1 l0_1.length c0_1, .string a0_2] 54 (0, 0))) ∧ (w'.heap[gb367]? = some (.cells #[.int .i64 a5_0, .int .i64 a5_1, .int .i64 a5_2, .int .i64 a5_3, .int .i64 a5_4, .int .i64 a5_5, .bool a5_6] 23 (0, 0))) ∧ (w'.heap[gb368]? = some (.cells #[.int .i64 0, .int .i64 0, .int .i64 0, .int .i64 0, .int .i64 0, .int .i64 0, .bool false] 23 (0, 0))) ∧ (w'.heap[s_]? = some (.cells #[.int .i64 0, .int .i64 0, .int .i64 0, .int .i64 0, .int .i64 0, .int .i64 0, .bool false] 23 (0, 0))) ∧ (w.heap.size ≤ s_) ∧ (w.heap.size ≤ s_) ∧ (gb366 ≠ s_) ∧ (s_ ≠ gb366) ∧ (gb367 ≠ s_) ∧ (s_ ≠ gb367) ∧ (gb368 ≠ s_) ∧ (s_ ≠ gb368) ∧ (Below w.heap.size w w')) ?_ ?_
                    rotate_left
                    · intro hJ19
                      refine two_ (i := 4) (j := 19) (Ni := some 20) (Nj := some 14) #[true, true, true, true, true, true, true, true, false, true, true, true, false, true, true, false, true, true, false, false, false] #[true, true, true, true, false, true, true, true, false, true, true, true, false, true, true, false, true, true, false, true, false] rfl rfl rfl rfl (two_of HT_.out (by kernel_rfl)) (by decide) (by decide) (fun K hK => ?_) (fun K hK => ?_)
                      · skip
                        refine goes_ Try.func32 (by kernel_rfl) rfl #[.agg #[.bool a0_0, .slice A0_1 l0_1.length c0_1, .string a0_2], .int .u8 82, .int .i64 a5_1] (by rfl) rfl rfl (by (try simp only [List.map_toArray, List.map_cons, List.map_nil]); first | done | rfl | (simp only [List.length_drop, List.length_take]; rfl)) ?_
                        with_reducible refine (swarfref44_value.calls k a0_0 _ _ l0_1 a0_2 82 a5_1 t369 _ ?side1 ?side2 A7.out).mono ?_
                        (case side1 => repeat (first | exact (Kd.C_below HR0_1.out HB.out) | (with_reducible refine Kd.C_alloc ?_ _) | (with_reducible refine Kd.C_drewN ?_ _) | (with_reducible refine Kd.C_drew ?_)))
                        (case side2 => exact HC0_1.out)
                        rintro e w17 ⟨rfl, hb⟩
                        refine ⟨_, rfl, ?_⟩
                        have n0_ := Aside0.mk (blk_below (g := gb366) (o := .cells #[.bool a0_0, .slice A0_1 l0_1.length c0_1, .string a0_2] 54 (0, 0)) (by (with_reducible repeat (first | refine blk_drewN ?_ _ | refine blk_drew ?_ | refine blk_alloc ?_ _)); exact BK366.out) hb)
                        have n1_ := Aside0.mk (blk_below (g := gb367) (o := .cells #[.int .i64 a5_0, .int .i64 a5_1, .int .i64 a5_2, .int .i64 a5_3, .int .i64 a5_4, .int .i64 a5_5, .bool a5_6] 23 (0, 0)) (by (with_reducible repeat (first | refine blk_drewN ?_ _ | refine blk_drew ?_ | refine blk_alloc ?_ _)); exact BK367.out) hb)
                        have n2_ := Aside0.mk (blk_below (g := gb368) (o := .cells #[.int .i64 0, .int .i64 0, .int .i64 0, .int .i64 0, .int .i64 0, .int .i64 0, .bool false] 23 (0, 0)) (by (with_reducible repeat (first | refine blk_drewN ?_ _ | refine blk_drew ?_ | refine blk_alloc ?_ _)); exact BK368.out) hb)
                        have n3_ := Aside0.mk (below_step (by repeat (first | (with_reducible first | exact HB.out | apply below_alloc | apply pw_below_drewN | apply below_drew1 | refine below_set ?_ GE366.out | refine below_set ?_ GE367.out | refine below_set ?_ GE368.out) | exact HB.out)) hb)
                        clear BK366
                        clear BK367
                        clear BK368
                        clear HB
                        have BK366 := n0_
                        have BK367 := n1_
                        have BK368 := n2_
                        have HB := n3_
                        clear n0_ n1_ n2_ n3_
                        (try clear hb)
                        (try clear hb2)
                        (try clear hk)
                        (try clear hi)
                        refine hK.out _ _ ⟨(blk_cell BK366.out 0).trans rfl, (blk_cell BK366.out 1).trans rfl, (blk_cell BK366.out 2).trans rfl, (blk_cell BK367.out 0).trans rfl, (blk_cell BK367.out 1).trans rfl, (blk_cell BK367.out 2).trans rfl, (blk_cell BK367.out 3).trans rfl, (blk_cell BK367.out 4).trans rfl, (blk_cell BK367.out 5).trans rfl, (blk_cell BK367.out 6).trans rfl⟩ (fun hHeld => ?_)
                        clear hK K
                        refine norm_ (a' := ?_) ?_ ?_
                        rotate_left
                        · show Act.put _ (some 20) _ = _
                          simp only [Act.put, List.setIfInBounds_toArray, List.set_cons_zero, List.set_cons_succ, i64_w, i32_w]
                          rfl
                        exact norm_ (by first | (simp only [putAll, Act.put, List.setIfInBounds_toArray, List.set_cons_zero, List.set_cons_succ]; done) | (simp only [putAll, Act.put, List.setIfInBounds_toArray, List.set_cons_zero, List.set_cons_succ]; rfl)) (hJ4 () _ ⟨hHeld, (by (with_reducible repeat (first | refine blk_drewN ?_ _ | refine blk_drew ?_ | refine blk_alloc ?_ _)); exact BK366.out), (by (with_reducible repeat (first | refine blk_drewN ?_ _ | refine blk_drew ?_ | refine blk_alloc ?_ _)); exact BK367.out), (by (with_reducible repeat (first | refine blk_drewN ?_ _ | refine blk_drew ?_ | refine blk_alloc ?_ _)); exact BK368.out), (by repeat (first | (with_reducible first | exact HB.out | apply below_alloc | apply pw_below_drewN | apply below_drew1 | refine below_set ?_ GE366.out | refine below_set ?_ GE367.out | refine below_set ?_ GE368.out) | exact HB.out))⟩)
                      · skip
                        refine box_step ?hg (N := 14) ?hd (cs := #[.int .i64 0, .int .i64 0, .int .i64 0, .int .i64 0, .int .i64 0, .int .i64 0, .bool false]) (t := 23) ?hr ?_; (case hd => rfl); (case hg => rfl); (case hr => first | (go_simp; done) | (go_simp; rfl))
                        intro gb373 hg w17 hbox hb
                        have n0_ := Aside0.mk (blk_below (g := gb366) (o := .cells #[.bool a0_0, .slice A0_1 l0_1.length c0_1, .string a0_2] 54 (0, 0)) (by (with_reducible repeat (first | refine blk_drewN ?_ _ | refine blk_drew ?_ | refine blk_alloc ?_ _)); exact BK366.out) hb)
                        have n1_ := Aside0.mk (blk_below (g := gb367) (o := .cells #[.int .i64 a5_0, .int .i64 a5_1, .int .i64 a5_2, .int .i64 a5_3, .int .i64 a5_4, .int .i64 a5_5, .bool a5_6] 23 (0, 0)) (by (with_reducible repeat (first | refine blk_drewN ?_ _ | refine blk_drew ?_ | refine blk_alloc ?_ _)); exact BK367.out) hb)
                        have n2_ := Aside0.mk (blk_below (g := gb368) (o := .cells #[.int .i64 0, .int .i64 0, .int .i64 0, .int .i64 0, .int .i64 0, .int .i64 0, .bool false] 23 (0, 0)) (by (with_reducible repeat (first | refine blk_drewN ?_ _ | refine blk_drew ?_ | refine blk_alloc ?_ _)); exact BK368.out) hb)
                        have n3_ := Aside0.mk (below_step (by repeat (first | (with_reducible first | exact HB.out | apply below_alloc | apply pw_below_drewN | apply below_drew1 | refine below_set ?_ GE366.out | refine below_set ?_ GE367.out | refine below_set ?_ GE368.out) | exact HB.out)) hb)
                        have n4_ := Aside0.mk (hbox)
                        have n5_ := Aside0.mk ((by rw [hg]; exact (below_size (by repeat (first | (with_reducible first | exact HB.out | apply below_alloc | apply pw_below_drewN | apply below_drew1 | refine below_set ?_ GE366.out | refine below_set ?_ GE367.out | refine below_set ?_ GE368.out) | exact HB.out))) : w.heap.size ≤ gb373))
                        have n6_ := Aside0.mk ((by rw [hg]; exact (below_size (by repeat (first | (with_reducible first | exact HB.out | apply below_alloc | apply pw_below_drewN | apply below_drew1 | refine below_set ?_ GE366.out | refine below_set ?_ GE367.out | refine below_set ?_ GE368.out) | exact HB.out))) : w.heap.size ≤ gb373))
                        have n7_ := Aside0.mk ((by rw [hg]; exact Nat.ne_of_lt (blk_lt (g := gb366) (o := .cells #[.bool a0_0, .slice A0_1 l0_1.length c0_1, .string a0_2] 54 (0, 0)) (by (with_reducible repeat (first | refine blk_drewN ?_ _ | refine blk_drew ?_ | refine blk_alloc ?_ _)); exact BK366.out)) : gb366 ≠ gb373))
                        have n8_ := Aside0.mk ((by rw [hg]; exact Nat.ne_of_gt (blk_lt (g := gb366) (o := .cells #[.bool a0_0, .slice A0_1 l0_1.length c0_1, .string a0_2] 54 (0, 0)) (by (with_reducible repeat (first | refine blk_drewN ?_ _ | refine blk_drew ?_ | refine blk_alloc ?_ _)); exact BK366.out)) : gb373 ≠ gb366))
                        have n9_ := Aside0.mk ((by rw [hg]; exact Nat.ne_of_lt (blk_lt (g := gb367) (o := .cells #[.int .i64 a5_0, .int .i64 a5_1, .int .i64 a5_2, .int .i64 a5_3, .int .i64 a5_4, .int .i64 a5_5, .bool a5_6] 23 (0, 0)) (by (with_reducible repeat (first | refine blk_drewN ?_ _ | refine blk_drew ?_ | refine blk_alloc ?_ _)); exact BK367.out)) : gb367 ≠ gb373))
                        have n10_ := Aside0.mk ((by rw [hg]; exact Nat.ne_of_gt (blk_lt (g := gb367) (o := .cells #[.int .i64 a5_0, .int .i64 a5_1, .int .i64 a5_2, .int .i64 a5_3, .int .i64 a5_4, .int .i64 a5_5, .bool a5_6] 23 (0, 0)) (by (with_reducible repeat (first | refine blk_drewN ?_ _ | refine blk_drew ?_ | refine blk_alloc ?_ _)); exact BK367.out)) : gb373 ≠ gb367))
                        have n11_ := Aside0.mk ((by rw [hg]; exact Nat.ne_of_lt (blk_lt (g := gb368) (o := .cells #[.int .i64 0, .int .i64 0, .int .i64 0, .int .i64 0, .int .i64 0, .int .i64 0, .bool false] 23 (0, 0)) (by (with_reducible repeat (first | refine blk_drewN ?_ _ | refine blk_drew ?_ | refine blk_alloc ?_ _)); exact BK368.out)) : gb368 ≠ gb373))
                        have n12_ := Aside0.mk ((by rw [hg]; exact Nat.ne_of_gt (blk_lt (g := gb368) (o := .cells #[.int .i64 0, .int .i64 0, .int .i64 0, .int .i64 0, .int .i64 0, .int .i64 0, .bool false] 23 (0, 0)) (by (with_reducible repeat (first | refine blk_drewN ?_ _ | refine blk_drew ?_ | refine blk_alloc ?_ _)); exact BK368.out)) : gb373 ≠ gb368))
                        clear BK366
                        clear BK367
                        clear BK368
                        clear HB
                        have BK366 := n0_
                        have BK367 := n1_
                        have BK368 := n2_
                        have HB := n3_
                        have BK373 := n4_
                        have GW373 := n5_
                        have GE373 := n6_
                        have NB366_373 := n7_
                        have NB373_366 := n8_
                        have NB367_373 := n9_
                        have NB373_367 := n10_
                        have NB368_373 := n11_
                        have NB373_368 := n12_
                        clear n0_ n1_ n2_ n3_ n4_ n5_ n6_ n7_ n8_ n9_ n10_ n11_ n12_
                        clear hb hbox hg
                        refine hK.out _ _ ⟨(blk_cell BK366.out 0).trans rfl, (blk_cell BK366.out 1).trans rfl, (blk_cell BK366.out 2).trans rfl, (blk_cell BK367.out 0).trans rfl, (blk_cell BK367.out 1).trans rfl, (blk_cell BK367.out 2).trans rfl, (blk_cell BK367.out 3).trans rfl, (blk_cell BK367.out 4).trans rfl, (blk_cell BK367.out 5).trans rfl, (blk_cell BK367.out 6).trans rfl⟩ (fun hHeld => ?_)
                        clear hK K
                        refine norm_ (a' := ?_) ?_ ?_
                        rotate_left
                        · show Act.put _ (some 14) _ = _
                          simp only [Act.put, List.setIfInBounds_toArray, List.set_cons_zero, List.set_cons_succ, i64_w, i32_w]
                          rfl
                        exact norm_ (by first | (simp only [putAll, Act.put, List.setIfInBounds_toArray, List.set_cons_zero, List.set_cons_succ]; done) | (simp only [putAll, Act.put, List.setIfInBounds_toArray, List.set_cons_zero, List.set_cons_succ]; rfl)) (hJ19 (gb373) _ ⟨hHeld, (by (with_reducible repeat (first | refine blk_drewN ?_ _ | refine blk_drew ?_ | refine blk_alloc ?_ _)); exact BK366.out), (by (with_reducible repeat (first | refine blk_drewN ?_ _ | refine blk_drew ?_ | refine blk_alloc ?_ _)); exact BK367.out), (by (with_reducible repeat (first | refine blk_drewN ?_ _ | refine blk_drew ?_ | refine blk_alloc ?_ _)); exact BK368.out), (by (with_reducible repeat (first | refine blk_drewN ?_ _ | refine blk_drew ?_ | refine blk_alloc ?_ _)); exact BK373.out), GW373.out, GE373.out, NB366_373.out, NB373_366.out, NB367_373.out, NB373_367.out, NB368_373.out, NB373_368.out, (by repeat (first | (with_reducible first | exact HB.out | apply below_alloc | apply pw_below_drewN | apply below_drew1 | refine below_set ?_ GE366.out | refine below_set ?_ GE367.out | refine below_set ?_ GE368.out | refine below_set ?_ GE373.out) | exact HB.out))⟩)
                    · skip
                      rintro gb373 w18 ⟨hS_, h0_, h1_, h2_, h3_, h4_, h5_, h6_, h7_, h8_, h9_, h10_, h11_, h12_⟩
                      have n0_ : Aside0 (w18.heap[gb366]? = some (.cells #[.bool a0_0, .slice A0_1 l0_1.length c0_1, .string a0_2] 54 (0, 0))) := ⟨h0_⟩
                      have n1_ : Aside0 (w18.heap[gb367]? = some (.cells #[.int .i64 a5_0, .int .i64 a5_1, .int .i64 a5_2, .int .i64 a5_3, .int .i64 a5_4, .int .i64 a5_5, .bool a5_6] 23 (0, 0))) := ⟨h1_⟩
                      have n2_ : Aside0 (w18.heap[gb368]? = some (.cells #[.int .i64 0, .int .i64 0, .int .i64 0, .int .i64 0, .int .i64 0, .int .i64 0, .bool false] 23 (0, 0))) := ⟨h2_⟩
                      have n3_ : Aside0 (w18.heap[gb373]? = some (.cells #[.int .i64 0, .int .i64 0, .int .i64 0, .int .i64 0, .int .i64 0, .int .i64 0, .bool false] 23 (0, 0))) := ⟨h3_⟩
                      have n4_ : Aside0 (w.heap.size ≤ gb373) := ⟨h4_⟩
                      have n5_ : Aside0 (w.heap.size ≤ gb373) := ⟨h5_⟩
                      have n6_ : Aside0 (gb366 ≠ gb373) := ⟨h6_⟩
                      have n7_ : Aside0 (gb373 ≠ gb366) := ⟨h7_⟩
                      have n8_ : Aside0 (gb367 ≠ gb373) := ⟨h8_⟩
                      have n9_ : Aside0 (gb373 ≠ gb367) := ⟨h9_⟩
                      have n10_ : Aside0 (gb368 ≠ gb373) := ⟨h10_⟩
                      have n11_ : Aside0 (gb373 ≠ gb368) := ⟨h11_⟩
                      have n12_ : Aside0 (Below w.heap.size w w18) := ⟨h12_⟩
                      clear BK366
                      clear BK367
                      clear BK368
                      clear HB
                      clear h0_ h1_ h2_ h3_ h4_ h5_ h6_ h7_ h8_ h9_ h10_ h11_ h12_
                      have BK366 := n0_
                      have BK367 := n1_
                      have BK368 := n2_
                      have BK373 := n3_
                      have GW373 := n4_
                      have GE373 := n5_
                      have NB366_373 := n6_
                      have NB373_366 := n7_
                      have NB367_373 := n8_
                      have NB373_367 := n9_
                      have NB368_373 := n10_
                      have NB373_368 := n11_
                      have HB := n12_
                      clear n0_ n1_ n2_ n3_ n4_ n5_ n6_ n7_ n8_ n9_ n10_ n11_ n12_
                      have hHeld : w18.cell? ⟨gb366, 0, none⟩ = some (.bool a0_0) ∧ w18.cell? ⟨gb366, 1, none⟩ = some (.slice A0_1 l0_1.length c0_1) ∧ w18.cell? ⟨gb366, 2, none⟩ = some (.string a0_2) ∧ w18.cell? ⟨gb367, 0, none⟩ = some (.int .i64 a5_0) ∧ w18.cell? ⟨gb367, 1, none⟩ = some (.int .i64 a5_1) ∧ w18.cell? ⟨gb367, 2, none⟩ = some (.int .i64 a5_2) ∧ w18.cell? ⟨gb367, 3, none⟩ = some (.int .i64 a5_3) ∧ w18.cell? ⟨gb367, 4, none⟩ = some (.int .i64 a5_4) ∧ w18.cell? ⟨gb367, 5, none⟩ = some (.int .i64 a5_5) ∧ w18.cell? ⟨gb367, 6, none⟩ = some (.bool a5_6) := hS_
                      refine norm_ (a' := ?_) ?_ ?_
                      rotate_left
                      · simp only [putAll, Act.put, List.setIfInBounds_toArray, List.set_cons_zero, List.set_cons_succ]
                        rfl
                      refine one_ (i := 4) (N := some 20) #[true, true, true, true, true, true, true, true, false, true, true, true, false, true, true, false, true, true, false, true, false] rfl rfl (one_of HT_.out (by kernel_rfl)) (by decide) (fun K hK => ?_)
                      refine goes_ Try.func32 (by kernel_rfl) rfl #[.agg #[.bool a0_0, .slice A0_1 l0_1.length c0_1, .string a0_2], .int .u8 82, .int .i64 a5_1] (by rfl) rfl rfl (by (try simp only [List.map_toArray, List.map_cons, List.map_nil]); first | done | rfl | (simp only [List.length_drop, List.length_take]; rfl)) ?_
                      with_reducible refine (swarfref44_value.calls k a0_0 _ _ l0_1 a0_2 82 a5_1 t369 _ ?side1 ?side2 A7.out).mono ?_
                      (case side1 => repeat (first | exact (Kd.C_below HR0_1.out HB.out) | (with_reducible refine Kd.C_alloc ?_ _) | (with_reducible refine Kd.C_drewN ?_ _) | (with_reducible refine Kd.C_drew ?_)))
                      (case side2 => exact HC0_1.out)
                      rintro e w19 ⟨rfl, hb⟩
                      refine ⟨_, rfl, ?_⟩
                      have n0_ := Aside0.mk (blk_below (g := gb366) (o := .cells #[.bool a0_0, .slice A0_1 l0_1.length c0_1, .string a0_2] 54 (0, 0)) (by (with_reducible repeat (first | refine blk_drewN ?_ _ | refine blk_drew ?_ | refine blk_alloc ?_ _)); exact BK366.out) hb)
                      have n1_ := Aside0.mk (blk_below (g := gb367) (o := .cells #[.int .i64 a5_0, .int .i64 a5_1, .int .i64 a5_2, .int .i64 a5_3, .int .i64 a5_4, .int .i64 a5_5, .bool a5_6] 23 (0, 0)) (by (with_reducible repeat (first | refine blk_drewN ?_ _ | refine blk_drew ?_ | refine blk_alloc ?_ _)); exact BK367.out) hb)
                      have n2_ := Aside0.mk (blk_below (g := gb368) (o := .cells #[.int .i64 0, .int .i64 0, .int .i64 0, .int .i64 0, .int .i64 0, .int .i64 0, .bool false] 23 (0, 0)) (by (with_reducible repeat (first | refine blk_drewN ?_ _ | refine blk_drew ?_ | refine blk_alloc ?_ _)); exact BK368.out) hb)
                      have n3_ := Aside0.mk (blk_below (g := gb373) (o := .cells #[.int .i64 0, .int .i64 0, .int .i64 0, .int .i64 0, .int .i64 0, .int .i64 0, .bool false] 23 (0, 0)) (by (with_reducible repeat (first | refine blk_drewN ?_ _ | refine blk_drew ?_ | refine blk_alloc ?_ _)); exact BK373.out) hb)
                      have n4_ := Aside0.mk (below_step (by repeat (first | (with_reducible first | exact HB.out | apply below_alloc | apply pw_below_drewN | apply below_drew1 | refine below_set ?_ GE366.out | refine below_set ?_ GE367.out | refine below_set ?_ GE368.out | refine below_set ?_ GE373.out) | exact HB.out)) hb)
                      clear BK366
                      clear BK367
                      clear BK368
                      clear BK373
                      clear HB
                      have BK366 := n0_
                      have BK367 := n1_
                      have BK368 := n2_
                      have BK373 := n3_
                      have HB := n4_
                      clear n0_ n1_ n2_ n3_ n4_
                      (try clear hb)
                      (try clear hb2)
                      (try clear hk)
                      (try clear hi)
                      refine hK.out _ _ ⟨(blk_cell BK366.out 0).trans rfl, (blk_cell BK366.out 1).trans rfl, (blk_cell BK366.out 2).trans rfl, (blk_cell BK367.out 0).trans rfl, (blk_cell BK367.out 1).trans rfl, (blk_cell BK367.out 2).trans rfl, (blk_cell BK367.out 3).trans rfl, (blk_cell BK367.out 4).trans rfl, (blk_cell BK367.out 5).trans rfl, (blk_cell BK367.out 6).trans rfl⟩ (fun hHeld => ?_)
                      clear hK K
                      refine norm_ (a' := ?_) ?_ ?_
                      rotate_left
                      · show Act.put _ (some 20) _ = _
                        simp only [Act.put, List.setIfInBounds_toArray, List.set_cons_zero, List.set_cons_succ, i64_w, i32_w]
                        rfl
                      exact norm_ (by first | (simp only [putAll, Act.put, List.setIfInBounds_toArray, List.set_cons_zero, List.set_cons_succ]; done) | (simp only [putAll, Act.put, List.setIfInBounds_toArray, List.set_cons_zero, List.set_cons_succ]; rfl)) (hJ4_19 (gb373) _ ⟨hHeld, (by (with_reducible repeat (first | refine blk_drewN ?_ _ | refine blk_drew ?_ | refine blk_alloc ?_ _)); exact BK366.out), (by (with_reducible repeat (first | refine blk_drewN ?_ _ | refine blk_drew ?_ | refine blk_alloc ?_ _)); exact BK367.out), (by (with_reducible repeat (first | refine blk_drewN ?_ _ | refine blk_drew ?_ | refine blk_alloc ?_ _)); exact BK368.out), (by (with_reducible repeat (first | refine blk_drewN ?_ _ | refine blk_drew ?_ | refine blk_alloc ?_ _)); exact BK373.out), GW373.out, GE373.out, NB366_373.out, NB373_366.out, NB367_373.out, NB373_367.out, NB368_373.out, NB373_368.out, (by repeat (first | (with_reducible first | exact HB.out | apply below_alloc | apply pw_below_drewN | apply below_drew1 | refine below_set ?_ GE366.out | refine below_set ?_ GE367.out | refine below_set ?_ GE368.out | refine below_set ?_ GE373.out) | exact HB.out))⟩)
                  · skip
                    rintro _ w18 ⟨hS_, h0_, h1_, h2_, h3_⟩
                    have n0_ : Aside0 (w18.heap[gb366]? = some (.cells #[.bool a0_0, .slice A0_1 l0_1.length c0_1, .string a0_2] 54 (0, 0))) := ⟨h0_⟩
                    have n1_ : Aside0 (w18.heap[gb367]? = some (.cells #[.int .i64 a5_0, .int .i64 a5_1, .int .i64 a5_2, .int .i64 a5_3, .int .i64 a5_4, .int .i64 a5_5, .bool a5_6] 23 (0, 0))) := ⟨h1_⟩
                    have n2_ : Aside0 (w18.heap[gb368]? = some (.cells #[.int .i64 0, .int .i64 0, .int .i64 0, .int .i64 0, .int .i64 0, .int .i64 0, .bool false] 23 (0, 0))) := ⟨h2_⟩
                    have n3_ : Aside0 (Below w.heap.size w w18) := ⟨h3_⟩
                    clear BK366
                    clear BK367
                    clear BK368
                    clear HB
                    clear h0_ h1_ h2_ h3_
                    have BK366 := n0_
                    have BK367 := n1_
                    have BK368 := n2_
                    have HB := n3_
                    clear n0_ n1_ n2_ n3_
                    have hHeld : w18.cell? ⟨gb366, 0, none⟩ = some (.bool a0_0) ∧ w18.cell? ⟨gb366, 1, none⟩ = some (.slice A0_1 l0_1.length c0_1) ∧ w18.cell? ⟨gb366, 2, none⟩ = some (.string a0_2) ∧ w18.cell? ⟨gb367, 0, none⟩ = some (.int .i64 a5_0) ∧ w18.cell? ⟨gb367, 1, none⟩ = some (.int .i64 a5_1) ∧ w18.cell? ⟨gb367, 2, none⟩ = some (.int .i64 a5_2) ∧ w18.cell? ⟨gb367, 3, none⟩ = some (.int .i64 a5_3) ∧ w18.cell? ⟨gb367, 4, none⟩ = some (.int .i64 a5_4) ∧ w18.cell? ⟨gb367, 5, none⟩ = some (.int .i64 a5_5) ∧ w18.cell? ⟨gb367, 6, none⟩ = some (.bool a5_6) := hS_
                    refine norm_ (a' := ?_) ?_ ?_
                    rotate_left
                    · simp only [putAll, Act.put, List.setIfInBounds_toArray, List.set_cons_zero, List.set_cons_succ]
                      rfl
                    refine two_ (i := 8) (j := 19) (Ni := some 24) (Nj := some 14) #[true, true, true, true, true, true, true, true, true, true, true, true, false, true, true, false, true, true, false, false, false] #[true, true, true, true, true, true, true, true, false, true, true, true, false, true, true, false, true, true, false, true, false] rfl rfl rfl rfl (two_of HT_.out (by kernel_rfl)) (by decide) (by decide) (fun K hK => ?_) (fun K hK => ?_)
                    · skip
                      refine goes_ Try.func32 (by kernel_rfl) rfl #[.agg #[.bool a0_0, .slice A0_1 l0_1.length c0_1, .string a0_2], .int .u8 90, .int .i64 a5_2] (by rfl) rfl rfl (by (try simp only [List.map_toArray, List.map_cons, List.map_nil]); first | done | rfl | (simp only [List.length_drop, List.length_take]; rfl)) ?_
                      with_reducible refine (swarfref44_value.calls k a0_0 _ _ l0_1 a0_2 90 a5_2 t370 _ ?side1 ?side2 A8.out).mono ?_
                      (case side1 => repeat (first | exact (Kd.C_below HR0_1.out HB.out) | (with_reducible refine Kd.C_alloc ?_ _) | (with_reducible refine Kd.C_drewN ?_ _) | (with_reducible refine Kd.C_drew ?_)))
                      (case side2 => exact HC0_1.out)
                      rintro e w19 ⟨rfl, hb⟩
                      refine ⟨_, rfl, ?_⟩
                      have n0_ := Aside0.mk (blk_below (g := gb366) (o := .cells #[.bool a0_0, .slice A0_1 l0_1.length c0_1, .string a0_2] 54 (0, 0)) (by (with_reducible repeat (first | refine blk_drewN ?_ _ | refine blk_drew ?_ | refine blk_alloc ?_ _)); exact BK366.out) hb)
                      have n1_ := Aside0.mk (blk_below (g := gb367) (o := .cells #[.int .i64 a5_0, .int .i64 a5_1, .int .i64 a5_2, .int .i64 a5_3, .int .i64 a5_4, .int .i64 a5_5, .bool a5_6] 23 (0, 0)) (by (with_reducible repeat (first | refine blk_drewN ?_ _ | refine blk_drew ?_ | refine blk_alloc ?_ _)); exact BK367.out) hb)
                      have n2_ := Aside0.mk (blk_below (g := gb368) (o := .cells #[.int .i64 0, .int .i64 0, .int .i64 0, .int .i64 0, .int .i64 0, .int .i64 0, .bool false] 23 (0, 0)) (by (with_reducible repeat (first | refine blk_drewN ?_ _ | refine blk_drew ?_ | refine blk_alloc ?_ _)); exact BK368.out) hb)
                      have n3_ := Aside0.mk (below_step (by repeat (first | (with_reducible first | exact HB.out | apply below_alloc | apply pw_below_drewN | apply below_drew1 | refine below_set ?_ GE366.out | refine below_set ?_ GE367.out | refine below_set ?_ GE368.out) | exact HB.out)) hb)
                      clear BK366
                      clear BK367
                      clear BK368
                      clear HB
                      have BK366 := n0_
                      have BK367 := n1_
                      have BK368 := n2_
                      have HB := n3_
                      clear n0_ n1_ n2_ n3_
                      (try clear hb)
                      (try clear hb2)
                      (try clear hk)
                      (try clear hi)
                      refine hK.out _ _ ⟨(blk_cell BK366.out 0).trans rfl, (blk_cell BK366.out 1).trans rfl, (blk_cell BK366.out 2).trans rfl, (blk_cell BK367.out 0).trans rfl, (blk_cell BK367.out 1).trans rfl, (blk_cell BK367.out 2).trans rfl, (blk_cell BK367.out 3).trans rfl, (blk_cell BK367.out 4).trans rfl, (blk_cell BK367.out 5).trans rfl, (blk_cell BK367.out 6).trans rfl⟩ (fun hHeld => ?_)
                      clear hK K
                      refine norm_ (a' := ?_) ?_ ?_
                      rotate_left
                      · show Act.put _ (some 24) _ = _
                        simp only [Act.put, List.setIfInBounds_toArray, List.set_cons_zero, List.set_cons_succ, i64_w, i32_w]
                        rfl
                      exact norm_ (by first | (simp only [putAll, Act.put, List.setIfInBounds_toArray, List.set_cons_zero, List.set_cons_succ]; done) | (simp only [putAll, Act.put, List.setIfInBounds_toArray, List.set_cons_zero, List.set_cons_succ]; rfl)) (hJ4_8 () _ ⟨hHeld, (by (with_reducible repeat (first | refine blk_drewN ?_ _ | refine blk_drew ?_ | refine blk_alloc ?_ _)); exact BK366.out), (by (with_reducible repeat (first | refine blk_drewN ?_ _ | refine blk_drew ?_ | refine blk_alloc ?_ _)); exact BK367.out), (by (with_reducible repeat (first | refine blk_drewN ?_ _ | refine blk_drew ?_ | refine blk_alloc ?_ _)); exact BK368.out), (by repeat (first | (with_reducible first | exact HB.out | apply below_alloc | apply pw_below_drewN | apply below_drew1 | refine below_set ?_ GE366.out | refine below_set ?_ GE367.out | refine below_set ?_ GE368.out) | exact HB.out))⟩)
                    · skip
                      refine box_step ?hg (N := 14) ?hd (cs := #[.int .i64 0, .int .i64 0, .int .i64 0, .int .i64 0, .int .i64 0, .int .i64 0, .bool false]) (t := 23) ?hr ?_; (case hd => rfl); (case hg => rfl); (case hr => first | (go_simp; done) | (go_simp; rfl))
                      intro gb373 hg w19 hbox hb
                      have n0_ := Aside0.mk (blk_below (g := gb366) (o := .cells #[.bool a0_0, .slice A0_1 l0_1.length c0_1, .string a0_2] 54 (0, 0)) (by (with_reducible repeat (first | refine blk_drewN ?_ _ | refine blk_drew ?_ | refine blk_alloc ?_ _)); exact BK366.out) hb)
                      have n1_ := Aside0.mk (blk_below (g := gb367) (o := .cells #[.int .i64 a5_0, .int .i64 a5_1, .int .i64 a5_2, .int .i64 a5_3, .int .i64 a5_4, .int .i64 a5_5, .bool a5_6] 23 (0, 0)) (by (with_reducible repeat (first | refine blk_drewN ?_ _ | refine blk_drew ?_ | refine blk_alloc ?_ _)); exact BK367.out) hb)
                      have n2_ := Aside0.mk (blk_below (g := gb368) (o := .cells #[.int .i64 0, .int .i64 0, .int .i64 0, .int .i64 0, .int .i64 0, .int .i64 0, .bool false] 23 (0, 0)) (by (with_reducible repeat (first | refine blk_drewN ?_ _ | refine blk_drew ?_ | refine blk_alloc ?_ _)); exact BK368.out) hb)
                      have n3_ := Aside0.mk (below_step (by repeat (first | (with_reducible first | exact HB.out | apply below_alloc | apply pw_below_drewN | apply below_drew1 | refine below_set ?_ GE366.out | refine below_set ?_ GE367.out | refine below_set ?_ GE368.out) | exact HB.out)) hb)
                      have n4_ := Aside0.mk (hbox)
                      have n5_ := Aside0.mk ((by rw [hg]; exact (below_size (by repeat (first | (with_reducible first | exact HB.out | apply below_alloc | apply pw_below_drewN | apply below_drew1 | refine below_set ?_ GE366.out | refine below_set ?_ GE367.out | refine below_set ?_ GE368.out) | exact HB.out))) : w.heap.size ≤ gb373))
                      have n6_ := Aside0.mk ((by rw [hg]; exact (below_size (by repeat (first | (with_reducible first | exact HB.out | apply below_alloc | apply pw_below_drewN | apply below_drew1 | refine below_set ?_ GE366.out | refine below_set ?_ GE367.out | refine below_set ?_ GE368.out) | exact HB.out))) : w.heap.size ≤ gb373))
                      have n7_ := Aside0.mk ((by rw [hg]; exact Nat.ne_of_lt (blk_lt (g := gb366) (o := .cells #[.bool a0_0, .slice A0_1 l0_1.length c0_1, .string a0_2] 54 (0, 0)) (by (with_reducible repeat (first | refine blk_drewN ?_ _ | refine blk_drew ?_ | refine blk_alloc ?_ _)); exact BK366.out)) : gb366 ≠ gb373))
                      have n8_ := Aside0.mk ((by rw [hg]; exact Nat.ne_of_gt (blk_lt (g := gb366) (o := .cells #[.bool a0_0, .slice A0_1 l0_1.length c0_1, .string a0_2] 54 (0, 0)) (by (with_reducible repeat (first | refine blk_drewN ?_ _ | refine blk_drew ?_ | refine blk_alloc ?_ _)); exact BK366.out)) : gb373 ≠ gb366))
                      have n9_ := Aside0.mk ((by rw [hg]; exact Nat.ne_of_lt (blk_lt (g := gb367) (o := .cells #[.int .i64 a5_0, .int .i64 a5_1, .int .i64 a5_2, .int .i64 a5_3, .int .i64 a5_4, .int .i64 a5_5, .bool a5_6] 23 (0, 0)) (by (with_reducible repeat (first | refine blk_drewN ?_ _ | refine blk_drew ?_ | refine blk_alloc ?_ _)); exact BK367.out)) : gb367 ≠ gb373))
                      have n10_ := Aside0.mk ((by rw [hg]; exact Nat.ne_of_gt (blk_lt (g := gb367) (o := .cells #[.int .i64 a5_0, .int .i64 a5_1, .int .i64 a5_2, .int .i64 a5_3, .int .i64 a5_4, .int .i64 a5_5, .bool a5_6] 23 (0, 0)) (by (with_reducible repeat (first | refine blk_drewN ?_ _ | refine blk_drew ?_ | refine blk_alloc ?_ _)); exact BK367.out)) : gb373 ≠ gb367))
                      have n11_ := Aside0.mk ((by rw [hg]; exact Nat.ne_of_lt (blk_lt (g := gb368) (o := .cells #[.int .i64 0, .int .i64 0, .int .i64 0, .int .i64 0, .int .i64 0, .int .i64 0, .bool false] 23 (0, 0)) (by (with_reducible repeat (first | refine blk_drewN ?_ _ | refine blk_drew ?_ | refine blk_alloc ?_ _)); exact BK368.out)) : gb368 ≠ gb373))
                      have n12_ := Aside0.mk ((by rw [hg]; exact Nat.ne_of_gt (blk_lt (g := gb368) (o := .cells #[.int .i64 0, .int .i64 0, .int .i64 0, .int .i64 0, .int .i64 0, .int .i64 0, .bool false] 23 (0, 0)) (by (with_reducible repeat (first | refine blk_drewN ?_ _ | refine blk_drew ?_ | refine blk_alloc ?_ _)); exact BK368.out)) : gb373 ≠ gb368))
                      clear BK366
                      clear BK367
                      clear BK368
                      clear HB
                      have BK366 := n0_
                      have BK367 := n1_
                      have BK368 := n2_
                      have HB := n3_
                      have BK373 := n4_
                      have GW373 := n5_
                      have GE373 := n6_
                      have NB366_373 := n7_
                      have NB373_366 := n8_
                      have NB367_373 := n9_
                      have NB373_367 := n10_
                      have NB368_373 := n11_
                      have NB373_368 := n12_
                      clear n0_ n1_ n2_ n3_ n4_ n5_ n6_ n7_ n8_ n9_ n10_ n11_ n12_
                      clear hb hbox hg
                      refine hK.out _ _ ⟨(blk_cell BK366.out 0).trans rfl, (blk_cell BK366.out 1).trans rfl, (blk_cell BK366.out 2).trans rfl, (blk_cell BK367.out 0).trans rfl, (blk_cell BK367.out 1).trans rfl, (blk_cell BK367.out 2).trans rfl, (blk_cell BK367.out 3).trans rfl, (blk_cell BK367.out 4).trans rfl, (blk_cell BK367.out 5).trans rfl, (blk_cell BK367.out 6).trans rfl⟩ (fun hHeld => ?_)
                      clear hK K
                      refine norm_ (a' := ?_) ?_ ?_
                      rotate_left
                      · show Act.put _ (some 14) _ = _
                        simp only [Act.put, List.setIfInBounds_toArray, List.set_cons_zero, List.set_cons_succ, i64_w, i32_w]
                        rfl
                      exact norm_ (by first | (simp only [putAll, Act.put, List.setIfInBounds_toArray, List.set_cons_zero, List.set_cons_succ]; done) | (simp only [putAll, Act.put, List.setIfInBounds_toArray, List.set_cons_zero, List.set_cons_succ]; rfl)) (hJ4_19 (gb373) _ ⟨hHeld, (by (with_reducible repeat (first | refine blk_drewN ?_ _ | refine blk_drew ?_ | refine blk_alloc ?_ _)); exact BK366.out), (by (with_reducible repeat (first | refine blk_drewN ?_ _ | refine blk_drew ?_ | refine blk_alloc ?_ _)); exact BK367.out), (by (with_reducible repeat (first | refine blk_drewN ?_ _ | refine blk_drew ?_ | refine blk_alloc ?_ _)); exact BK368.out), (by (with_reducible repeat (first | refine blk_drewN ?_ _ | refine blk_drew ?_ | refine blk_alloc ?_ _)); exact BK373.out), GW373.out, GE373.out, NB366_373.out, NB373_366.out, NB367_373.out, NB373_367.out, NB368_373.out, NB373_368.out, (by repeat (first | (with_reducible first | exact HB.out | apply below_alloc | apply pw_below_drewN | apply below_drew1 | refine below_set ?_ GE366.out | refine below_set ?_ GE367.out | refine below_set ?_ GE368.out | refine below_set ?_ GE373.out) | exact HB.out))⟩)
                · skip
                  rintro gb373 w19 ⟨hS_, h0_, h1_, h2_, h3_, h4_, h5_, h6_, h7_, h8_, h9_, h10_, h11_, h12_⟩
                  have n0_ : Aside0 (w19.heap[gb366]? = some (.cells #[.bool a0_0, .slice A0_1 l0_1.length c0_1, .string a0_2] 54 (0, 0))) := ⟨h0_⟩
                  have n1_ : Aside0 (w19.heap[gb367]? = some (.cells #[.int .i64 a5_0, .int .i64 a5_1, .int .i64 a5_2, .int .i64 a5_3, .int .i64 a5_4, .int .i64 a5_5, .bool a5_6] 23 (0, 0))) := ⟨h1_⟩
                  have n2_ : Aside0 (w19.heap[gb368]? = some (.cells #[.int .i64 0, .int .i64 0, .int .i64 0, .int .i64 0, .int .i64 0, .int .i64 0, .bool false] 23 (0, 0))) := ⟨h2_⟩
                  have n3_ : Aside0 (w19.heap[gb373]? = some (.cells #[.int .i64 0, .int .i64 0, .int .i64 0, .int .i64 0, .int .i64 0, .int .i64 0, .bool false] 23 (0, 0))) := ⟨h3_⟩
                  have n4_ : Aside0 (w.heap.size ≤ gb373) := ⟨h4_⟩
                  have n5_ : Aside0 (w.heap.size ≤ gb373) := ⟨h5_⟩
                  have n6_ : Aside0 (gb366 ≠ gb373) := ⟨h6_⟩
                  have n7_ : Aside0 (gb373 ≠ gb366) := ⟨h7_⟩
                  have n8_ : Aside0 (gb367 ≠ gb373) := ⟨h8_⟩
                  have n9_ : Aside0 (gb373 ≠ gb367) := ⟨h9_⟩
                  have n10_ : Aside0 (gb368 ≠ gb373) := ⟨h10_⟩
                  have n11_ : Aside0 (gb373 ≠ gb368) := ⟨h11_⟩
                  have n12_ : Aside0 (Below w.heap.size w w19) := ⟨h12_⟩
                  clear BK366
                  clear BK367
                  clear BK368
                  clear HB
                  clear h0_ h1_ h2_ h3_ h4_ h5_ h6_ h7_ h8_ h9_ h10_ h11_ h12_
                  have BK366 := n0_
                  have BK367 := n1_
                  have BK368 := n2_
                  have BK373 := n3_
                  have GW373 := n4_
                  have GE373 := n5_
                  have NB366_373 := n6_
                  have NB373_366 := n7_
                  have NB367_373 := n8_
                  have NB373_367 := n9_
                  have NB368_373 := n10_
                  have NB373_368 := n11_
                  have HB := n12_
                  clear n0_ n1_ n2_ n3_ n4_ n5_ n6_ n7_ n8_ n9_ n10_ n11_ n12_
                  have hHeld : w19.cell? ⟨gb366, 0, none⟩ = some (.bool a0_0) ∧ w19.cell? ⟨gb366, 1, none⟩ = some (.slice A0_1 l0_1.length c0_1) ∧ w19.cell? ⟨gb366, 2, none⟩ = some (.string a0_2) ∧ w19.cell? ⟨gb367, 0, none⟩ = some (.int .i64 a5_0) ∧ w19.cell? ⟨gb367, 1, none⟩ = some (.int .i64 a5_1) ∧ w19.cell? ⟨gb367, 2, none⟩ = some (.int .i64 a5_2) ∧ w19.cell? ⟨gb367, 3, none⟩ = some (.int .i64 a5_3) ∧ w19.cell? ⟨gb367, 4, none⟩ = some (.int .i64 a5_4) ∧ w19.cell? ⟨gb367, 5, none⟩ = some (.int .i64 a5_5) ∧ w19.cell? ⟨gb367, 6, none⟩ = some (.bool a5_6) := hS_
                  refine norm_ (a' := ?_) ?_ ?_
                  rotate_left
                  · simp only [putAll, Act.put, List.setIfInBounds_toArray, List.set_cons_zero, List.set_cons_succ]
                    rfl
                  refine one_ (i := 8) (N := some 24) #[true, true, true, true, true, true, true, true, true, true, true, true, false, true, true, false, true, true, false, true, false] rfl rfl (one_of HT_.out (by kernel_rfl)) (by decide) (fun K hK => ?_)
                  refine goes_ Try.func32 (by kernel_rfl) rfl #[.agg #[.bool a0_0, .slice A0_1 l0_1.length c0_1, .string a0_2], .int .u8 90, .int .i64 a5_2] (by rfl) rfl rfl (by (try simp only [List.map_toArray, List.map_cons, List.map_nil]); first | done | rfl | (simp only [List.length_drop, List.length_take]; rfl)) ?_
                  with_reducible refine (swarfref44_value.calls k a0_0 _ _ l0_1 a0_2 90 a5_2 t370 _ ?side1 ?side2 A8.out).mono ?_
                  (case side1 => repeat (first | exact (Kd.C_below HR0_1.out HB.out) | (with_reducible refine Kd.C_alloc ?_ _) | (with_reducible refine Kd.C_drewN ?_ _) | (with_reducible refine Kd.C_drew ?_)))
                  (case side2 => exact HC0_1.out)
                  rintro e w20 ⟨rfl, hb⟩
                  refine ⟨_, rfl, ?_⟩
                  have n0_ := Aside0.mk (blk_below (g := gb366) (o := .cells #[.bool a0_0, .slice A0_1 l0_1.length c0_1, .string a0_2] 54 (0, 0)) (by (with_reducible repeat (first | refine blk_drewN ?_ _ | refine blk_drew ?_ | refine blk_alloc ?_ _)); exact BK366.out) hb)
                  have n1_ := Aside0.mk (blk_below (g := gb367) (o := .cells #[.int .i64 a5_0, .int .i64 a5_1, .int .i64 a5_2, .int .i64 a5_3, .int .i64 a5_4, .int .i64 a5_5, .bool a5_6] 23 (0, 0)) (by (with_reducible repeat (first | refine blk_drewN ?_ _ | refine blk_drew ?_ | refine blk_alloc ?_ _)); exact BK367.out) hb)
                  have n2_ := Aside0.mk (blk_below (g := gb368) (o := .cells #[.int .i64 0, .int .i64 0, .int .i64 0, .int .i64 0, .int .i64 0, .int .i64 0, .bool false] 23 (0, 0)) (by (with_reducible repeat (first | refine blk_drewN ?_ _ | refine blk_drew ?_ | refine blk_alloc ?_ _)); exact BK368.out) hb)
                  have n3_ := Aside0.mk (blk_below (g := gb373) (o := .cells #[.int .i64 0, .int .i64 0, .int .i64 0, .int .i64 0, .int .i64 0, .int .i64 0, .bool false] 23 (0, 0)) (by (with_reducible repeat (first | refine blk_drewN ?_ _ | refine blk_drew ?_ | refine blk_alloc ?_ _)); exact BK373.out) hb)
                  have n4_ := Aside0.mk (below_step (by repeat (first | (with_reducible first | exact HB.out | apply below_alloc | apply pw_below_drewN | apply below_drew1 | refine below_set ?_ GE366.out | refine below_set ?_ GE367.out | refine below_set ?_ GE368.out | refine below_set ?_ GE373.out) | exact HB.out)) hb)
                  clear BK366
                  clear BK367
                  clear BK368
                  clear BK373
                  clear HB
                  have BK366 := n0_
                  have BK367 := n1_
                  have BK368 := n2_
                  have BK373 := n3_
                  have HB := n4_
                  clear n0_ n1_ n2_ n3_ n4_
                  (try clear hb)
                  (try clear hb2)
                  (try clear hk)
                  (try clear hi)
                  refine hK.out _ _ ⟨(blk_cell BK366.out 0).trans rfl, (blk_cell BK366.out 1).trans rfl, (blk_cell BK366.out 2).trans rfl, (blk_cell BK367.out 0).trans rfl, (blk_cell BK367.out 1).trans rfl, (blk_cell BK367.out 2).trans rfl, (blk_cell BK367.out 3).trans rfl, (blk_cell BK367.out 4).trans rfl, (blk_cell BK367.out 5).trans rfl, (blk_cell BK367.out 6).trans rfl⟩ (fun hHeld => ?_)
                  clear hK K
                  refine norm_ (a' := ?_) ?_ ?_
                  rotate_left
                  · show Act.put _ (some 24) _ = _
                    simp only [Act.put, List.setIfInBounds_toArray, List.set_cons_zero, List.set_cons_succ, i64_w, i32_w]
                    rfl
                  exact norm_ (by first | (simp only [putAll, Act.put, List.setIfInBounds_toArray, List.set_cons_zero, List.set_cons_succ]; done) | (simp only [putAll, Act.put, List.setIfInBounds_toArray, List.set_cons_zero, List.set_cons_succ]; rfl)) (hJ4_8_19 (gb373) _ ⟨hHeld, (by (with_reducible repeat (first | refine blk_drewN ?_ _ | refine blk_drew ?_ | refine blk_alloc ?_ _)); exact BK366.out), (by (with_reducible repeat (first | refine blk_drewN ?_ _ | refine blk_drew ?_ | refine blk_alloc ?_ _)); exact BK367.out), (by (with_reducible repeat (first | refine blk_drewN ?_ _ | refine blk_drew ?_ | refine blk_alloc ?_ _)); exact BK368.out), (by (with_reducible repeat (first | refine blk_drewN ?_ _ | refine blk_drew ?_ | refine blk_alloc ?_ _)); exact BK373.out), GW373.out, GE373.out, NB366_373.out, NB373_366.out, NB367_373.out, NB373_367.out, NB368_373.out, NB373_368.out, (by repeat (first | (with_reducible first | exact HB.out | apply below_alloc | apply pw_below_drewN | apply below_drew1 | refine below_set ?_ GE366.out | refine below_set ?_ GE367.out | refine below_set ?_ GE368.out | refine below_set ?_ GE373.out) | exact HB.out))⟩)
              · skip
                rintro _ w19 ⟨hS_, h0_, h1_, h2_, h3_⟩
                have n0_ : Aside0 (w19.heap[gb366]? = some (.cells #[.bool a0_0, .slice A0_1 l0_1.length c0_1, .string a0_2] 54 (0, 0))) := ⟨h0_⟩
                have n1_ : Aside0 (w19.heap[gb367]? = some (.cells #[.int .i64 a5_0, .int .i64 a5_1, .int .i64 a5_2, .int .i64 a5_3, .int .i64 a5_4, .int .i64 a5_5, .bool a5_6] 23 (0, 0))) := ⟨h1_⟩
                have n2_ : Aside0 (w19.heap[gb368]? = some (.cells #[.int .i64 0, .int .i64 0, .int .i64 0, .int .i64 0, .int .i64 0, .int .i64 0, .bool false] 23 (0, 0))) := ⟨h2_⟩
                have n3_ : Aside0 (Below w.heap.size w w19) := ⟨h3_⟩
                clear BK366
                clear BK367
                clear BK368
                clear HB
                clear h0_ h1_ h2_ h3_
                have BK366 := n0_
                have BK367 := n1_
                have BK368 := n2_
                have HB := n3_
                clear n0_ n1_ n2_ n3_
                have hHeld : w19.cell? ⟨gb366, 0, none⟩ = some (.bool a0_0) ∧ w19.cell? ⟨gb366, 1, none⟩ = some (.slice A0_1 l0_1.length c0_1) ∧ w19.cell? ⟨gb366, 2, none⟩ = some (.string a0_2) ∧ w19.cell? ⟨gb367, 0, none⟩ = some (.int .i64 a5_0) ∧ w19.cell? ⟨gb367, 1, none⟩ = some (.int .i64 a5_1) ∧ w19.cell? ⟨gb367, 2, none⟩ = some (.int .i64 a5_2) ∧ w19.cell? ⟨gb367, 3, none⟩ = some (.int .i64 a5_3) ∧ w19.cell? ⟨gb367, 4, none⟩ = some (.int .i64 a5_4) ∧ w19.cell? ⟨gb367, 5, none⟩ = some (.int .i64 a5_5) ∧ w19.cell? ⟨gb367, 6, none⟩ = some (.bool a5_6) := hS_
                refine norm_ (a' := ?_) ?_ ?_
                rotate_left
                · simp only [putAll, Act.put, List.setIfInBounds_toArray, List.set_cons_zero, List.set_cons_succ]
                  rfl
                refine two_ (i := 12) (j := 19) (Ni := some 28) (Nj := some 14) #[true, true, true, true, true, true, true, true, true, true, true, true, true, true, true, false, true, true, false, false, false] #[true, true, true, true, true, true, true, true, true, true, true, true, false, true, true, false, true, true, false, true, false] rfl rfl rfl rfl (two_of HT_.out (by kernel_rfl)) (by decide) (by decide) (fun K hK => ?_) (fun K hK => ?_)
                · skip
                  refine goes_ Try.func32 (by kernel_rfl) rfl #[.agg #[.bool a0_0, .slice A0_1 l0_1.length c0_1, .string a0_2], .int .u8 81, .int .i64 a5_3] (by rfl) rfl rfl (by (try simp only [List.map_toArray, List.map_cons, List.map_nil]); first | done | rfl | (simp only [List.length_drop, List.length_take]; rfl)) ?_
                  with_reducible refine (swarfref44_value.calls k a0_0 _ _ l0_1 a0_2 81 a5_3 t371 _ ?side1 ?side2 A9.out).mono ?_
                  (case side1 => repeat (first | exact (Kd.C_below HR0_1.out HB.out) | (with_reducible refine Kd.C_alloc ?_ _) | (with_reducible refine Kd.C_drewN ?_ _) | (with_reducible refine Kd.C_drew ?_)))
                  (case side2 => exact HC0_1.out)
                  rintro e w20 ⟨rfl, hb⟩
                  refine ⟨_, rfl, ?_⟩
                  have n0_ := Aside0.mk (blk_below (g := gb366) (o := .cells #[.bool a0_0, .slice A0_1 l0_1.length c0_1, .string a0_2] 54 (0, 0)) (by (with_reducible repeat (first | refine blk_drewN ?_ _ | refine blk_drew ?_ | refine blk_alloc ?_ _)); exact BK366.out) hb)
                  have n1_ := Aside0.mk (blk_below (g := gb367) (o := .cells #[.int .i64 a5_0, .int .i64 a5_1, .int .i64 a5_2, .int .i64 a5_3, .int .i64 a5_4, .int .i64 a5_5, .bool a5_6] 23 (0, 0)) (by (with_reducible repeat (first | refine blk_drewN ?_ _ | refine blk_drew ?_ | refine blk_alloc ?_ _)); exact BK367.out) hb)
                  have n2_ := Aside0.mk (blk_below (g := gb368) (o := .cells #[.int .i64 0, .int .i64 0, .int .i64 0, .int .i64 0, .int .i64 0, .int .i64 0, .bool false] 23 (0, 0)) (by (with_reducible repeat (first | refine blk_drewN ?_ _ | refine blk_drew ?_ | refine blk_alloc ?_ _)); exact BK368.out) hb)
                  have n3_ := Aside0.mk (below_step (by repeat (first | (with_reducible first | exact HB.out | apply below_alloc | apply pw_below_drewN | apply below_drew1 | refine below_set ?_ GE366.out | refine below_set ?_ GE367.out | refine below_set ?_ GE368.out) | exact HB.out)) hb)
                  clear BK366
                  clear BK367
                  clear BK368
                  clear HB
                  have BK366 := n0_
                  have BK367 := n1_
                  have BK368 := n2_
                  have HB := n3_
                  clear n0_ n1_ n2_ n3_
                  (try clear hb)
                  (try clear hb2)
                  (try clear hk)
                  (try clear hi)
                  refine hK.out _ _ ⟨(blk_cell BK366.out 0).trans rfl, (blk_cell BK366.out 1).trans rfl, (blk_cell BK366.out 2).trans rfl, (blk_cell BK367.out 0).trans rfl, (blk_cell BK367.out 1).trans rfl, (blk_cell BK367.out 2).trans rfl, (blk_cell BK367.out 3).trans rfl, (blk_cell BK367.out 4).trans rfl, (blk_cell BK367.out 5).trans rfl, (blk_cell BK367.out 6).trans rfl⟩ (fun hHeld => ?_)
                  clear hK K
                  refine norm_ (a' := ?_) ?_ ?_
                  rotate_left
                  · show Act.put _ (some 28) _ = _
                    simp only [Act.put, List.setIfInBounds_toArray, List.set_cons_zero, List.set_cons_succ, i64_w, i32_w]
                    rfl
                  exact norm_ (by first | (simp only [putAll, Act.put, List.setIfInBounds_toArray, List.set_cons_zero, List.set_cons_succ]; done) | (simp only [putAll, Act.put, List.setIfInBounds_toArray, List.set_cons_zero, List.set_cons_succ]; rfl)) (hJ4_8_12 () _ ⟨hHeld, (by (with_reducible repeat (first | refine blk_drewN ?_ _ | refine blk_drew ?_ | refine blk_alloc ?_ _)); exact BK366.out), (by (with_reducible repeat (first | refine blk_drewN ?_ _ | refine blk_drew ?_ | refine blk_alloc ?_ _)); exact BK367.out), (by (with_reducible repeat (first | refine blk_drewN ?_ _ | refine blk_drew ?_ | refine blk_alloc ?_ _)); exact BK368.out), (by repeat (first | (with_reducible first | exact HB.out | apply below_alloc | apply pw_below_drewN | apply below_drew1 | refine below_set ?_ GE366.out | refine below_set ?_ GE367.out | refine below_set ?_ GE368.out) | exact HB.out))⟩)
                · skip
                  refine box_step ?hg (N := 14) ?hd (cs := #[.int .i64 0, .int .i64 0, .int .i64 0, .int .i64 0, .int .i64 0, .int .i64 0, .bool false]) (t := 23) ?hr ?_; (case hd => rfl); (case hg => rfl); (case hr => first | (go_simp; done) | (go_simp; rfl))
                  intro gb373 hg w20 hbox hb
                  have n0_ := Aside0.mk (blk_below (g := gb366) (o := .cells #[.bool a0_0, .slice A0_1 l0_1.length c0_1, .string a0_2] 54 (0, 0)) (by (with_reducible repeat (first | refine blk_drewN ?_ _ | refine blk_drew ?_ | refine blk_alloc ?_ _)); exact BK366.out) hb)
                  have n1_ := Aside0.mk (blk_below (g := gb367) (o := .cells #[.int .i64 a5_0, .int .i64 a5_1, .int .i64 a5_2, .int .i64 a5_3, .int .i64 a5_4, .int .i64 a5_5, .bool a5_6] 23 (0, 0)) (by (with_reducible repeat (first | refine blk_drewN ?_ _ | refine blk_drew ?_ | refine blk_alloc ?_ _)); exact BK367.out) hb)
                  have n2_ := Aside0.mk (blk_below (g := gb368) (o := .cells #[.int .i64 0, .int .i64 0, .int .i64 0, .int .i64 0, .int .i64 0, .int .i64 0, .bool false] 23 (0, 0)) (by (with_reducible repeat (first | refine blk_drewN ?_ _ | refine blk_drew ?_ | refine blk_alloc ?_ _)); exact BK368.out) hb)
                  have n3_ := Aside0.mk (below_step (by repeat (first | (with_reducible first | exact HB.out | apply below_alloc | apply pw_below_drewN | apply below_drew1 | refine below_set ?_ GE366.out | refine below_set ?_ GE367.out | refine below_set ?_ GE368.out) | exact HB.out)) hb)
                  have n4_ := Aside0.mk (hbox)
                  have n5_ := Aside0.mk ((by rw [hg]; exact (below_size (by repeat (first | (with_reducible first | exact HB.out | apply below_alloc | apply pw_below_drewN | apply below_drew1 | refine below_set ?_ GE366.out | refine below_set ?_ GE367.out | refine below_set ?_ GE368.out) | exact HB.out))) : w.heap.size ≤ gb373))
                  have n6_ := Aside0.mk ((by rw [hg]; exact (below_size (by repeat (first | (with_reducible first | exact HB.out | apply below_alloc | apply pw_below_drewN | apply below_drew1 | refine below_set ?_ GE366.out | refine below_set ?_ GE367.out | refine below_set ?_ GE368.out) | exact HB.out))) : w.heap.size ≤ gb373))
                  have n7_ := Aside0.mk ((by rw [hg]; exact Nat.ne_of_lt (blk_lt (g := gb366) (o := .cells #[.bool a0_0, .slice A0_1 l0_1.length c0_1, .string a0_2] 54 (0, 0)) (by (with_reducible repeat (first | refine blk_drewN ?_ _ | refine blk_drew ?_ | refine blk_alloc ?_ _)); exact BK366.out)) : gb366 ≠ gb373))
                  have n8_ := Aside0.mk ((by rw [hg]; exact Nat.ne_of_gt (blk_lt (g := gb366) (o := .cells #[.bool a0_0, .slice A0_1 l0_1.length c0_1, .string a0_2] 54 (0, 0)) (by (with_reducible repeat (first | refine blk_drewN ?_ _ | refine blk_drew ?_ | refine blk_alloc ?_ _)); exact BK366.out)) : gb373 ≠ gb366))
                  have n9_ := Aside0.mk ((by rw [hg]; exact Nat.ne_of_lt (blk_lt (g := gb367) (o := .cells #[.int .i64 a5_0, .int .i64 a5_1, .int .i64 a5_2, .int .i64 a5_3, .int .i64 a5_4, .int .i64 a5_5, .bool a5_6] 23 (0, 0)) (by (with_reducible repeat (first | refine blk_drewN ?_ _ | refine blk_drew ?_ | refine blk_alloc ?_ _)); exact BK367.out)) : gb367 ≠ gb373))
                  have n10_ := Aside0.mk ((by rw [hg]; exact Nat.ne_of_gt (blk_lt (g := gb367) (o := .cells #[.int .i64 a5_0, .int .i64 a5_1, .int .i64 a5_2, .int .i64 a5_3, .int .i64 a5_4, .int .i64 a5_5, .bool a5_6] 23 (0, 0)) (by (with_reducible repeat (first | refine blk_drewN ?_ _ | refine blk_drew ?_ | refine blk_alloc ?_ _)); exact BK367.out)) : gb373 ≠ gb367))
                  have n11_ := Aside0.mk ((by rw [hg]; exact Nat.ne_of_lt (blk_lt (g := gb368) (o := .cells #[.int .i64 0, .int .i64 0, .int .i64 0, .int .i64 0, .int .i64 0, .int .i64 0, .bool false] 23 (0, 0)) (by (with_reducible repeat (first | refine blk_drewN ?_ _ | refine blk_drew ?_ | refine blk_alloc ?_ _)); exact BK368.out)) : gb368 ≠ gb373))
                  have n12_ := Aside0.mk ((by rw [hg]; exact Nat.ne_of_gt (blk_lt (g := gb368) (o := .cells #[.int .i64 0, .int .i64 0, .int .i64 0, .int .i64 0, .int .i64 0, .int .i64 0, .bool false] 23 (0, 0)) (by (with_reducible repeat (first | refine blk_drewN ?_ _ | refine blk_drew ?_ | refine blk_alloc ?_ _)); exact BK368.out)) : gb373 ≠ gb368))
                  clear BK366
                  clear BK367
                  clear BK368
                  clear HB
                  have BK366 := n0_
                  have BK367 := n1_
                  have BK368 := n2_
                  have HB := n3_
                  have BK373 := n4_
                  have GW373 := n5_
                  have GE373 := n6_
                  have NB366_373 := n7_
                  have NB373_366 := n8_
                  have NB367_373 := n9_
                  have NB373_367 := n10_
                  have NB368_373 := n11_
                  have NB373_368 := n12_
                  clear n0_ n1_ n2_ n3_ n4_ n5_ n6_ n7_ n8_ n9_ n10_ n11_ n12_
                  clear hb hbox hg
                  refine hK.out _ _ ⟨(blk_cell BK366.out 0).trans rfl, (blk_cell BK366.out 1).trans rfl, (blk_cell BK366.out 2).trans rfl, (blk_cell BK367.out 0).trans rfl, (blk_cell BK367.out 1).trans rfl, (blk_cell BK367.out 2).trans rfl, (blk_cell BK367.out 3).trans rfl, (blk_cell BK367.out 4).trans rfl, (blk_cell BK367.out 5).trans rfl, (blk_cell BK367.out 6).trans rfl⟩ (fun hHeld => ?_)
                  clear hK K
                  refine norm_ (a' := ?_) ?_ ?_
                  rotate_left
                  · show Act.put _ (some 14) _ = _
                    simp only [Act.put, List.setIfInBounds_toArray, List.set_cons_zero, List.set_cons_succ, i64_w, i32_w]
                    rfl
                  exact norm_ (by first | (simp only [putAll, Act.put, List.setIfInBounds_toArray, List.set_cons_zero, List.set_cons_succ]; done) | (simp only [putAll, Act.put, List.setIfInBounds_toArray, List.set_cons_zero, List.set_cons_succ]; rfl)) (hJ4_8_19 (gb373) _ ⟨hHeld, (by (with_reducible repeat (first | refine blk_drewN ?_ _ | refine blk_drew ?_ | refine blk_alloc ?_ _)); exact BK366.out), (by (with_reducible repeat (first | refine blk_drewN ?_ _ | refine blk_drew ?_ | refine blk_alloc ?_ _)); exact BK367.out), (by (with_reducible repeat (first | refine blk_drewN ?_ _ | refine blk_drew ?_ | refine blk_alloc ?_ _)); exact BK368.out), (by (with_reducible repeat (first | refine blk_drewN ?_ _ | refine blk_drew ?_ | refine blk_alloc ?_ _)); exact BK373.out), GW373.out, GE373.out, NB366_373.out, NB373_366.out, NB367_373.out, NB373_367.out, NB368_373.out, NB373_368.out, (by repeat (first | (with_reducible first | exact HB.out | apply below_alloc | apply pw_below_drewN | apply below_drew1 | refine below_set ?_ GE366.out | refine below_set ?_ GE367.out | refine below_set ?_ GE368.out | refine below_set ?_ GE373.out) | exact HB.out))⟩)
            · skip
              rintro gb373 w20 ⟨hS_, h0_, h1_, h2_, h3_, h4_, h5_, h6_, h7_, h8_, h9_, h10_, h11_, h12_⟩
              have n0_ : Aside0 (w20.heap[gb366]? = some (.cells #[.bool a0_0, .slice A0_1 l0_1.length c0_1, .string a0_2] 54 (0, 0))) := ⟨h0_⟩
              have n1_ : Aside0 (w20.heap[gb367]? = some (.cells #[.int .i64 a5_0, .int .i64 a5_1, .int .i64 a5_2, .int .i64 a5_3, .int .i64 a5_4, .int .i64 a5_5, .bool a5_6] 23 (0, 0))) := ⟨h1_⟩
              have n2_ : Aside0 (w20.heap[gb368]? = some (.cells #[.int .i64 0, .int .i64 0, .int .i64 0, .int .i64 0, .int .i64 0, .int .i64 0, .bool false] 23 (0, 0))) := ⟨h2_⟩
              have n3_ : Aside0 (w20.heap[gb373]? = some (.cells #[.int .i64 0, .int .i64 0, .int .i64 0, .int .i64 0, .int .i64 0, .int .i64 0, .bool false] 23 (0, 0))) := ⟨h3_⟩
              have n4_ : Aside0 (w.heap.size ≤ gb373) := ⟨h4_⟩
              have n5_ : Aside0 (w.heap.size ≤ gb373) := ⟨h5_⟩
              have n6_ : Aside0 (gb366 ≠ gb373) := ⟨h6_⟩
              have n7_ : Aside0 (gb373 ≠ gb366) := ⟨h7_⟩
              have n8_ : Aside0 (gb367 ≠ gb373) := ⟨h8_⟩
              have n9_ : Aside0 (gb373 ≠ gb367) := ⟨h9_⟩
              have n10_ : Aside0 (gb368 ≠ gb373) := ⟨h10_⟩
              have n11_ : Aside0 (gb373 ≠ gb368) := ⟨h11_⟩
              have n12_ : Aside0 (Below w.heap.size w w20) := ⟨h12_⟩
              clear BK366
              clear BK367
              clear BK368
              clear HB
              clear h0_ h1_ h2_ h3_ h4_ h5_ h6_ h7_ h8_ h9_ h10_ h11_ h12_
              have BK366 := n0_
              have BK367 := n1_
              have BK368 := n2_
              have BK373 := n3_
              have GW373 := n4_
              have GE373 := n5_
              have NB366_373 := n6_
              have NB373_366 := n7_
              have NB367_373 := n8_
              have NB373_367 := n9_
              have NB368_373 := n10_
              have NB373_368 := n11_
              have HB := n12_
              clear n0_ n1_ n2_ n3_ n4_ n5_ n6_ n7_ n8_ n9_ n10_ n11_ n12_
              have hHeld : w20.cell? ⟨gb366, 0, none⟩ = some (.bool a0_0) ∧ w20.cell? ⟨gb366, 1, none⟩ = some (.slice A0_1 l0_1.length c0_1) ∧ w20.cell? ⟨gb366, 2, none⟩ = some (.string a0_2) ∧ w20.cell? ⟨gb367, 0, none⟩ = some (.int .i64 a5_0) ∧ w20.cell? ⟨gb367, 1, none⟩ = some (.int .i64 a5_1) ∧ w20.cell? ⟨gb367, 2, none⟩ = some (.int .i64 a5_2) ∧ w20.cell? ⟨gb367, 3, none⟩ = some (.int .i64 a5_3) ∧ w20.cell? ⟨gb367, 4, none⟩ = some (.int .i64 a5_4) ∧ w20.cell? ⟨gb367, 5, none⟩ = some (.int .i64 a5_5) ∧ w20.cell? ⟨gb367, 6, none⟩ = some (.bool a5_6) := hS_
              refine norm_ (a' := ?_) ?_ ?_
              rotate_left
              · simp only [putAll, Act.put, List.setIfInBounds_toArray, List.set_cons_zero, List.set_cons_succ]
                rfl
              refine one_ (i := 12) (N := some 28) #[true, true, true, true, true, true, true, true, true, true, true, true, true, true, true, false, true, true, false, true, false] rfl rfl (one_of HT_.out (by kernel_rfl)) (by decide) (fun K hK => ?_)
              refine goes_ Try.func32 (by kernel_rfl) rfl #[.agg #[.bool a0_0, .slice A0_1 l0_1.length c0_1, .string a0_2], .int .u8 81, .int .i64 a5_3] (by rfl) rfl rfl (by (try simp only [List.map_toArray, List.map_cons, List.map_nil]); first | done | rfl | (simp only [List.length_drop, List.length_take]; rfl)) ?_
              with_reducible refine (swarfref44_value.calls k a0_0 _ _ l0_1 a0_2 81 a5_3 t371 _ ?side1 ?side2 A9.out).mono ?_
              (case side1 => repeat (first | exact (Kd.C_below HR0_1.out HB.out) | (with_reducible refine Kd.C_alloc ?_ _) | (with_reducible refine Kd.C_drewN ?_ _) | (with_reducible refine Kd.C_drew ?_)))
              (case side2 => exact HC0_1.out)
              rintro e w21 ⟨rfl, hb⟩
              refine ⟨_, rfl, ?_⟩
              have n0_ := Aside0.mk (blk_below (g := gb366) (o := .cells #[.bool a0_0, .slice A0_1 l0_1.length c0_1, .string a0_2] 54 (0, 0)) (by (with_reducible repeat (first | refine blk_drewN ?_ _ | refine blk_drew ?_ | refine blk_alloc ?_ _)); exact BK366.out) hb)
              have n1_ := Aside0.mk (blk_below (g := gb367) (o := .cells #[.int .i64 a5_0, .int .i64 a5_1, .int .i64 a5_2, .int .i64 a5_3, .int .i64 a5_4, .int .i64 a5_5, .bool a5_6] 23 (0, 0)) (by (with_reducible repeat (first | refine blk_drewN ?_ _ | refine blk_drew ?_ | refine blk_alloc ?_ _)); exact BK367.out) hb)
              have n2_ := Aside0.mk (blk_below (g := gb368) (o := .cells #[.int .i64 0, .int .i64 0, .int .i64 0, .int .i64 0, .int .i64 0, .int .i64 0, .bool false] 23 (0, 0)) (by (with_reducible repeat (first | refine blk_drewN ?_ _ | refine blk_drew ?_ | refine blk_alloc ?_ _)); exact BK368.out) hb)
              have n3_ := Aside0.mk (blk_below (g := gb373) (o := .cells #[.int .i64 0, .int .i64 0, .int .i64 0, .int .i64 0, .int .i64 0, .int .i64 0, .bool false] 23 (0, 0)) (by (with_reducible repeat (first | refine blk_drewN ?_ _ | refine blk_drew ?_ | refine blk_alloc ?_ _)); exact BK373.out) hb)
              have n4_ := Aside0.mk (below_step (by repeat (first | (with_reducible first | exact HB.out | apply below_alloc | apply pw_below_drewN | apply below_drew1 | refine below_set ?_ GE366.out | refine below_set ?_ GE367.out | refine below_set ?_ GE368.out | refine below_set ?_ GE373.out) | exact HB.out)) hb)
              clear BK366
              clear BK367
              clear BK368
              clear BK373
              clear HB
              have BK366 := n0_
              have BK367 := n1_
              have BK368 := n2_
              have BK373 := n3_
              have HB := n4_
              clear n0_ n1_ n2_ n3_ n4_
              (try clear hb)
              (try clear hb2)
              (try clear hk)
              (try clear hi)
              refine hK.out _ _ ⟨(blk_cell BK366.out 0).trans rfl, (blk_cell BK366.out 1).trans rfl, (blk_cell BK366.out 2).trans rfl, (blk_cell BK367.out 0).trans rfl, (blk_cell BK367.out 1).trans rfl, (blk_cell BK367.out 2).trans rfl, (blk_cell BK367.out 3).trans rfl, (blk_cell BK367.out 4).trans rfl, (blk_cell BK367.out 5).trans rfl, (blk_cell BK367.out 6).trans rfl⟩ (fun hHeld => ?_)
              clear hK K
              refine norm_ (a' := ?_) ?_ ?_
              rotate_left
              · show Act.put _ (some 28) _ = _
                simp only [Act.put, List.setIfInBounds_toArray, List.set_cons_zero, List.set_cons_succ, i64_w, i32_w]
                rfl
              exact norm_ (by first | (simp only [putAll, Act.put, List.setIfInBounds_toArray, List.set_cons_zero, List.set_cons_succ]; done) | (simp only [putAll, Act.put, List.setIfInBounds_toArray, List.set_cons_zero, List.set_cons_succ]; rfl)) (hJ4_8_12_19 (gb373) _ ⟨hHeld, (by (with_reducible repeat (first | refine blk_drewN ?_ _ | refine blk_drew ?_ | refine blk_alloc ?_ _)); exact BK366.out), (by (with_reducible repeat (first | refine blk_drewN ?_ _ | refine blk_drew ?_ | refine blk_alloc ?_ _)); exact BK367.out), (by (with_reducible repeat (first | refine blk_drewN ?_ _ | refine blk_drew ?_ | refine blk_alloc ?_ _)); exact BK368.out), (by (with_reducible repeat (first | refine blk_drewN ?_ _ | refine blk_drew ?_ | refine blk_alloc ?_ _)); exact BK373.out), GW373.out, GE373.out, NB366_373.out, NB373_366.out, NB367_373.out, NB373_367.out, NB368_373.out, NB373_368.out, (by repeat (first | (with_reducible first | exact HB.out | apply below_alloc | apply pw_below_drewN | apply below_drew1 | refine below_set ?_ GE366.out | refine below_set ?_ GE367.out | refine below_set ?_ GE368.out | refine below_set ?_ GE373.out) | exact HB.out))⟩)
          · skip
            rintro _ w20 ⟨hS_, h0_, h1_, h2_, h3_⟩
            have n0_ : Aside0 (w20.heap[gb366]? = some (.cells #[.bool a0_0, .slice A0_1 l0_1.length c0_1, .string a0_2] 54 (0, 0))) := ⟨h0_⟩
            have n1_ : Aside0 (w20.heap[gb367]? = some (.cells #[.int .i64 a5_0, .int .i64 a5_1, .int .i64 a5_2, .int .i64 a5_3, .int .i64 a5_4, .int .i64 a5_5, .bool a5_6] 23 (0, 0))) := ⟨h1_⟩
            have n2_ : Aside0 (w20.heap[gb368]? = some (.cells #[.int .i64 0, .int .i64 0, .int .i64 0, .int .i64 0, .int .i64 0, .int .i64 0, .bool false] 23 (0, 0))) := ⟨h2_⟩
            have n3_ : Aside0 (Below w.heap.size w w20) := ⟨h3_⟩
            clear BK366
            clear BK367
            clear BK368
            clear HB
            clear h0_ h1_ h2_ h3_
            have BK366 := n0_
            have BK367 := n1_
            have BK368 := n2_
            have HB := n3_
            clear n0_ n1_ n2_ n3_
            have hHeld : w20.cell? ⟨gb366, 0, none⟩ = some (.bool a0_0) ∧ w20.cell? ⟨gb366, 1, none⟩ = some (.slice A0_1 l0_1.length c0_1) ∧ w20.cell? ⟨gb366, 2, none⟩ = some (.string a0_2) ∧ w20.cell? ⟨gb367, 0, none⟩ = some (.int .i64 a5_0) ∧ w20.cell? ⟨gb367, 1, none⟩ = some (.int .i64 a5_1) ∧ w20.cell? ⟨gb367, 2, none⟩ = some (.int .i64 a5_2) ∧ w20.cell? ⟨gb367, 3, none⟩ = some (.int .i64 a5_3) ∧ w20.cell? ⟨gb367, 4, none⟩ = some (.int .i64 a5_4) ∧ w20.cell? ⟨gb367, 5, none⟩ = some (.int .i64 a5_5) ∧ w20.cell? ⟨gb367, 6, none⟩ = some (.bool a5_6) := hS_
            refine norm_ (a' := ?_) ?_ ?_
            rotate_left
            · simp only [putAll, Act.put, List.setIfInBounds_toArray, List.set_cons_zero, List.set_cons_succ]
              rfl
            refine two_ (i := 15) (j := 19) (Ni := some 31) (Nj := some 14) #[true, true, true, true, true, true, true, true, true, true, true, true, true, true, true, true, true, true, false, false, false] #[true, true, true, true, true, true, true, true, true, true, true, true, true, true, true, false, true, true, false, true, false] rfl rfl rfl rfl (two_of HT_.out (by kernel_rfl)) (by decide) (by decide) (fun K hK => ?_) (fun K hK => ?_)
            · skip
              refine goes_ Try.func32 (by kernel_rfl) rfl #[.agg #[.bool a0_0, .slice A0_1 l0_1.length c0_1, .string a0_2], .int .u8 70, .int .i64 a2] (by rfl) rfl rfl (by (try simp only [List.map_toArray, List.map_cons, List.map_nil]); first | done | rfl | (simp only [List.length_drop, List.length_take]; rfl)) ?_
              with_reducible refine (swarfref44_value.calls k a0_0 _ _ l0_1 a0_2 70 a2 t372 _ ?side1 ?side2 A10.out).mono ?_
              (case side1 => repeat (first | exact (Kd.C_below HR0_1.out HB.out) | (with_reducible refine Kd.C_alloc ?_ _) | (with_reducible refine Kd.C_drewN ?_ _) | (with_reducible refine Kd.C_drew ?_)))
              (case side2 => exact HC0_1.out)
              rintro e w21 ⟨rfl, hb⟩
              refine ⟨_, rfl, ?_⟩
              have n0_ := Aside0.mk (blk_below (g := gb366) (o := .cells #[.bool a0_0, .slice A0_1 l0_1.length c0_1, .string a0_2] 54 (0, 0)) (by (with_reducible repeat (first | refine blk_drewN ?_ _ | refine blk_drew ?_ | refine blk_alloc ?_ _)); exact BK366.out) hb)
              have n1_ := Aside0.mk (blk_below (g := gb367) (o := .cells #[.int .i64 a5_0, .int .i64 a5_1, .int .i64 a5_2, .int .i64 a5_3, .int .i64 a5_4, .int .i64 a5_5, .bool a5_6] 23 (0, 0)) (by (with_reducible repeat (first | refine blk_drewN ?_ _ | refine blk_drew ?_ | refine blk_alloc ?_ _)); exact BK367.out) hb)
              have n2_ := Aside0.mk (blk_below (g := gb368) (o := .cells #[.int .i64 0, .int .i64 0, .int .i64 0, .int .i64 0, .int .i64 0, .int .i64 0, .bool false] 23 (0, 0)) (by (with_reducible repeat (first | refine blk_drewN ?_ _ | refine blk_drew ?_ | refine blk_alloc ?_ _)); exact BK368.out) hb)
              have n3_ := Aside0.mk (below_step (by repeat (first | (with_reducible first | exact HB.out | apply below_alloc | apply pw_below_drewN | apply below_drew1 | refine below_set ?_ GE366.out | refine below_set ?_ GE367.out | refine below_set ?_ GE368.out) | exact HB.out)) hb)
              clear BK366
              clear BK367
              clear BK368
              clear HB
              have BK366 := n0_
              have BK367 := n1_
              have BK368 := n2_
              have HB := n3_
              clear n0_ n1_ n2_ n3_
              (try clear hb)
              (try clear hb2)
              (try clear hk)
              (try clear hi)
              refine hK.out _ _ ⟨(blk_cell BK366.out 0).trans rfl, (blk_cell BK366.out 1).trans rfl, (blk_cell BK366.out 2).trans rfl, (blk_cell BK367.out 0).trans rfl, (blk_cell BK367.out 1).trans rfl, (blk_cell BK367.out 2).trans rfl, (blk_cell BK367.out 3).trans rfl, (blk_cell BK367.out 4).trans rfl, (blk_cell BK367.out 5).trans rfl, (blk_cell BK367.out 6).trans rfl⟩ (fun hHeld => ?_)
              clear hK K
              refine norm_ (a' := ?_) ?_ ?_
              rotate_left
              · show Act.put _ (some 31) _ = _
                simp only [Act.put, List.setIfInBounds_toArray, List.set_cons_zero, List.set_cons_succ, i64_w, i32_w]
                rfl
              refine pure_ (i := 18) (N := some 34) (v := ?_) (a' := ?_) #[true, true, true, true, true, true, true, true, true, true, true, true, true, true, true, true, true, true, true, false, false] rfl rfl (any_of HT_.out (by kernel_rfl)) (fun _ _ _ h => h) (Or.inl ⟨by rfl, ?_⟩) ?_ ?_
              rotate_left
              · intro w'
                go_simp
                with_reducible rfl
              rotate_left
              · simp only [Act.put, List.setIfInBounds_toArray, List.set_cons_zero, List.set_cons_succ, i64_w, i32_w]
                rfl
              exact norm_ (by first | (simp only [putAll, Act.put, List.setIfInBounds_toArray, List.set_cons_zero, List.set_cons_succ]; done) | (simp only [putAll, Act.put, List.setIfInBounds_toArray, List.set_cons_zero, List.set_cons_succ]; rfl)) (hJ4_8_12_15 () _ ⟨hHeld, (by (with_reducible repeat (first | refine blk_drewN ?_ _ | refine blk_drew ?_ | refine blk_alloc ?_ _)); exact BK366.out), (by (with_reducible repeat (first | refine blk_drewN ?_ _ | refine blk_drew ?_ | refine blk_alloc ?_ _)); exact BK367.out), (by (with_reducible repeat (first | refine blk_drewN ?_ _ | refine blk_drew ?_ | refine blk_alloc ?_ _)); exact BK368.out), (by repeat (first | (with_reducible first | exact HB.out | apply below_alloc | apply pw_below_drewN | apply below_drew1 | refine below_set ?_ GE366.out | refine below_set ?_ GE367.out | refine below_set ?_ GE368.out) | exact HB.out))⟩)
            · skip
              refine box_step ?hg (N := 14) ?hd (cs := #[.int .i64 0, .int .i64 0, .int .i64 0, .int .i64 0, .int .i64 0, .int .i64 0, .bool false]) (t := 23) ?hr ?_; (case hd => rfl); (case hg => rfl); (case hr => first | (go_simp; done) | (go_simp; rfl))
              intro gb373 hg w21 hbox hb
              have n0_ := Aside0.mk (blk_below (g := gb366) (o := .cells #[.bool a0_0, .slice A0_1 l0_1.length c0_1, .string a0_2] 54 (0, 0)) (by (with_reducible repeat (first | refine blk_drewN ?_ _ | refine blk_drew ?_ | refine blk_alloc ?_ _)); exact BK366.out) hb)
              have n1_ := Aside0.mk (blk_below (g := gb367) (o := .cells #[.int .i64 a5_0, .int .i64 a5_1, .int .i64 a5_2, .int .i64 a5_3, .int .i64 a5_4, .int .i64 a5_5, .bool a5_6] 23 (0, 0)) (by (with_reducible repeat (first | refine blk_drewN ?_ _ | refine blk_drew ?_ | refine blk_alloc ?_ _)); exact BK367.out) hb)
              have n2_ := Aside0.mk (blk_below (g := gb368) (o := .cells #[.int .i64 0, .int .i64 0, .int .i64 0, .int .i64 0, .int .i64 0, .int .i64 0, .bool false] 23 (0, 0)) (by (with_reducible repeat (first | refine blk_drewN ?_ _ | refine blk_drew ?_ | refine blk_alloc ?_ _)); exact BK368.out) hb)
              have n3_ := Aside0.mk (below_step (by repeat (first | (with_reducible first | exact HB.out | apply below_alloc | apply pw_below_drewN | apply below_drew1 | refine below_set ?_ GE366.out | refine below_set ?_ GE367.out | refine below_set ?_ GE368.out) | exact HB.out)) hb)
              have n4_ := Aside0.mk (hbox)
              have n5_ := Aside0.mk ((by rw [hg]; exact (below_size (by repeat (first | (with_reducible first | exact HB.out | apply below_alloc | apply pw_below_drewN | apply below_drew1 | refine below_set ?_ GE366.out | refine below_set ?_ GE367.out | refine below_set ?_ GE368.out) | exact HB.out))) : w.heap.size ≤ gb373))
              have n6_ := Aside0.mk ((by rw [hg]; exact (below_size (by repeat (first | (with_reducible first | exact HB.out | apply below_alloc | apply pw_below_drewN | apply below_drew1 | refine below_set ?_ GE366.out | refine below_set ?_ GE367.out | refine below_set ?_ GE368.out) | exact HB.out))) : w.heap.size ≤ gb373))
              have n7_ := Aside0.mk ((by rw [hg]; exact Nat.ne_of_lt (blk_lt (g := gb366) (o := .cells #[.bool a0_0, .slice A0_1 l0_1.length c0_1, .string a0_2] 54 (0, 0)) (by (with_reducible repeat (first | refine blk_drewN ?_ _ | refine blk_drew ?_ | refine blk_alloc ?_ _)); exact BK366.out)) : gb366 ≠ gb373))
              have n8_ := Aside0.mk ((by rw [hg]; exact Nat.ne_of_gt (blk_lt (g := gb366) (o := .cells #[.bool a0_0, .slice A0_1 l0_1.length c0_1, .string a0_2] 54 (0, 0)) (by (with_reducible repeat (first | refine blk_drewN ?_ _ | refine blk_drew ?_ | refine blk_alloc ?_ _)); exact BK366.out)) : gb373 ≠ gb366))
              have n9_ := Aside0.mk ((by rw [hg]; exact Nat.ne_of_lt (blk_lt (g := gb367) (o := .cells #[.int .i64 a5_0, .int .i64 a5_1, .int .i64 a5_2, .int .i64 a5_3, .int .i64 a5_4, .int .i64 a5_5, .bool a5_6] 23 (0, 0)) (by (with_reducible repeat (first | refine blk_drewN ?_ _ | refine blk_drew ?_ | refine blk_alloc ?_ _)); exact BK367.out)) : gb367 ≠ gb373))
              have n10_ := Aside0.mk ((by rw [hg]; exact Nat.ne_of_gt (blk_lt (g := gb367) (o := .cells #[.int .i64 a5_0, .int .i64 a5_1, .int .i64 a5_2, .int .i64 a5_3, .int .i64 a5_4, .int .i64 a5_5, .bool a5_6] 23 (0, 0)) (by (with_reducible repeat (first | refine blk_drewN ?_ _ | refine blk_drew ?_ | refine blk_alloc ?_ _)); exact BK367.out)) : gb373 ≠ gb367))
              have n11_ := Aside0.mk ((by rw [hg]; exact Nat.ne_of_lt (blk_lt (g := gb368) (o := .cells #[.int .i64 0, .int .i64 0, .int .i64 0, .int .i64 0, .int .i64 0, .int .i64 0, .bool false] 23 (0, 0)) (by (with_reducible repeat (first | refine blk_drewN ?_ _ | refine blk_drew ?_ | refine blk_alloc ?_ _)); exact BK368.out)) : gb368 ≠ gb373))
              have n12_ := Aside0.mk ((by rw [hg]; exact Nat.ne_of_gt (blk_lt (g := gb368) (o := .cells #[.int .i64 0, .int .i64 0, .int .i64 0, .int .i64 0, .int .i64 0, .int .i64 0, .bool false] 23 (0, 0)) (by (with_reducible repeat (first | refine blk_drewN ?_ _ | refine blk_drew ?_ | refine blk_alloc ?_ _)); exact BK368.out)) : gb373 ≠ gb368))
              clear BK366
              clear BK367
              clear BK368
              clear HB
              have BK366 := n0_
              have BK367 := n1_
              have BK368 := n2_
              have HB := n3_
              have BK373 := n4_
              have GW373 := n5_
              have GE373 := n6_
              have NB366_373 := n7_
              have NB373_366 := n8_
              have NB367_373 := n9_
              have NB373_367 := n10_
              have NB368_373 := n11_
              have NB373_368 := n12_
              clear n0_ n1_ n2_ n3_ n4_ n5_ n6_ n7_ n8_ n9_ n10_ n11_ n12_
              clear hb hbox hg
              refine hK.out _ _ ⟨(blk_cell BK366.out 0).trans rfl, (blk_cell BK366.out 1).trans rfl, (blk_cell BK366.out 2).trans rfl, (blk_cell BK367.out 0).trans rfl, (blk_cell BK367.out 1).trans rfl, (blk_cell BK367.out 2).trans rfl, (blk_cell BK367.out 3).trans rfl, (blk_cell BK367.out 4).trans rfl, (blk_cell BK367.out 5).trans rfl, (blk_cell BK367.out 6).trans rfl⟩ (fun hHeld => ?_)
              clear hK K
              refine norm_ (a' := ?_) ?_ ?_
              rotate_left
              · show Act.put _ (some 14) _ = _
                simp only [Act.put, List.setIfInBounds_toArray, List.set_cons_zero, List.set_cons_succ, i64_w, i32_w]
                rfl
              exact norm_ (by first | (simp only [putAll, Act.put, List.setIfInBounds_toArray, List.set_cons_zero, List.set_cons_succ]; done) | (simp only [putAll, Act.put, List.setIfInBounds_toArray, List.set_cons_zero, List.set_cons_succ]; rfl)) (hJ4_8_12_19 (gb373) _ ⟨hHeld, (by (with_reducible repeat (first | refine blk_drewN ?_ _ | refine blk_drew ?_ | refine blk_alloc ?_ _)); exact BK366.out), (by (with_reducible repeat (first | refine blk_drewN ?_ _ | refine blk_drew ?_ | refine blk_alloc ?_ _)); exact BK367.out), (by (with_reducible repeat (first | refine blk_drewN ?_ _ | refine blk_drew ?_ | refine blk_alloc ?_ _)); exact BK368.out), (by (with_reducible repeat (first | refine blk_drewN ?_ _ | refine blk_drew ?_ | refine blk_alloc ?_ _)); exact BK373.out), GW373.out, GE373.out, NB366_373.out, NB373_366.out, NB367_373.out, NB373_367.out, NB368_373.out, NB373_368.out, (by repeat (first | (with_reducible first | exact HB.out | apply below_alloc | apply pw_below_drewN | apply below_drew1 | refine below_set ?_ GE366.out | refine below_set ?_ GE367.out | refine below_set ?_ GE368.out | refine below_set ?_ GE373.out) | exact HB.out))⟩)
        · skip
          rintro gb373 w21 ⟨hS_, h0_, h1_, h2_, h3_, h4_, h5_, h6_, h7_, h8_, h9_, h10_, h11_, h12_⟩
          have n0_ : Aside0 (w21.heap[gb366]? = some (.cells #[.bool a0_0, .slice A0_1 l0_1.length c0_1, .string a0_2] 54 (0, 0))) := ⟨h0_⟩
          have n1_ : Aside0 (w21.heap[gb367]? = some (.cells #[.int .i64 a5_0, .int .i64 a5_1, .int .i64 a5_2, .int .i64 a5_3, .int .i64 a5_4, .int .i64 a5_5, .bool a5_6] 23 (0, 0))) := ⟨h1_⟩
          have n2_ : Aside0 (w21.heap[gb368]? = some (.cells #[.int .i64 0, .int .i64 0, .int .i64 0, .int .i64 0, .int .i64 0, .int .i64 0, .bool false] 23 (0, 0))) := ⟨h2_⟩
          have n3_ : Aside0 (w21.heap[gb373]? = some (.cells #[.int .i64 0, .int .i64 0, .int .i64 0, .int .i64 0, .int .i64 0, .int .i64 0, .bool false] 23 (0, 0))) := ⟨h3_⟩
          have n4_ : Aside0 (w.heap.size ≤ gb373) := ⟨h4_⟩
          have n5_ : Aside0 (w.heap.size ≤ gb373) := ⟨h5_⟩
          have n6_ : Aside0 (gb366 ≠ gb373) := ⟨h6_⟩
          have n7_ : Aside0 (gb373 ≠ gb366) := ⟨h7_⟩
          have n8_ : Aside0 (gb367 ≠ gb373) := ⟨h8_⟩
          have n9_ : Aside0 (gb373 ≠ gb367) := ⟨h9_⟩
          have n10_ : Aside0 (gb368 ≠ gb373) := ⟨h10_⟩
          have n11_ : Aside0 (gb373 ≠ gb368) := ⟨h11_⟩
          have n12_ : Aside0 (Below w.heap.size w w21) := ⟨h12_⟩
          clear BK366
          clear BK367
          clear BK368
          clear HB
          clear h0_ h1_ h2_ h3_ h4_ h5_ h6_ h7_ h8_ h9_ h10_ h11_ h12_
          have BK366 := n0_
          have BK367 := n1_
          have BK368 := n2_
          have BK373 := n3_
          have GW373 := n4_
          have GE373 := n5_
          have NB366_373 := n6_
          have NB373_366 := n7_
          have NB367_373 := n8_
          have NB373_367 := n9_
          have NB368_373 := n10_
          have NB373_368 := n11_
          have HB := n12_
          clear n0_ n1_ n2_ n3_ n4_ n5_ n6_ n7_ n8_ n9_ n10_ n11_ n12_
          have hHeld : w21.cell? ⟨gb366, 0, none⟩ = some (.bool a0_0) ∧ w21.cell? ⟨gb366, 1, none⟩ = some (.slice A0_1 l0_1.length c0_1) ∧ w21.cell? ⟨gb366, 2, none⟩ = some (.string a0_2) ∧ w21.cell? ⟨gb367, 0, none⟩ = some (.int .i64 a5_0) ∧ w21.cell? ⟨gb367, 1, none⟩ = some (.int .i64 a5_1) ∧ w21.cell? ⟨gb367, 2, none⟩ = some (.int .i64 a5_2) ∧ w21.cell? ⟨gb367, 3, none⟩ = some (.int .i64 a5_3) ∧ w21.cell? ⟨gb367, 4, none⟩ = some (.int .i64 a5_4) ∧ w21.cell? ⟨gb367, 5, none⟩ = some (.int .i64 a5_5) ∧ w21.cell? ⟨gb367, 6, none⟩ = some (.bool a5_6) := hS_
          refine norm_ (a' := ?_) ?_ ?_
          rotate_left
          · simp only [putAll, Act.put, List.setIfInBounds_toArray, List.set_cons_zero, List.set_cons_succ]
            rfl
          refine one_ (i := 15) (N := some 31) #[true, true, true, true, true, true, true, true, true, true, true, true, true, true, true, true, true, true, false, true, false] rfl rfl (one_of HT_.out (by kernel_rfl)) (by decide) (fun K hK => ?_)
          refine goes_ Try.func32 (by kernel_rfl) rfl #[.agg #[.bool a0_0, .slice A0_1 l0_1.length c0_1, .string a0_2], .int .u8 70, .int .i64 a2] (by rfl) rfl rfl (by (try simp only [List.map_toArray, List.map_cons, List.map_nil]); first | done | rfl | (simp only [List.length_drop, List.length_take]; rfl)) ?_
          with_reducible refine (swarfref44_value.calls k a0_0 _ _ l0_1 a0_2 70 a2 t372 _ ?side1 ?side2 A10.out).mono ?_
          (case side1 => repeat (first | exact (Kd.C_below HR0_1.out HB.out) | (with_reducible refine Kd.C_alloc ?_ _) | (with_reducible refine Kd.C_drewN ?_ _) | (with_reducible refine Kd.C_drew ?_)))
          (case side2 => exact HC0_1.out)
          rintro e w22 ⟨rfl, hb⟩
          refine ⟨_, rfl, ?_⟩
          have n0_ := Aside0.mk (blk_below (g := gb366) (o := .cells #[.bool a0_0, .slice A0_1 l0_1.length c0_1, .string a0_2] 54 (0, 0)) (by (with_reducible repeat (first | refine blk_drewN ?_ _ | refine blk_drew ?_ | refine blk_alloc ?_ _)); exact BK366.out) hb)
          have n1_ := Aside0.mk (blk_below (g := gb367) (o := .cells #[.int .i64 a5_0, .int .i64 a5_1, .int .i64 a5_2, .int .i64 a5_3, .int .i64 a5_4, .int .i64 a5_5, .bool a5_6] 23 (0, 0)) (by (with_reducible repeat (first | refine blk_drewN ?_ _ | refine blk_drew ?_ | refine blk_alloc ?_ _)); exact BK367.out) hb)
          have n2_ := Aside0.mk (blk_below (g := gb368) (o := .cells #[.int .i64 0, .int .i64 0, .int .i64 0, .int .i64 0, .int .i64 0, .int .i64 0, .bool false] 23 (0, 0)) (by (with_reducible repeat (first | refine blk_drewN ?_ _ | refine blk_drew ?_ | refine blk_alloc ?_ _)); exact BK368.out) hb)
          have n3_ := Aside0.mk (blk_below (g := gb373) (o := .cells #[.int .i64 0, .int .i64 0, .int .i64 0, .int .i64 0, .int .i64 0, .int .i64 0, .bool false] 23 (0, 0)) (by (with_reducible repeat (first | refine blk_drewN ?_ _ | refine blk_drew ?_ | refine blk_alloc ?_ _)); exact BK373.out) hb)
          have n4_ := Aside0.mk (below_step (by repeat (first | (with_reducible first | exact HB.out | apply below_alloc | apply pw_below_drewN | apply below_drew1 | refine below_set ?_ GE366.out | refine below_set ?_ GE367.out | refine below_set ?_ GE368.out | refine below_set ?_ GE373.out) | exact HB.out)) hb)
          clear BK366
          clear BK367
          clear BK368
          clear BK373
          clear HB
          have BK366 := n0_
          have BK367 := n1_
          have BK368 := n2_
          have BK373 := n3_
          have HB := n4_
          clear n0_ n1_ n2_ n3_ n4_
          (try clear hb)
          (try clear hb2)
          (try clear hk)
          (try clear hi)
          refine hK.out _ _ ⟨(blk_cell BK366.out 0).trans rfl, (blk_cell BK366.out 1).trans rfl, (blk_cell BK366.out 2).trans rfl, (blk_cell BK367.out 0).trans rfl, (blk_cell BK367.out 1).trans rfl, (blk_cell BK367.out 2).trans rfl, (blk_cell BK367.out 3).trans rfl, (blk_cell BK367.out 4).trans rfl, (blk_cell BK367.out 5).trans rfl, (blk_cell BK367.out 6).trans rfl⟩ (fun hHeld => ?_)
          clear hK K
          refine norm_ (a' := ?_) ?_ ?_
          rotate_left
          · show Act.put _ (some 31) _ = _
            simp only [Act.put, List.setIfInBounds_toArray, List.set_cons_zero, List.set_cons_succ, i64_w, i32_w]
            rfl
          refine pure_ (i := 18) (N := some 34) (v := ?_) (a' := ?_) #[true, true, true, true, true, true, true, true, true, true, true, true, true, true, true, true, true, true, true, true, false] rfl rfl (any_of HT_.out (by kernel_rfl)) (fun _ _ _ h => h) (Or.inl ⟨by rfl, ?_⟩) ?_ ?_
          rotate_left
          · intro w'
            go_simp
            with_reducible rfl
          rotate_left
          · simp only [Act.put, List.setIfInBounds_toArray, List.set_cons_zero, List.set_cons_succ, i64_w, i32_w]
            rfl
          exact norm_ (by first | (simp only [putAll, Act.put, List.setIfInBounds_toArray, List.set_cons_zero, List.set_cons_succ]; done) | (simp only [putAll, Act.put, List.setIfInBounds_toArray, List.set_cons_zero, List.set_cons_succ]; rfl)) (hJ4_8_12_15_19 (gb373) _ ⟨hHeld, (by (with_reducible repeat (first | refine blk_drewN ?_ _ | refine blk_drew ?_ | refine blk_alloc ?_ _)); exact BK366.out), (by (with_reducible repeat (first | refine blk_drewN ?_ _ | refine blk_drew ?_ | refine blk_alloc ?_ _)); exact BK367.out), (by (with_reducible repeat (first | refine blk_drewN ?_ _ | refine blk_drew ?_ | refine blk_alloc ?_ _)); exact BK368.out), (by (with_reducible repeat (first | refine blk_drewN ?_ _ | refine blk_drew ?_ | refine blk_alloc ?_ _)); exact BK373.out), GW373.out, GE373.out, NB366_373.out, NB373_366.out, NB367_373.out, NB373_367.out, NB368_373.out, NB373_368.out, (by repeat (first | (with_reducible first | exact HB.out | apply below_alloc | apply pw_below_drewN | apply below_drew1 | refine below_set ?_ GE366.out | refine below_set ?_ GE367.out | refine below_set ?_ GE368.out | refine below_set ?_ GE373.out) | exact HB.out))⟩)
      · skip
        rintro _ w21 ⟨hS_, h0_, h1_, h2_, h3_⟩
        have n0_ : Aside0 (w21.heap[gb366]? = some (.cells #[.bool a0_0, .slice A0_1 l0_1.length c0_1, .string a0_2] 54 (0, 0))) := ⟨h0_⟩
        have n1_ : Aside0 (w21.heap[gb367]? = some (.cells #[.int .i64 a5_0, .int .i64 a5_1, .int .i64 a5_2, .int .i64 a5_3, .int .i64 a5_4, .int .i64 a5_5, .bool a5_6] 23 (0, 0))) := ⟨h1_⟩
        have n2_ : Aside0 (w21.heap[gb368]? = some (.cells #[.int .i64 0, .int .i64 0, .int .i64 0, .int .i64 0, .int .i64 0, .int .i64 0, .bool false] 23 (0, 0))) := ⟨h2_⟩
        have n3_ : Aside0 (Below w.heap.size w w21) := ⟨h3_⟩
        clear BK366
        clear BK367
        clear BK368
        clear HB
        clear h0_ h1_ h2_ h3_
        have BK366 := n0_
        have BK367 := n1_
        have BK368 := n2_
        have HB := n3_
        clear n0_ n1_ n2_ n3_
        have hHeld : w21.cell? ⟨gb366, 0, none⟩ = some (.bool a0_0) ∧ w21.cell? ⟨gb366, 1, none⟩ = some (.slice A0_1 l0_1.length c0_1) ∧ w21.cell? ⟨gb366, 2, none⟩ = some (.string a0_2) ∧ w21.cell? ⟨gb367, 0, none⟩ = some (.int .i64 a5_0) ∧ w21.cell? ⟨gb367, 1, none⟩ = some (.int .i64 a5_1) ∧ w21.cell? ⟨gb367, 2, none⟩ = some (.int .i64 a5_2) ∧ w21.cell? ⟨gb367, 3, none⟩ = some (.int .i64 a5_3) ∧ w21.cell? ⟨gb367, 4, none⟩ = some (.int .i64 a5_4) ∧ w21.cell? ⟨gb367, 5, none⟩ = some (.int .i64 a5_5) ∧ w21.cell? ⟨gb367, 6, none⟩ = some (.bool a5_6) := hS_
        refine norm_ (a' := ?_) ?_ ?_
        rotate_left
        · simp only [putAll, Act.put, List.setIfInBounds_toArray, List.set_cons_zero, List.set_cons_succ]
          rfl
        refine one_ (i := 19) (N := some 14) #[true, true, true, true, true, true, true, true, true, true, true, true, true, true, true, true, true, true, true, true, false] rfl rfl (one_of HT_.out (by kernel_rfl)) (by decide) (fun K hK => ?_)
        refine box_step ?hg (N := 14) ?hd (cs := #[.int .i64 0, .int .i64 0, .int .i64 0, .int .i64 0, .int .i64 0, .int .i64 0, .bool false]) (t := 23) ?hr ?_; (case hd => rfl); (case hg => rfl); (case hr => first | (go_simp; done) | (go_simp; rfl))
        intro gb373 hg w22 hbox hb
        have n0_ := Aside0.mk (blk_below (g := gb366) (o := .cells #[.bool a0_0, .slice A0_1 l0_1.length c0_1, .string a0_2] 54 (0, 0)) (by (with_reducible repeat (first | refine blk_drewN ?_ _ | refine blk_drew ?_ | refine blk_alloc ?_ _)); exact BK366.out) hb)
        have n1_ := Aside0.mk (blk_below (g := gb367) (o := .cells #[.int .i64 a5_0, .int .i64 a5_1, .int .i64 a5_2, .int .i64 a5_3, .int .i64 a5_4, .int .i64 a5_5, .bool a5_6] 23 (0, 0)) (by (with_reducible repeat (first | refine blk_drewN ?_ _ | refine blk_drew ?_ | refine blk_alloc ?_ _)); exact BK367.out) hb)
        have n2_ := Aside0.mk (blk_below (g := gb368) (o := .cells #[.int .i64 0, .int .i64 0, .int .i64 0, .int .i64 0, .int .i64 0, .int .i64 0, .bool false] 23 (0, 0)) (by (with_reducible repeat (first | refine blk_drewN ?_ _ | refine blk_drew ?_ | refine blk_alloc ?_ _)); exact BK368.out) hb)
        have n3_ := Aside0.mk (below_step (by repeat (first | (with_reducible first | exact HB.out | apply below_alloc | apply pw_below_drewN | apply below_drew1 | refine below_set ?_ GE366.out | refine below_set ?_ GE367.out | refine below_set ?_ GE368.out) | exact HB.out)) hb)
        have n4_ := Aside0.mk (hbox)
        have n5_ := Aside0.mk ((by rw [hg]; exact (below_size (by repeat (first | (with_reducible first | exact HB.out | apply below_alloc | apply pw_below_drewN | apply below_drew1 | refine below_set ?_ GE366.out | refine below_set ?_ GE367.out | refine below_set ?_ GE368.out) | exact HB.out))) : w.heap.size ≤ gb373))
        have n6_ := Aside0.mk ((by rw [hg]; exact (below_size (by repeat (first | (with_reducible first | exact HB.out | apply below_alloc | apply pw_below_drewN | apply below_drew1 | refine below_set ?_ GE366.out | refine below_set ?_ GE367.out | refine below_set ?_ GE368.out) | exact HB.out))) : w.heap.size ≤ gb373))
        have n7_ := Aside0.mk ((by rw [hg]; exact Nat.ne_of_lt (blk_lt (g := gb366) (o := .cells #[.bool a0_0, .slice A0_1 l0_1.length c0_1, .string a0_2] 54 (0, 0)) (by (with_reducible repeat (first | refine blk_drewN ?_ _ | refine blk_drew ?_ | refine blk_alloc ?_ _)); exact BK366.out)) : gb366 ≠ gb373))
        have n8_ := Aside0.mk ((by rw [hg]; exact Nat.ne_of_gt (blk_lt (g := gb366) (o := .cells #[.bool a0_0, .slice A0_1 l0_1.length c0_1, .string a0_2] 54 (0, 0)) (by (with_reducible repeat (first | refine blk_drewN ?_ _ | refine blk_drew ?_ | refine blk_alloc ?_ _)); exact BK366.out)) : gb373 ≠ gb366))
        have n9_ := Aside0.mk ((by rw [hg]; exact Nat.ne_of_lt (blk_lt (g := gb367) (o := .cells #[.int .i64 a5_0, .int .i64 a5_1, .int .i64 a5_2, .int .i64 a5_3, .int .i64 a5_4, .int .i64 a5_5, .bool a5_6] 23 (0, 0)) (by (with_reducible repeat (first | refine blk_drewN ?_ _ | refine blk_drew ?_ | refine blk_alloc ?_ _)); exact BK367.out)) : gb367 ≠ gb373))
        have n10_ := Aside0.mk ((by rw [hg]; exact Nat.ne_of_gt (blk_lt (g := gb367) (o := .cells #[.int .i64 a5_0, .int .i64 a5_1, .int .i64 a5_2, .int .i64 a5_3, .int .i64 a5_4, .int .i64 a5_5, .bool a5_6] 23 (0, 0)) (by (with_reducible repeat (first | refine blk_drewN ?_ _ | refine blk_drew ?_ | refine blk_alloc ?_ _)); exact BK367.out)) : gb373 ≠ gb367))
        have n11_ := Aside0.mk ((by rw [hg]; exact Nat.ne_of_lt (blk_lt (g := gb368) (o := .cells #[.int .i64 0, .int .i64 0, .int .i64 0, .int .i64 0, .int .i64 0, .int .i64 0, .bool false] 23 (0, 0)) (by (with_reducible repeat (first | refine blk_drewN ?_ _ | refine blk_drew ?_ | refine blk_alloc ?_ _)); exact BK368.out)) : gb368 ≠ gb373))
        have n12_ := Aside0.mk ((by rw [hg]; exact Nat.ne_of_gt (blk_lt (g := gb368) (o := .cells #[.int .i64 0, .int .i64 0, .int .i64 0, .int .i64 0, .int .i64 0, .int .i64 0, .bool false] 23 (0, 0)) (by (with_reducible repeat (first | refine blk_drewN ?_ _ | refine blk_drew ?_ | refine blk_alloc ?_ _)); exact BK368.out)) : gb373 ≠ gb368))
        clear BK366
        clear BK367
        clear BK368
        clear HB
        have BK366 := n0_
        have BK367 := n1_
        have BK368 := n2_
        have HB := n3_
        have BK373 := n4_
        have GW373 := n5_
        have GE373 := n6_
        have NB366_373 := n7_
        have NB373_366 := n8_
        have NB367_373 := n9_
        have NB373_367 := n10_
        have NB368_373 := n11_
        have NB373_368 := n12_
        clear n0_ n1_ n2_ n3_ n4_ n5_ n6_ n7_ n8_ n9_ n10_ n11_ n12_
        clear hb hbox hg
        refine hK.out _ _ ⟨(blk_cell BK366.out 0).trans rfl, (blk_cell BK366.out 1).trans rfl, (blk_cell BK366.out 2).trans rfl, (blk_cell BK367.out 0).trans rfl, (blk_cell BK367.out 1).trans rfl, (blk_cell BK367.out 2).trans rfl, (blk_cell BK367.out 3).trans rfl, (blk_cell BK367.out 4).trans rfl, (blk_cell BK367.out 5).trans rfl, (blk_cell BK367.out 6).trans rfl⟩ (fun hHeld => ?_)
        clear hK K
        refine norm_ (a' := ?_) ?_ ?_
        rotate_left
        · show Act.put _ (some 14) _ = _
          simp only [Act.put, List.setIfInBounds_toArray, List.set_cons_zero, List.set_cons_succ, i64_w, i32_w]
          rfl
        exact norm_ (by first | (simp only [putAll, Act.put, List.setIfInBounds_toArray, List.set_cons_zero, List.set_cons_succ]; done) | (simp only [putAll, Act.put, List.setIfInBounds_toArray, List.set_cons_zero, List.set_cons_succ]; rfl)) (hJ4_8_12_15_19 (gb373) _ ⟨hHeld, (by (with_reducible repeat (first | refine blk_drewN ?_ _ | refine blk_drew ?_ | refine blk_alloc ?_ _)); exact BK366.out), (by (with_reducible repeat (first | refine blk_drewN ?_ _ | refine blk_drew ?_ | refine blk_alloc ?_ _)); exact BK367.out), (by (with_reducible repeat (first | refine blk_drewN ?_ _ | refine blk_drew ?_ | refine blk_alloc ?_ _)); exact BK368.out), (by (with_reducible repeat (first | refine blk_drewN ?_ _ | refine blk_drew ?_ | refine blk_alloc ?_ _)); exact BK373.out), GW373.out, GE373.out, NB366_373.out, NB373_366.out, NB367_373.out, NB373_367.out, NB368_373.out, NB373_368.out, (by repeat (first | (with_reducible first | exact HB.out | apply below_alloc | apply pw_below_drewN | apply below_drew1 | refine below_set ?_ GE366.out | refine below_set ?_ GE367.out | refine below_set ?_ GE368.out | refine below_set ?_ GE373.out) | exact HB.out))⟩)
    rintro gb373 w22 ⟨hS_, h0_, h1_, h2_, h3_, h4_, h5_, h6_, h7_, h8_, h9_, h10_, h11_, h12_⟩
    have n0_ : Aside0 (w22.heap[gb366]? = some (.cells #[.bool a0_0, .slice A0_1 l0_1.length c0_1, .string a0_2] 54 (0, 0))) := ⟨h0_⟩
    have n1_ : Aside0 (w22.heap[gb367]? = some (.cells #[.int .i64 a5_0, .int .i64 a5_1, .int .i64 a5_2, .int .i64 a5_3, .int .i64 a5_4, .int .i64 a5_5, .bool a5_6] 23 (0, 0))) := ⟨h1_⟩
    have n2_ : Aside0 (w22.heap[gb368]? = some (.cells #[.int .i64 0, .int .i64 0, .int .i64 0, .int .i64 0, .int .i64 0, .int .i64 0, .bool false] 23 (0, 0))) := ⟨h2_⟩
    have n3_ : Aside0 (w22.heap[gb373]? = some (.cells #[.int .i64 0, .int .i64 0, .int .i64 0, .int .i64 0, .int .i64 0, .int .i64 0, .bool false] 23 (0, 0))) := ⟨h3_⟩
    have n4_ : Aside0 (w.heap.size ≤ gb373) := ⟨h4_⟩
    have n5_ : Aside0 (w.heap.size ≤ gb373) := ⟨h5_⟩
    have n6_ : Aside0 (gb366 ≠ gb373) := ⟨h6_⟩
    have n7_ : Aside0 (gb373 ≠ gb366) := ⟨h7_⟩
    have n8_ : Aside0 (gb367 ≠ gb373) := ⟨h8_⟩
    have n9_ : Aside0 (gb373 ≠ gb367) := ⟨h9_⟩
    have n10_ : Aside0 (gb368 ≠ gb373) := ⟨h10_⟩
    have n11_ : Aside0 (gb373 ≠ gb368) := ⟨h11_⟩
    have n12_ : Aside0 (Below w.heap.size w w22) := ⟨h12_⟩
    clear BK366
    clear BK367
    clear BK368
    clear HB
    clear h0_ h1_ h2_ h3_ h4_ h5_ h6_ h7_ h8_ h9_ h10_ h11_ h12_
    have BK366 := n0_
    have BK367 := n1_
    have BK368 := n2_
    have BK373 := n3_
    have GW373 := n4_
    have GE373 := n5_
    have NB366_373 := n6_
    have NB373_366 := n7_
    have NB367_373 := n8_
    have NB373_367 := n9_
    have NB368_373 := n10_
    have NB373_368 := n11_
    have HB := n12_
    clear n0_ n1_ n2_ n3_ n4_ n5_ n6_ n7_ n8_ n9_ n10_ n11_ n12_
    have hHeld : w22.cell? ⟨gb366, 0, none⟩ = some (.bool a0_0) ∧ w22.cell? ⟨gb366, 1, none⟩ = some (.slice A0_1 l0_1.length c0_1) ∧ w22.cell? ⟨gb366, 2, none⟩ = some (.string a0_2) ∧ w22.cell? ⟨gb367, 0, none⟩ = some (.int .i64 a5_0) ∧ w22.cell? ⟨gb367, 1, none⟩ = some (.int .i64 a5_1) ∧ w22.cell? ⟨gb367, 2, none⟩ = some (.int .i64 a5_2) ∧ w22.cell? ⟨gb367, 3, none⟩ = some (.int .i64 a5_3) ∧ w22.cell? ⟨gb367, 4, none⟩ = some (.int .i64 a5_4) ∧ w22.cell? ⟨gb367, 5, none⟩ = some (.int .i64 a5_5) ∧ w22.cell? ⟨gb367, 6, none⟩ = some (.bool a5_6) := hS_
    refine norm_ (a' := ?_) ?_ ?_
    rotate_left
    · simp only [putAll, Act.put, List.setIfInBounds_toArray, List.set_cons_zero, List.set_cons_succ]
      rfl
    refine one_ (i := 20) (N := none) #[true, true, true, true, true, true, true, true, true, true, true, true, true, true, true, true, true, true, true, true, true] rfl rfl (one_of HT_.out (by kernel_rfl)) (by decide) (fun K hK => ?_)
    have hs23 : w22.cell? ⟨gb373, 0, none⟩ = some (.int .i64 0) := (blk_cell BK373.out 0).trans rfl
    have hfs23 := blk_frozen BK373.out 0
    have hns23_0 := NB366_373.out
    have hns23_1 := NB367_373.out
    have hns23_2 := NB368_373.out
    have hms23_0 := NB373_366.out
    have hms23_1 := NB373_367.out
    have hms23_2 := NB373_368.out
    have hs24 : w22.cell? ⟨gb373, 1, none⟩ = some (.int .i64 0) := (blk_cell BK373.out 1).trans rfl
    have hfs24 := blk_frozen BK373.out 1
    have hns24_0 := NB366_373.out
    have hns24_1 := NB367_373.out
    have hns24_2 := NB368_373.out
    have hms24_0 := NB373_366.out
    have hms24_1 := NB373_367.out
    have hms24_2 := NB373_368.out
    have hs25 : w22.cell? ⟨gb373, 2, none⟩ = some (.int .i64 0) := (blk_cell BK373.out 2).trans rfl
    have hfs25 := blk_frozen BK373.out 2
    have hns25_0 := NB366_373.out
    have hns25_1 := NB367_373.out
    have hns25_2 := NB368_373.out
    have hms25_0 := NB373_366.out
    have hms25_1 := NB373_367.out
    have hms25_2 := NB373_368.out
    have hs26 : w22.cell? ⟨gb373, 3, none⟩ = some (.int .i64 0) := (blk_cell BK373.out 3).trans rfl
    have hfs26 := blk_frozen BK373.out 3
    have hns26_0 := NB366_373.out
    have hns26_1 := NB367_373.out
    have hns26_2 := NB368_373.out
    have hms26_0 := NB373_366.out
    have hms26_1 := NB373_367.out
    have hms26_2 := NB373_368.out
    have hs27 : w22.cell? ⟨gb373, 4, none⟩ = some (.int .i64 0) := (blk_cell BK373.out 4).trans rfl
    have hfs27 := blk_frozen BK373.out 4
    have hns27_0 := NB366_373.out
    have hns27_1 := NB367_373.out
    have hns27_2 := NB368_373.out
    have hms27_0 := NB373_366.out
    have hms27_1 := NB373_367.out
    have hms27_2 := NB373_368.out
    have hs28 : w22.cell? ⟨gb373, 5, none⟩ = some (.int .i64 0) := (blk_cell BK373.out 5).trans rfl
    have hfs28 := blk_frozen BK373.out 5
    have hns28_0 := NB366_373.out
    have hns28_1 := NB367_373.out
    have hns28_2 := NB368_373.out
    have hms28_0 := NB373_366.out
    have hms28_1 := NB373_367.out
    have hms28_2 := NB373_368.out
    have hs29 : w22.cell? ⟨gb373, 6, none⟩ = some (.bool false) := (blk_cell BK373.out 6).trans rfl
    have hfs29 := blk_frozen BK373.out 6
    have hns29_0 := NB366_373.out
    have hns29_1 := NB367_373.out
    have hns29_2 := NB368_373.out
    have hms29_0 := NB373_366.out
    have hms29_1 := NB373_367.out
    have hms29_2 := NB373_368.out
    refine skip_ (w1 := ?_) (by rfl) rfl ?_ ?_
    rotate_left
    · go_simp
      rfl
    refine hK.out _ _ ⟨((cell_far (p := ⟨gb373, _, none⟩) NB366_373.out _).trans (((cell_far (p := ⟨gb373, _, none⟩) NB366_373.out _).trans (((cell_far (p := ⟨gb373, _, none⟩) NB366_373.out _).trans (((cell_far (p := ⟨gb373, _, none⟩) NB366_373.out _).trans (((cell_far (p := ⟨gb373, _, none⟩) NB366_373.out _).trans (((cell_far (p := ⟨gb373, _, none⟩) NB366_373.out _).trans (((cell_far (p := ⟨gb373, _, none⟩) NB366_373.out _).trans (hHeld.1)))))))))))))), ((cell_far (p := ⟨gb373, _, none⟩) NB366_373.out _).trans (((cell_far (p := ⟨gb373, _, none⟩) NB366_373.out _).trans (((cell_far (p := ⟨gb373, _, none⟩) NB366_373.out _).trans (((cell_far (p := ⟨gb373, _, none⟩) NB366_373.out _).trans (((cell_far (p := ⟨gb373, _, none⟩) NB366_373.out _).trans (((cell_far (p := ⟨gb373, _, none⟩) NB366_373.out _).trans (((cell_far (p := ⟨gb373, _, none⟩) NB366_373.out _).trans (hHeld.2.1)))))))))))))), ((cell_far (p := ⟨gb373, _, none⟩) NB366_373.out _).trans (((cell_far (p := ⟨gb373, _, none⟩) NB366_373.out _).trans (((cell_far (p := ⟨gb373, _, none⟩) NB366_373.out _).trans (((cell_far (p := ⟨gb373, _, none⟩) NB366_373.out _).trans (((cell_far (p := ⟨gb373, _, none⟩) NB366_373.out _).trans (((cell_far (p := ⟨gb373, _, none⟩) NB366_373.out _).trans (((cell_far (p := ⟨gb373, _, none⟩) NB366_373.out _).trans (hHeld.2.2.1)))))))))))))), ((cell_far (p := ⟨gb373, _, none⟩) NB367_373.out _).trans (((cell_far (p := ⟨gb373, _, none⟩) NB367_373.out _).trans (((cell_far (p := ⟨gb373, _, none⟩) NB367_373.out _).trans (((cell_far (p := ⟨gb373, _, none⟩) NB367_373.out _).trans (((cell_far (p := ⟨gb373, _, none⟩) NB367_373.out _).trans (((cell_far (p := ⟨gb373, _, none⟩) NB367_373.out _).trans (((cell_far (p := ⟨gb373, _, none⟩) NB367_373.out _).trans (hHeld.2.2.2.1)))))))))))))), ((cell_far (p := ⟨gb373, _, none⟩) NB367_373.out _).trans (((cell_far (p := ⟨gb373, _, none⟩) NB367_373.out _).trans (((cell_far (p := ⟨gb373, _, none⟩) NB367_373.out _).trans (((cell_far (p := ⟨gb373, _, none⟩) NB367_373.out _).trans (((cell_far (p := ⟨gb373, _, none⟩) NB367_373.out _).trans (((cell_far (p := ⟨gb373, _, none⟩) NB367_373.out _).trans (((cell_far (p := ⟨gb373, _, none⟩) NB367_373.out _).trans (hHeld.2.2.2.2.1)))))))))))))), ((cell_far (p := ⟨gb373, _, none⟩) NB367_373.out _).trans (((cell_far (p := ⟨gb373, _, none⟩) NB367_373.out _).trans (((cell_far (p := ⟨gb373, _, none⟩) NB367_373.out _).trans (((cell_far (p := ⟨gb373, _, none⟩) NB367_373.out _).trans (((cell_far (p := ⟨gb373, _, none⟩) NB367_373.out _).trans (((cell_far (p := ⟨gb373, _, none⟩) NB367_373.out _).trans (((cell_far (p := ⟨gb373, _, none⟩) NB367_373.out _).trans (hHeld.2.2.2.2.2.1)))))))))))))), ((cell_far (p := ⟨gb373, _, none⟩) NB367_373.out _).trans (((cell_far (p := ⟨gb373, _, none⟩) NB367_373.out _).trans (((cell_far (p := ⟨gb373, _, none⟩) NB367_373.out _).trans (((cell_far (p := ⟨gb373, _, none⟩) NB367_373.out _).trans (((cell_far (p := ⟨gb373, _, none⟩) NB367_373.out _).trans (((cell_far (p := ⟨gb373, _, none⟩) NB367_373.out _).trans (((cell_far (p := ⟨gb373, _, none⟩) NB367_373.out _).trans (hHeld.2.2.2.2.2.2.1)))))))))))))), ((cell_far (p := ⟨gb373, _, none⟩) NB367_373.out _).trans (((cell_far (p := ⟨gb373, _, none⟩) NB367_373.out _).trans (((cell_far (p := ⟨gb373, _, none⟩) NB367_373.out _).trans (((cell_far (p := ⟨gb373, _, none⟩) NB367_373.out _).trans (((cell_far (p := ⟨gb373, _, none⟩) NB367_373.out _).trans (((cell_far (p := ⟨gb373, _, none⟩) NB367_373.out _).trans (((cell_far (p := ⟨gb373, _, none⟩) NB367_373.out _).trans (hHeld.2.2.2.2.2.2.2.1)))))))))))))), ((cell_far (p := ⟨gb373, _, none⟩) NB367_373.out _).trans (((cell_far (p := ⟨gb373, _, none⟩) NB367_373.out _).trans (((cell_far (p := ⟨gb373, _, none⟩) NB367_373.out _).trans (((cell_far (p := ⟨gb373, _, none⟩) NB367_373.out _).trans (((cell_far (p := ⟨gb373, _, none⟩) NB367_373.out _).trans (((cell_far (p := ⟨gb373, _, none⟩) NB367_373.out _).trans (((cell_far (p := ⟨gb373, _, none⟩) NB367_373.out _).trans (hHeld.2.2.2.2.2.2.2.2.1)))))))))))))), ((cell_far (p := ⟨gb373, _, none⟩) NB367_373.out _).trans (((cell_far (p := ⟨gb373, _, none⟩) NB367_373.out _).trans (((cell_far (p := ⟨gb373, _, none⟩) NB367_373.out _).trans (((cell_far (p := ⟨gb373, _, none⟩) NB367_373.out _).trans (((cell_far (p := ⟨gb373, _, none⟩) NB367_373.out _).trans (((cell_far (p := ⟨gb373, _, none⟩) NB367_373.out _).trans (((cell_far (p := ⟨gb373, _, none⟩) NB367_373.out _).trans (hHeld.2.2.2.2.2.2.2.2.2))))))))))))))⟩ (fun hHeld => ?_)
    clear hK K
    refine done_ (done_of HT_.out (by kernel_rfl)) ?_
    have hnb30 := NB373_366.out
    have hnc30 := NB366_373.out
    have hnb31 := NB373_367.out
    have hnc31 := NB367_373.out
    have hnb32 := NB373_368.out
    have hnc32 := NB368_373.out
    have hcz33_0 : w22.cell? ⟨gb373, 0, none⟩ = some (.int .i64 0) := (blk_cell BK373.out 0).trans rfl
    have hcz33_1 : w22.cell? ⟨gb373, 1, none⟩ = some (.int .i64 0) := (blk_cell BK373.out 1).trans rfl
    have hcz33_2 : w22.cell? ⟨gb373, 2, none⟩ = some (.int .i64 0) := (blk_cell BK373.out 2).trans rfl
    have hcz33_3 : w22.cell? ⟨gb373, 3, none⟩ = some (.int .i64 0) := (blk_cell BK373.out 3).trans rfl
    have hcz33_4 : w22.cell? ⟨gb373, 4, none⟩ = some (.int .i64 0) := (blk_cell BK373.out 4).trans rfl
    have hcz33_5 : w22.cell? ⟨gb373, 5, none⟩ = some (.int .i64 0) := (blk_cell BK373.out 5).trans rfl
    have hcz33_6 : w22.cell? ⟨gb373, 6, none⟩ = some (.bool false) := (blk_cell BK373.out 6).trans rfl
    have hfz33_0 := blk_frozen BK373.out 0
    have hfz33_1 := blk_frozen BK373.out 1
    have hfz33_2 := blk_frozen BK373.out 2
    have hfz33_3 := blk_frozen BK373.out 3
    have hfz33_4 := blk_frozen BK373.out 4
    have hfz33_5 := blk_frozen BK373.out 5
    have hfz33_6 := blk_frozen BK373.out 6
    try go_wp2_with (first | ((with_reducible refine gate_callee (f := 13) rfl ?_); refine goesL_ (some 36) rfl rfl Try.func13 (by kernel_rfl) rfl #[.agg #[.int .i64 a1, .int .i64 t369, .int .i64 t370, .int .i64 t371, .int .i64 t372, .int .i64 a3, .bool a4]] rfl (by (try simp only [List.map_toArray, List.map_cons, List.map_nil]); first | done | rfl | (simp only [List.length_drop, List.length_take]; rfl)) ?_; (with_reducible refine (swarfref44_Valid.calls k a1 t369 t370 t371 t372 a3 a4 t374 _ A11.out).mono ?_); rintro e w34 ⟨rfl, hb⟩; refine ⟨_, rfl, ?_⟩; have n0_ := Aside0.mk (blk_below (g := gb366) (o := .cells #[.bool a0_0, .slice A0_1 l0_1.length c0_1, .string a0_2] 54 (0, 0)) (by (with_reducible repeat (first | refine blk_drewN ?_ _ | refine blk_drew ?_ | refine blk_alloc ?_ _)); refine blk_far ?_ NB366_373.out _; (with_reducible repeat (first | refine blk_drewN ?_ _ | refine blk_drew ?_ | refine blk_alloc ?_ _)); refine blk_far ?_ NB366_373.out _; (with_reducible repeat (first | refine blk_drewN ?_ _ | refine blk_drew ?_ | refine blk_alloc ?_ _)); refine blk_far ?_ NB366_373.out _; (with_reducible repeat (first | refine blk_drewN ?_ _ | refine blk_drew ?_ | refine blk_alloc ?_ _)); refine blk_far ?_ NB366_373.out _; (with_reducible repeat (first | refine blk_drewN ?_ _ | refine blk_drew ?_ | refine blk_alloc ?_ _)); refine blk_far ?_ NB366_373.out _; (with_reducible repeat (first | refine blk_drewN ?_ _ | refine blk_drew ?_ | refine blk_alloc ?_ _)); refine blk_far ?_ NB366_373.out _; (with_reducible repeat (first | refine blk_drewN ?_ _ | refine blk_drew ?_ | refine blk_alloc ?_ _)); refine blk_far ?_ NB366_373.out _; (with_reducible repeat (first | refine blk_drewN ?_ _ | refine blk_drew ?_ | refine blk_alloc ?_ _)); exact BK366.out) hb); have n1_ := Aside0.mk (blk_below (g := gb367) (o := .cells #[.int .i64 a5_0, .int .i64 a5_1, .int .i64 a5_2, .int .i64 a5_3, .int .i64 a5_4, .int .i64 a5_5, .bool a5_6] 23 (0, 0)) (by (with_reducible repeat (first | refine blk_drewN ?_ _ | refine blk_drew ?_ | refine blk_alloc ?_ _)); refine blk_far ?_ NB367_373.out _; (with_reducible repeat (first | refine blk_drewN ?_ _ | refine blk_drew ?_ | refine blk_alloc ?_ _)); refine blk_far ?_ NB367_373.out _; (with_reducible repeat (first | refine blk_drewN ?_ _ | refine blk_drew ?_ | refine blk_alloc ?_ _)); refine blk_far ?_ NB367_373.out _; (with_reducible repeat (first | refine blk_drewN ?_ _ | refine blk_drew ?_ | refine blk_alloc ?_ _)); refine blk_far ?_ NB367_373.out _; (with_reducible repeat (first | refine blk_drewN ?_ _ | refine blk_drew ?_ | refine blk_alloc ?_ _)); refine blk_far ?_ NB367_373.out _; (with_reducible repeat (first | refine blk_drewN ?_ _ | refine blk_drew ?_ | refine blk_alloc ?_ _)); refine blk_far ?_ NB367_373.out _; (with_reducible repeat (first | refine blk_drewN ?_ _ | refine blk_drew ?_ | refine blk_alloc ?_ _)); refine blk_far ?_ NB367_373.out _; (with_reducible repeat (first | refine blk_drewN ?_ _ | refine blk_drew ?_ | refine blk_alloc ?_ _)); exact BK367.out) hb); have n2_ := Aside0.mk (blk_below (g := gb368) (o := .cells #[.int .i64 0, .int .i64 0, .int .i64 0, .int .i64 0, .int .i64 0, .int .i64 0, .bool false] 23 (0, 0)) (by (with_reducible repeat (first | refine blk_drewN ?_ _ | refine blk_drew ?_ | refine blk_alloc ?_ _)); refine blk_far ?_ NB368_373.out _; (with_reducible repeat (first | refine blk_drewN ?_ _ | refine blk_drew ?_ | refine blk_alloc ?_ _)); refine blk_far ?_ NB368_373.out _; (with_reducible repeat (first | refine blk_drewN ?_ _ | refine blk_drew ?_ | refine blk_alloc ?_ _)); refine blk_far ?_ NB368_373.out _; (with_reducible repeat (first | refine blk_drewN ?_ _ | refine blk_drew ?_ | refine blk_alloc ?_ _)); refine blk_far ?_ NB368_373.out _; (with_reducible repeat (first | refine blk_drewN ?_ _ | refine blk_drew ?_ | refine blk_alloc ?_ _)); refine blk_far ?_ NB368_373.out _; (with_reducible repeat (first | refine blk_drewN ?_ _ | refine blk_drew ?_ | refine blk_alloc ?_ _)); refine blk_far ?_ NB368_373.out _; (with_reducible repeat (first | refine blk_drewN ?_ _ | refine blk_drew ?_ | refine blk_alloc ?_ _)); refine blk_far ?_ NB368_373.out _; (with_reducible repeat (first | refine blk_drewN ?_ _ | refine blk_drew ?_ | refine blk_alloc ?_ _)); exact BK368.out) hb); have n3_ := Aside0.mk (blk_below (g := gb373) (o := .cells #[.int .i64 a1, .int .i64 t369, .int .i64 t370, .int .i64 t371, .int .i64 t372, .int .i64 a3, .bool a4] 23 (0, 0)) (by (with_reducible repeat (first | refine blk_drewN ?_ _ | refine blk_drew ?_ | refine blk_alloc ?_ _)); refine blk_put (cs := #[.int .i64 a1, .int .i64 t369, .int .i64 t370, .int .i64 t371, .int .i64 t372, .int .i64 a3, .bool false]) ?_ 6 _ rfl; (with_reducible repeat (first | refine blk_drewN ?_ _ | refine blk_drew ?_ | refine blk_alloc ?_ _)); refine blk_put (cs := #[.int .i64 a1, .int .i64 t369, .int .i64 t370, .int .i64 t371, .int .i64 t372, .int .i64 0, .bool false]) ?_ 5 _ rfl; (with_reducible repeat (first | refine blk_drewN ?_ _ | refine blk_drew ?_ | refine blk_alloc ?_ _)); refine blk_put (cs := #[.int .i64 a1, .int .i64 t369, .int .i64 t370, .int .i64 t371, .int .i64 0, .int .i64 0, .bool false]) ?_ 4 _ rfl; (with_reducible repeat (first | refine blk_drewN ?_ _ | refine blk_drew ?_ | refine blk_alloc ?_ _)); refine blk_put (cs := #[.int .i64 a1, .int .i64 t369, .int .i64 t370, .int .i64 0, .int .i64 0, .int .i64 0, .bool false]) ?_ 3 _ rfl; (with_reducible repeat (first | refine blk_drewN ?_ _ | refine blk_drew ?_ | refine blk_alloc ?_ _)); refine blk_put (cs := #[.int .i64 a1, .int .i64 t369, .int .i64 0, .int .i64 0, .int .i64 0, .int .i64 0, .bool false]) ?_ 2 _ rfl; (with_reducible repeat (first | refine blk_drewN ?_ _ | refine blk_drew ?_ | refine blk_alloc ?_ _)); refine blk_put (cs := #[.int .i64 a1, .int .i64 0, .int .i64 0, .int .i64 0, .int .i64 0, .int .i64 0, .bool false]) ?_ 1 _ rfl; (with_reducible repeat (first | refine blk_drewN ?_ _ | refine blk_drew ?_ | refine blk_alloc ?_ _)); refine blk_put (cs := #[.int .i64 0, .int .i64 0, .int .i64 0, .int .i64 0, .int .i64 0, .int .i64 0, .bool false]) ?_ 0 _ rfl; (with_reducible repeat (first | refine blk_drewN ?_ _ | refine blk_drew ?_ | refine blk_alloc ?_ _)); exact BK373.out) hb); have n4_ := Aside0.mk (below_step (by repeat (first | (with_reducible first | exact HB.out | apply below_alloc | apply pw_below_drewN | apply below_drew1 | refine below_set ?_ GE366.out | refine below_set ?_ GE367.out | refine below_set ?_ GE368.out | refine below_set ?_ GE373.out) | exact HB.out)) hb); clear BK366; clear BK367; clear BK368; clear BK373; clear HB; have BK366 := n0_; have BK367 := n1_; have BK368 := n2_; have BK373 := n3_; have HB := n4_; clear n0_ n1_ n2_ n3_ n4_; (try clear hb); (try clear hb2); (try clear hk); (try clear hi); have hcz35_0 : w34.cell? ⟨gb373, 0, none⟩ = some (.int .i64 a1) := (blk_cell BK373.out 0).trans rfl; have hcz35_1 : w34.cell? ⟨gb373, 1, none⟩ = some (.int .i64 t369) := (blk_cell BK373.out 1).trans rfl; have hcz35_2 : w34.cell? ⟨gb373, 2, none⟩ = some (.int .i64 t370) := (blk_cell BK373.out 2).trans rfl; have hcz35_3 : w34.cell? ⟨gb373, 3, none⟩ = some (.int .i64 t371) := (blk_cell BK373.out 3).trans rfl; have hcz35_4 : w34.cell? ⟨gb373, 4, none⟩ = some (.int .i64 t372) := (blk_cell BK373.out 4).trans rfl; have hcz35_5 : w34.cell? ⟨gb373, 5, none⟩ = some (.int .i64 a3) := (blk_cell BK373.out 5).trans rfl; have hcz35_6 : w34.cell? ⟨gb373, 6, none⟩ = some (.bool a4) := (blk_cell BK373.out 6).trans rfl; have hfz35_0 := blk_frozen BK373.out 0; have hfz35_1 := blk_frozen BK373.out 1; have hfz35_2 := blk_frozen BK373.out 2; have hfz35_3 := blk_frozen BK373.out 3; have hfz35_4 := blk_frozen BK373.out 4; have hfz35_5 := blk_frozen BK373.out 5; have hfz35_6 := blk_frozen BK373.out 6; have hnb36 := NB368_366.out; have hnc36 := NB366_368.out; have hnb37 := NB368_367.out; have hnc37 := NB367_368.out; have hcz38_0 : w34.cell? ⟨gb368, 0, none⟩ = some (.int .i64 0) := (blk_cell BK368.out 0).trans rfl; have hcz38_1 : w34.cell? ⟨gb368, 1, none⟩ = some (.int .i64 0) := (blk_cell BK368.out 1).trans rfl; have hcz38_2 : w34.cell? ⟨gb368, 2, none⟩ = some (.int .i64 0) := (blk_cell BK368.out 2).trans rfl; have hcz38_3 : w34.cell? ⟨gb368, 3, none⟩ = some (.int .i64 0) := (blk_cell BK368.out 3).trans rfl; have hcz38_4 : w34.cell? ⟨gb368, 4, none⟩ = some (.int .i64 0) := (blk_cell BK368.out 4).trans rfl; have hcz38_5 : w34.cell? ⟨gb368, 5, none⟩ = some (.int .i64 0) := (blk_cell BK368.out 5).trans rfl; have hcz38_6 : w34.cell? ⟨gb368, 6, none⟩ = some (.bool false) := (blk_cell BK368.out 6).trans rfl; have hfz38_0 := blk_frozen BK368.out 0; have hfz38_1 := blk_frozen BK368.out 1; have hfz38_2 := blk_frozen BK368.out 2; have hfz38_3 := blk_frozen BK368.out 3; have hfz38_4 := blk_frozen BK368.out 4; have hfz38_5 := blk_frozen BK368.out 5; have hfz38_6 := blk_frozen BK368.out 6))
    refine bodyPost_ret (results_ct rfl _ _ gb368 23 #[.int .i64 a1, .int .i64 t369, .int .i64 t370, .int .i64 t371, .int .i64 t372, .int .i64 a3, .bool a4] (0, 0) _ rfl (by (with_reducible repeat (first | refine blk_drewN ?_ _ | refine blk_drew ?_ | refine blk_alloc ?_ _)); refine blk_put (cs := #[.int .i64 a1, .int .i64 t369, .int .i64 t370, .int .i64 t371, .int .i64 t372, .int .i64 a3, .bool false]) ?_ 6 _ rfl; (with_reducible repeat (first | refine blk_drewN ?_ _ | refine blk_drew ?_ | refine blk_alloc ?_ _)); refine blk_put (cs := #[.int .i64 a1, .int .i64 t369, .int .i64 t370, .int .i64 t371, .int .i64 t372, .int .i64 0, .bool false]) ?_ 5 _ rfl; (with_reducible repeat (first | refine blk_drewN ?_ _ | refine blk_drew ?_ | refine blk_alloc ?_ _)); refine blk_put (cs := #[.int .i64 a1, .int .i64 t369, .int .i64 t370, .int .i64 t371, .int .i64 0, .int .i64 0, .bool false]) ?_ 4 _ rfl; (with_reducible repeat (first | refine blk_drewN ?_ _ | refine blk_drew ?_ | refine blk_alloc ?_ _)); refine blk_put (cs := #[.int .i64 a1, .int .i64 t369, .int .i64 t370, .int .i64 0, .int .i64 0, .int .i64 0, .bool false]) ?_ 3 _ rfl; (with_reducible repeat (first | refine blk_drewN ?_ _ | refine blk_drew ?_ | refine blk_alloc ?_ _)); refine blk_put (cs := #[.int .i64 a1, .int .i64 t369, .int .i64 0, .int .i64 0, .int .i64 0, .int .i64 0, .bool false]) ?_ 2 _ rfl; (with_reducible repeat (first | refine blk_drewN ?_ _ | refine blk_drew ?_ | refine blk_alloc ?_ _)); refine blk_put (cs := #[.int .i64 a1, .int .i64 0, .int .i64 0, .int .i64 0, .int .i64 0, .int .i64 0, .bool false]) ?_ 1 _ rfl; (with_reducible repeat (first | refine blk_drewN ?_ _ | refine blk_drew ?_ | refine blk_alloc ?_ _)); refine blk_put (cs := #[.int .i64 0, .int .i64 0, .int .i64 0, .int .i64 0, .int .i64 0, .int .i64 0, .bool false]) ?_ 0 _ rfl; (with_reducible repeat (first | refine blk_drewN ?_ _ | refine blk_drew ?_ | refine blk_alloc ?_ _)); exact BK368.out) Try.underlying23 rfl (by kernel_rfl)) rfl ?_
    exact ⟨by first | rfl | (simp [errW_none, errW_some] <;> rfl) | (simp [*, errW_none, errW_some] <;> rfl), by repeat (first | (with_reducible first | exact HB.out | apply below_alloc | apply pw_below_drewN | apply below_drew1 | refine below_set ?_ GE366.out | refine below_set ?_ GE367.out | refine below_set ?_ GE368.out | refine below_set ?_ GE373.out) | exact HB.out)⟩
  · rw [if_neg c12] at H
    have c12b0 : (t374 == 0) = false := beq_eq_false_iff_ne.mpr c12
    have c12b1 : (t374 != 0) = true := bne_iff_ne.mpr c12
    simp only [Option.some.injEq, Prod.mk.injEq] at H
    obtain ⟨rfl, rfl, rfl, rfl, rfl, rfl, rfl, rfl⟩ := H
    go_enter Try.func21, Try.ntmps21
    try go_wp2_with (first | ((with_reducible refine gate_dst (N := 6) rfl ?_); refine box_event ?hg (N := 6) ?hd (cs := #[.bool a0_0, .slice A0_1 l0_1.length c0_1, .string a0_2]) (t := 54) ?hr ?_; (case hd => rfl); (case hg => rfl); (case hr => first | (go_simp; done) | (go_simp; rfl)); intro gb366 hg w39 hbox hb; have n0_ := Aside0.mk (below_step (by repeat (first | (with_reducible first | exact HB.out | apply below_alloc | apply pw_below_drewN | apply below_drew1) | exact HB.out)) hb); have n1_ := Aside0.mk (hbox); have n2_ := Aside0.mk ((by rw [hg]; exact (below_size (by repeat (first | (with_reducible first | exact HB.out | apply below_alloc | apply pw_below_drewN | apply below_drew1) | exact HB.out))) : w.heap.size ≤ gb366)); have n3_ := Aside0.mk ((by rw [hg]; exact (below_size (by repeat (first | (with_reducible first | exact HB.out | apply below_alloc | apply pw_below_drewN | apply below_drew1) | exact HB.out))) : w.heap.size ≤ gb366)); clear HB; have HB := n0_; have BK366 := n1_; have GW366 := n2_; have GE366 := n3_; clear n0_ n1_ n2_ n3_; clear hb hbox hg) | ((with_reducible refine gate_dst (N := 11) rfl ?_); refine box_event ?hg (N := 11) ?hd (cs := #[.int .i64 a5_0, .int .i64 a5_1, .int .i64 a5_2, .int .i64 a5_3, .int .i64 a5_4, .int .i64 a5_5, .bool a5_6]) (t := 23) ?hr ?_; (case hd => rfl); (case hg => rfl); (case hr => first | (go_simp; done) | (go_simp; rfl)); intro gb367 hg w40 hbox hb; have n0_ := Aside0.mk (blk_below (g := gb366) (o := .cells #[.bool a0_0, .slice A0_1 l0_1.length c0_1, .string a0_2] 54 (0, 0)) (by (with_reducible repeat (first | refine blk_drewN ?_ _ | refine blk_drew ?_ | refine blk_alloc ?_ _)); exact BK366.out) hb); have n1_ := Aside0.mk (below_step (by repeat (first | (with_reducible first | exact HB.out | apply below_alloc | apply pw_below_drewN | apply below_drew1 | refine below_set ?_ GE366.out) | exact HB.out)) hb); have n2_ := Aside0.mk (hbox); have n3_ := Aside0.mk ((by rw [hg]; exact (below_size (by repeat (first | (with_reducible first | exact HB.out | apply below_alloc | apply pw_below_drewN | apply below_drew1 | refine below_set ?_ GE366.out) | exact HB.out))) : w.heap.size ≤ gb367)); have n4_ := Aside0.mk ((by rw [hg]; exact (below_size (by repeat (first | (with_reducible first | exact HB.out | apply below_alloc | apply pw_below_drewN | apply below_drew1 | refine below_set ?_ GE366.out) | exact HB.out))) : w.heap.size ≤ gb367)); have n5_ := Aside0.mk ((by rw [hg]; exact Nat.ne_of_lt (blk_lt (g := gb366) (o := .cells #[.bool a0_0, .slice A0_1 l0_1.length c0_1, .string a0_2] 54 (0, 0)) (by (with_reducible repeat (first | refine blk_drewN ?_ _ | refine blk_drew ?_ | refine blk_alloc ?_ _)); exact BK366.out)) : gb366 ≠ gb367)); have n6_ := Aside0.mk ((by rw [hg]; exact Nat.ne_of_gt (blk_lt (g := gb366) (o := .cells #[.bool a0_0, .slice A0_1 l0_1.length c0_1, .string a0_2] 54 (0, 0)) (by (with_reducible repeat (first | refine blk_drewN ?_ _ | refine blk_drew ?_ | refine blk_alloc ?_ _)); exact BK366.out)) : gb367 ≠ gb366)); clear BK366; clear HB; have BK366 := n0_; have HB := n1_; have BK367 := n2_; have GW367 := n3_; have GE367 := n4_; have NB366_367 := n5_; have NB367_366 := n6_; clear n0_ n1_ n2_ n3_ n4_ n5_ n6_; clear hb hbox hg) | ((with_reducible refine gate_dst (N := 12) rfl ?_); refine box_event ?hg (N := 12) ?hd (cs := #[.int .i64 0, .int .i64 0, .int .i64 0, .int .i64 0, .int .i64 0, .int .i64 0, .bool false]) (t := 23) ?hr ?_; (case hd => rfl); (case hg => rfl); (case hr => first | (go_simp; done) | (go_simp; rfl)); intro gb368 hg w41 hbox hb; have n0_ := Aside0.mk (blk_below (g := gb366) (o := .cells #[.bool a0_0, .slice A0_1 l0_1.length c0_1, .string a0_2] 54 (0, 0)) (by (with_reducible repeat (first | refine blk_drewN ?_ _ | refine blk_drew ?_ | refine blk_alloc ?_ _)); exact BK366.out) hb); have n1_ := Aside0.mk (blk_below (g := gb367) (o := .cells #[.int .i64 a5_0, .int .i64 a5_1, .int .i64 a5_2, .int .i64 a5_3, .int .i64 a5_4, .int .i64 a5_5, .bool a5_6] 23 (0, 0)) (by (with_reducible repeat (first | refine blk_drewN ?_ _ | refine blk_drew ?_ | refine blk_alloc ?_ _)); exact BK367.out) hb); have n2_ := Aside0.mk (below_step (by repeat (first | (with_reducible first | exact HB.out | apply below_alloc | apply pw_below_drewN | apply below_drew1 | refine below_set ?_ GE366.out | refine below_set ?_ GE367.out) | exact HB.out)) hb); have n3_ := Aside0.mk (hbox); have n4_ := Aside0.mk ((by rw [hg]; exact (below_size (by repeat (first | (with_reducible first | exact HB.out | apply below_alloc | apply pw_below_drewN | apply below_drew1 | refine below_set ?_ GE366.out | refine below_set ?_ GE367.out) | exact HB.out))) : w.heap.size ≤ gb368)); have n5_ := Aside0.mk ((by rw [hg]; exact (below_size (by repeat (first | (with_reducible first | exact HB.out | apply below_alloc | apply pw_below_drewN | apply below_drew1 | refine below_set ?_ GE366.out | refine below_set ?_ GE367.out) | exact HB.out))) : w.heap.size ≤ gb368)); have n6_ := Aside0.mk ((by rw [hg]; exact Nat.ne_of_lt (blk_lt (g := gb366) (o := .cells #[.bool a0_0, .slice A0_1 l0_1.length c0_1, .string a0_2] 54 (0, 0)) (by (with_reducible repeat (first | refine blk_drewN ?_ _ | refine blk_drew ?_ | refine blk_alloc ?_ _)); exact BK366.out)) : gb366 ≠ gb368)); have n7_ := Aside0.mk ((by rw [hg]; exact Nat.ne_of_gt (blk_lt (g := gb366) (o := .cells #[.bool a0_0, .slice A0_1 l0_1.length c0_1, .string a0_2] 54 (0, 0)) (by (with_reducible repeat (first | refine blk_drewN ?_ _ | refine blk_drew ?_ | refine blk_alloc ?_ _)); exact BK366.out)) : gb368 ≠ gb366)); have n8_ := Aside0.mk ((by rw [hg]; exact Nat.ne_of_lt (blk_lt (g := gb367) (o := .cells #[.int .i64 a5_0, .int .i64 a5_1, .int .i64 a5_2, .int .i64 a5_3, .int .i64 a5_4, .int .i64 a5_5, .bool a5_6] 23 (0, 0)) (by (with_reducible repeat (first | refine blk_drewN ?_ _ | refine blk_drew ?_ | refine blk_alloc ?_ _)); exact BK367.out)) : gb367 ≠ gb368)); have n9_ := Aside0.mk ((by rw [hg]; exact Nat.ne_of_gt (blk_lt (g := gb367) (o := .cells #[.int .i64 a5_0, .int .i64 a5_1, .int .i64 a5_2, .int .i64 a5_3, .int .i64 a5_4, .int .i64 a5_5, .bool a5_6] 23 (0, 0)) (by (with_reducible repeat (first | refine blk_drewN ?_ _ | refine blk_drew ?_ | refine blk_alloc ?_ _)); exact BK367.out)) : gb368 ≠ gb367)); clear BK366; clear BK367; clear HB; have BK366 := n0_; have BK367 := n1_; have HB := n2_; have BK368 := n3_; have GW368 := n4_; have GE368 := n5_; have NB366_368 := n6_; have NB368_366 := n7_; have NB367_368 := n8_; have NB368_367 := n9_; clear n0_ n1_ n2_ n3_ n4_ n5_ n6_ n7_ n8_ n9_; clear hb hbox hg))
    have n0_ := Aside0.mk (blk_drew BK366.out)
    have n1_ := Aside0.mk (blk_drew BK367.out)
    have n2_ := Aside0.mk (blk_drew BK368.out)
    have n3_ := Aside0.mk (below_drew1 HB.out)
    clear BK366
    clear BK367
    clear BK368
    clear HB
    have BK366 := n0_
    have BK367 := n1_
    have BK368 := n2_
    have HB := n3_
    clear n0_ n1_ n2_ n3_
    refine start_ (n := 21) (S := fun w' => w'.cell? ⟨gb366, 0, none⟩ = some (.bool a0_0) ∧ w'.cell? ⟨gb366, 1, none⟩ = some (.slice A0_1 l0_1.length c0_1) ∧ w'.cell? ⟨gb366, 2, none⟩ = some (.string a0_2) ∧ w'.cell? ⟨gb367, 0, none⟩ = some (.int .i64 a5_0) ∧ w'.cell? ⟨gb367, 1, none⟩ = some (.int .i64 a5_1) ∧ w'.cell? ⟨gb367, 2, none⟩ = some (.int .i64 a5_2) ∧ w'.cell? ⟨gb367, 3, none⟩ = some (.int .i64 a5_3) ∧ w'.cell? ⟨gb367, 4, none⟩ = some (.int .i64 a5_4) ∧ w'.cell? ⟨gb367, 5, none⟩ = some (.int .i64 a5_5) ∧ w'.cell? ⟨gb367, 6, none⟩ = some (.bool a5_6)) (ds := []) #[false, false, false, false, false, false, false, false, false, false, false, false, false, false, false, false, false, false, false, false, false] (by kernel_rfl) rfl rfl ⟨(blk_cell BK366.out 0).trans rfl, (blk_cell BK366.out 1).trans rfl, (blk_cell BK366.out 2).trans rfl, (blk_cell BK367.out 0).trans rfl, (blk_cell BK367.out 1).trans rfl, (blk_cell BK367.out 2).trans rfl, (blk_cell BK367.out 3).trans rfl, (blk_cell BK367.out 4).trans rfl, (blk_cell BK367.out 5).trans rfl, (blk_cell BK367.out 6).trans rfl⟩ (fun hHeld => ?_); refine with_tabW swarfref44_Read.tab1 swarfref44_Read.bits1 (fun HT_ HW_ => ?_)
    generalize w41.drew = w42 at BK366 BK367 BK368 HB hHeld ⊢
    refine pure_ (i := 0) (N := some 16) (v := ?_) (a' := ?_) #[true, false, false, false, false, false, false, false, false, false, false, false, false, false, false, false, false, false, false, false, false] rfl rfl (any_of HT_.out (by kernel_rfl)) (fun _ _ _ h => h) (Or.inl ⟨by rfl, ?_⟩) ?_ ?_
    rotate_left
    · intro w'
      go_simp
      with_reducible rfl
    rotate_left
    · simp only [Act.put, List.setIfInBounds_toArray, List.set_cons_zero, List.set_cons_succ, i64_w, i32_w]
      rfl
    refine pure_ (i := 2) (N := some 18) (v := ?_) (a' := ?_) #[true, false, true, false, false, false, false, false, false, false, false, false, false, false, false, false, false, false, false, false, false] rfl rfl (any_of HT_.out (by kernel_rfl)) (fun _ _ _ h => h) (Or.inl ⟨by rfl, ?_⟩) ?_ ?_
    rotate_left
    · intro w'
      go_simp
      with_reducible rfl
    rotate_left
    · simp only [Act.put, List.setIfInBounds_toArray, List.set_cons_zero, List.set_cons_succ, i64_w, i32_w]
      rfl
    refine pure_ (i := 6) (N := some 22) (v := ?_) (a' := ?_) #[true, false, true, false, false, false, true, false, false, false, false, false, false, false, false, false, false, false, false, false, false] rfl rfl (any_of HT_.out (by kernel_rfl)) (fun _ _ _ h => h) (Or.inl ⟨by rfl, ?_⟩) ?_ ?_
    rotate_left
    · intro w'
      go_simp
      with_reducible rfl
    rotate_left
    · simp only [Act.put, List.setIfInBounds_toArray, List.set_cons_zero, List.set_cons_succ, i64_w, i32_w]
      rfl
    refine pure_ (i := 10) (N := some 26) (v := ?_) (a' := ?_) #[true, false, true, false, false, false, true, false, false, false, true, false, false, false, false, false, false, false, false, false, false] rfl rfl (any_of HT_.out (by kernel_rfl)) (fun _ _ _ h => h) (Or.inl ⟨by rfl, ?_⟩) ?_ ?_
    rotate_left
    · intro w'
      go_simp
      with_reducible rfl
    rotate_left
    · simp only [Act.put, List.setIfInBounds_toArray, List.set_cons_zero, List.set_cons_succ, i64_w, i32_w]
      rfl
    refine pure_ (i := 14) (N := some 30) (v := ?_) (a' := ?_) #[true, false, true, false, false, false, true, false, false, false, true, false, false, false, true, false, false, false, false, false, false] rfl rfl (any_of HT_.out (by kernel_rfl)) (fun _ _ _ h => h) (Or.inl ⟨by rfl, ?_⟩) ?_ ?_
    rotate_left
    · intro w'
      go_simp
      with_reducible rfl
    rotate_left
    · simp only [Act.put, List.setIfInBounds_toArray, List.set_cons_zero, List.set_cons_succ, i64_w, i32_w]
      rfl
    refine pure_ (i := 16) (N := some 32) (v := ?_) (a' := ?_) #[true, false, true, false, false, false, true, false, false, false, true, false, false, false, true, false, true, false, false, false, false] rfl rfl (any_of HT_.out (by kernel_rfl)) (fun _ _ _ h => h) (Or.inl ⟨by rfl, ?_⟩) ?_ ?_
    rotate_left
    · intro w'
      go_simp
      with_reducible rfl
    rotate_left
    · simp only [Act.put, List.setIfInBounds_toArray, List.set_cons_zero, List.set_cons_succ, i64_w, i32_w]
      rfl
    refine pure_ (i := 17) (N := some 33) (v := ?_) (a' := ?_) #[true, false, true, false, false, false, true, false, false, false, true, false, false, false, true, false, true, true, false, false, false] rfl rfl (any_of HT_.out (by kernel_rfl)) (fun _ _ _ h => h) (Or.inl ⟨by rfl, ?_⟩) ?_ ?_
    rotate_left
    · intro w'
      go_simp
      with_reducible rfl
    rotate_left
    · simp only [Act.put, List.setIfInBounds_toArray, List.set_cons_zero, List.set_cons_succ, i64_w, i32_w]
      rfl
    refine take_ (i := 1) (N := some 17) (v := ?_) (a' := ?_) #[true, true, true, false, false, false, true, false, false, false, true, false, false, false, true, false, true, true, false, false, false] rfl rfl (take_ofW HT_.out HW_.out (by kernel_rfl)) (fun _ _ _ h => h) (Or.inl ⟨by rfl, ?_⟩) hHeld ?_ ?_
    rotate_left
    · rintro w' ⟨s0, s1, s2, s3, s4, s5, s6, s7, s8, s9⟩
      go_simp
      with_reducible rfl
    rotate_left
    · simp only [Act.put, List.setIfInBounds_toArray, List.set_cons_zero, List.set_cons_succ, i64_w, i32_w]
      rfl
    refine take_ (i := 3) (N := some 19) (v := ?_) (a' := ?_) #[true, true, true, true, false, false, true, false, false, false, true, false, false, false, true, false, true, true, false, false, false] rfl rfl (take_ofW HT_.out HW_.out (by kernel_rfl)) (fun _ _ _ h => h) (Or.inl ⟨by rfl, ?_⟩) hHeld ?_ ?_
    rotate_left
    · rintro w' ⟨s0, s1, s2, s3, s4, s5, s6, s7, s8, s9⟩
      go_simp
      with_reducible rfl
    rotate_left
    · simp only [Act.put, List.setIfInBounds_toArray, List.set_cons_zero, List.set_cons_succ, i64_w, i32_w]
      rfl
    refine take_ (i := 5) (N := some 21) (v := ?_) (a' := ?_) #[true, true, true, true, false, true, true, false, false, false, true, false, false, false, true, false, true, true, false, false, false] rfl rfl (take_ofW HT_.out HW_.out (by kernel_rfl)) (fun _ _ _ h => h) (Or.inl ⟨by rfl, ?_⟩) hHeld ?_ ?_
    rotate_left
    · rintro w' ⟨s0, s1, s2, s3, s4, s5, s6, s7, s8, s9⟩
      go_simp
      with_reducible rfl
    rotate_left
    · simp only [Act.put, List.setIfInBounds_toArray, List.set_cons_zero, List.set_cons_succ, i64_w, i32_w]
      rfl
    refine take_ (i := 7) (N := some 23) (v := ?_) (a' := ?_) #[true, true, true, true, false, true, true, true, false, false, true, false, false, false, true, false, true, true, false, false, false] rfl rfl (take_ofW HT_.out HW_.out (by kernel_rfl)) (fun _ _ _ h => h) (Or.inl ⟨by rfl, ?_⟩) hHeld ?_ ?_
    rotate_left
    · rintro w' ⟨s0, s1, s2, s3, s4, s5, s6, s7, s8, s9⟩
      go_simp
      with_reducible rfl
    rotate_left
    · simp only [Act.put, List.setIfInBounds_toArray, List.set_cons_zero, List.set_cons_succ, i64_w, i32_w]
      rfl
    refine take_ (i := 9) (N := some 25) (v := ?_) (a' := ?_) #[true, true, true, true, false, true, true, true, false, true, true, false, false, false, true, false, true, true, false, false, false] rfl rfl (take_ofW HT_.out HW_.out (by kernel_rfl)) (fun _ _ _ h => h) (Or.inl ⟨by rfl, ?_⟩) hHeld ?_ ?_
    rotate_left
    · rintro w' ⟨s0, s1, s2, s3, s4, s5, s6, s7, s8, s9⟩
      go_simp
      with_reducible rfl
    rotate_left
    · simp only [Act.put, List.setIfInBounds_toArray, List.set_cons_zero, List.set_cons_succ, i64_w, i32_w]
      rfl
    refine take_ (i := 11) (N := some 27) (v := ?_) (a' := ?_) #[true, true, true, true, false, true, true, true, false, true, true, true, false, false, true, false, true, true, false, false, false] rfl rfl (take_ofW HT_.out HW_.out (by kernel_rfl)) (fun _ _ _ h => h) (Or.inl ⟨by rfl, ?_⟩) hHeld ?_ ?_
    rotate_left
    · rintro w' ⟨s0, s1, s2, s3, s4, s5, s6, s7, s8, s9⟩
      go_simp
      with_reducible rfl
    rotate_left
    · simp only [Act.put, List.setIfInBounds_toArray, List.set_cons_zero, List.set_cons_succ, i64_w, i32_w]
      rfl
    refine take_ (i := 13) (N := some 29) (v := ?_) (a' := ?_) #[true, true, true, true, false, true, true, true, false, true, true, true, false, true, true, false, true, true, false, false, false] rfl rfl (take_ofW HT_.out HW_.out (by kernel_rfl)) (fun _ _ _ h => h) (Or.inl ⟨by rfl, ?_⟩) hHeld ?_ ?_
    rotate_left
    · rintro w' ⟨s0, s1, s2, s3, s4, s5, s6, s7, s8, s9⟩
      go_simp
      with_reducible rfl
    rotate_left
    · simp only [Act.put, List.setIfInBounds_toArray, List.set_cons_zero, List.set_cons_succ, i64_w, i32_w]
      rfl
    refine join_ (σ := Nat) 1 #[true, true, true, true, true, true, true, true, true, true, true, true, true, true, true, true, true, true, true, true, false] (fun s_ => [(20, .int .i64 t369), (24, .int .i64 t370), (28, .int .i64 t371), (31, .int .i64 t372), (14, .pointer (some ⟨s_, 0, none⟩)), (34, .agg #[.int .i64 a1, .int .i64 t369, .int .i64 t370, .int .i64 t371, .int .i64 t372, .int .i64 a3, .bool a4])]) (fun s_ w' => (w'.cell? ⟨gb366, 0, none⟩ = some (.bool a0_0) ∧ w'.cell? ⟨gb366, 1, none⟩ = some (.slice A0_1 l0_1.length c0_1) ∧ w'.cell? ⟨gb366, 2, none⟩ = some (.string a0_2) ∧ w'.cell? ⟨gb367, 0, none⟩ = some (.int .i64 a5_0) ∧ w'.cell? ⟨gb367, 1, none⟩ = some (.int .i64 a5_1) ∧ w'.cell? ⟨gb367, 2, none⟩ = some (.int .i64 a5_2) ∧ w'.cell? ⟨gb367, 3, none⟩ = some (.int .i64 a5_3) ∧ w'.cell? ⟨gb367, 4, none⟩ = some (.int .i64 a5_4) ∧ w'.cell? ⟨gb367, 5, none⟩ = some (.int .i64 a5_5) ∧ w'.cell? ⟨gb367, 6, none⟩ = some (.bool a5_6)) ∧ (w'.heap[gb366]? = some (.cells #[.bool a0_0, .slice A0_1 l0_1.length c0_1, .string a0_2] 54 (0, 0))) ∧ (w'.heap[gb367]? = some (.cells #[.int .i64 a5_0, .int .i64 a5_1, .int .i64 a5_2, .int .i64 a5_3, .int .i64 a5_4, .int .i64 a5_5, .bool a5_6] 23 (0, 0))) ∧ (w'.heap[gb368]? = some (.cells #[.int .i64 0, .int .i64 0, .int .i64 0, .int .i64 0, .int .i64 0, .int .i64 0, .bool false] 23 (0, 0))) ∧ (w'.heap[s_]? = some (.cells #[.int .i64 0, .int .i64 0, .int .i64 0, .int .i64 0, .int .i64 0, .int .i64 0, .bool false] 23 (0, 0))) ∧ (w.heap.size ≤ s_) ∧ (w.heap.size ≤ s_) ∧ (gb366 ≠ s_) ∧ (s_ ≠ gb366) ∧ (gb367 ≠ s_) ∧ (s_ ≠ gb367) ∧ (gb368 ≠ s_) ∧ (s_ ≠ gb368) ∧ (Below w.heap.size w w')) ?_ ?_
    rotate_left
    · intro hJ4_8_12_15_19
      refine join_ (σ := Unit) 2 #[true, true, true, true, true, true, true, true, true, true, true, true, true, true, true, true, true, true, true, false, false] (fun s_ => [(20, .int .i64 t369), (24, .int .i64 t370), (28, .int .i64 t371), (31, .int .i64 t372), (34, .agg #[.int .i64 a1, .int .i64 t369, .int .i64 t370, .int .i64 t371, .int .i64 t372, .int .i64 a3, .bool a4])]) (fun s_ w' => (w'.cell? ⟨gb366, 0, none⟩ = some (.bool a0_0) ∧ w'.cell? ⟨gb366, 1, none⟩ = some (.slice A0_1 l0_1.length c0_1) ∧ w'.cell? ⟨gb366, 2, none⟩ = some (.string a0_2) ∧ w'.cell? ⟨gb367, 0, none⟩ = some (.int .i64 a5_0) ∧ w'.cell? ⟨gb367, 1, none⟩ = some (.int .i64 a5_1) ∧ w'.cell? ⟨gb367, 2, none⟩ = some (.int .i64 a5_2) ∧ w'.cell? ⟨gb367, 3, none⟩ = some (.int .i64 a5_3) ∧ w'.cell? ⟨gb367, 4, none⟩ = some (.int .i64 a5_4) ∧ w'.cell? ⟨gb367, 5, none⟩ = some (.int .i64 a5_5) ∧ w'.cell? ⟨gb367, 6, none⟩ = some (.bool a5_6)) ∧ (w'.heap[gb366]? = some (.cells #[.bool a0_0, .slice A0_1 l0_1.length c0_1, .string a0_2] 54 (0, 0))) ∧ (w'.heap[gb367]? = some (.cells #[.int .i64 a5_0, .int .i64 a5_1, .int .i64 a5_2, .int .i64 a5_3, .int .i64 a5_4, .int .i64 a5_5, .bool a5_6] 23 (0, 0))) ∧ (w'.heap[gb368]? = some (.cells #[.int .i64 0, .int .i64 0, .int .i64 0, .int .i64 0, .int .i64 0, .int .i64 0, .bool false] 23 (0, 0))) ∧ (Below w.heap.size w w')) ?_ ?_
      rotate_left
      · intro hJ4_8_12_15
        refine join_ (σ := Nat) 3 #[true, true, true, true, true, true, true, true, true, true, true, true, true, true, true, false, true, true, false, true, false] (fun s_ => [(20, .int .i64 t369), (24, .int .i64 t370), (28, .int .i64 t371), (14, .pointer (some ⟨s_, 0, none⟩))]) (fun s_ w' => (w'.cell? ⟨gb366, 0, none⟩ = some (.bool a0_0) ∧ w'.cell? ⟨gb366, 1, none⟩ = some (.slice A0_1 l0_1.length c0_1) ∧ w'.cell? ⟨gb366, 2, none⟩ = some (.string a0_2) ∧ w'.cell? ⟨gb367, 0, none⟩ = some (.int .i64 a5_0) ∧ w'.cell? ⟨gb367, 1, none⟩ = some (.int .i64 a5_1) ∧ w'.cell? ⟨gb367, 2, none⟩ = some (.int .i64 a5_2) ∧ w'.cell? ⟨gb367, 3, none⟩ = some (.int .i64 a5_3) ∧ w'.cell? ⟨gb367, 4, none⟩ = some (.int .i64 a5_4) ∧ w'.cell? ⟨gb367, 5, none⟩ = some (.int .i64 a5_5) ∧ w'.cell? ⟨gb367, 6, none⟩ = some (.bool a5_6)) ∧ (w'.heap[gb366]? = some (.cells #[.bool a0_0, .slice A0_1 l0_1.length c0_1, .string a0_2] 54 (0, 0))) ∧ (w'.heap[gb367]? = some (.cells #[.int .i64 a5_0, .int .i64 a5_1, .int .i64 a5_2, .int .i64 a5_3, .int .i64 a5_4, .int .i64 a5_5, .bool a5_6] 23 (0, 0))) ∧ (w'.heap[gb368]? = some (.cells #[.int .i64 0, .int .i64 0, .int .i64 0, .int .i64 0, .int .i64 0, .int .i64 0, .bool false] 23 (0, 0))) ∧ (w'.heap[s_]? = some (.cells #[.int .i64 0, .int .i64 0, .int .i64 0, .int .i64 0, .int .i64 0, .int .i64 0, .bool false] 23 (0, 0))) ∧ (w.heap.size ≤ s_) ∧ (w.heap.size ≤ s_) ∧ (gb366 ≠ s_) ∧ (s_ ≠ gb366) ∧ (gb367 ≠ s_) ∧ (s_ ≠ gb367) ∧ (gb368 ≠ s_) ∧ (s_ ≠ gb368) ∧ (Below w.heap.size w w')) ?_ ?_
        rotate_left
        · intro hJ4_8_12_19
          refine join_ (σ := Unit) 4 #[true, true, true, true, true, true, true, true, true, true, true, true, true, true, true, false, true, true, false, false, false] (fun s_ => [(20, .int .i64 t369), (24, .int .i64 t370), (28, .int .i64 t371)]) (fun s_ w' => (w'.cell? ⟨gb366, 0, none⟩ = some (.bool a0_0) ∧ w'.cell? ⟨gb366, 1, none⟩ = some (.slice A0_1 l0_1.length c0_1) ∧ w'.cell? ⟨gb366, 2, none⟩ = some (.string a0_2) ∧ w'.cell? ⟨gb367, 0, none⟩ = some (.int .i64 a5_0) ∧ w'.cell? ⟨gb367, 1, none⟩ = some (.int .i64 a5_1) ∧ w'.cell? ⟨gb367, 2, none⟩ = some (.int .i64 a5_2) ∧ w'.cell? ⟨gb367, 3, none⟩ = some (.int .i64 a5_3) ∧ w'.cell? ⟨gb367, 4, none⟩ = some (.int .i64 a5_4) ∧ w'.cell? ⟨gb367, 5, none⟩ = some (.int .i64 a5_5) ∧ w'.cell? ⟨gb367, 6, none⟩ = some (.bool a5_6)) ∧ (w'.heap[gb366]? = some (.cells #[.bool a0_0, .slice A0_1 l0_1.length c0_1, .string a0_2] 54 (0, 0))) ∧ (w'.heap[gb367]? = some (.cells #[.int .i64 a5_0, .int .i64 a5_1, .int .i64 a5_2, .int .i64 a5_3, .int .i64 a5_4, .int .i64 a5_5, .bool a5_6] 23 (0, 0))) ∧ (w'.heap[gb368]? = some (.cells #[.int .i64 0, .int .i64 0, .int .i64 0, .int .i64 0, .int .i64 0, .int .i64 0, .bool false] 23 (0, 0))) ∧ (Below w.heap.size w w')) ?_ ?_
          rotate_left
          · intro hJ4_8_12
            refine join_ (σ := Nat) 4 #[true, true, true, true, true, true, true, true, true, true, true, true, false, true, true, false, true, true, false, true, false] (fun s_ => [(20, .int .i64 t369), (24, .int .i64 t370), (14, .pointer (some ⟨s_, 0, none⟩))]) (fun s_ w' => (w'.cell? ⟨gb366, 0, none⟩ = some (.bool a0_0) ∧ w'.cell? ⟨gb366, 1, none⟩ = some (.slice A0_1 l0_1.length c0_1) ∧ w'.cell? ⟨gb366, 2, none⟩ = some (.string a0_2) ∧ w'.cell? ⟨gb367, 0, none⟩ = some (.int .i64 a5_0) ∧ w'.cell? ⟨gb367, 1, none⟩ = some (.int .i64 a5_1) ∧ w'.cell? ⟨gb367, 2, none⟩ = some (.int .i64 a5_2) ∧ w'.cell? ⟨gb367, 3, none⟩ = some (.int .i64 a5_3) ∧ w'.cell? ⟨gb367, 4, none⟩ = some (.int .i64 a5_4) ∧ w'.cell? ⟨gb367, 5, none⟩ = some (.int .i64 a5_5) ∧ w'.cell? ⟨gb367, 6, none⟩ = some (.bool a5_6)) ∧ (w'.heap[gb366]? = some (.cells #[.bool a0_0, .slice A0_1 l0_1.length c0_1, .string a0_2] 54 (0, 0))) ∧ (w'.heap[gb367]? = some (.cells #[.int .i64 a5_0, .int .i64 a5_1, .int .i64 a5_2, .int .i64 a5_3, .int .i64 a5_4, .int .i64 a5_5, .bool a5_6] 23 (0, 0))) ∧ (w'.heap[gb368]? = some (.cells #[.int .i64 0, .int .i64 0, .int .i64 0, .int .i64 0, .int .i64 0, .int .i64 0, .bool false] 23 (0, 0))) ∧ (w'.heap[s_]? = some (.cells #[.int .i64 0, .int .i64 0, .int .i64 0, .int .i64 0, .int .i64 0, .int .i64 0, .bool false] 23 (0, 0))) ∧ (w.heap.size ≤ s_) ∧ (w.heap.size ≤ s_) ∧ (gb366 ≠ s_) ∧ (s_ ≠ gb366) ∧ (gb367 ≠ s_) ∧ (s_ ≠ gb367) ∧ (gb368 ≠ s_) ∧ (s_ ≠ gb368) ∧ (Below w.heap.size w w')) ?_ ?_
            rotate_left
            · intro hJ4_8_19
              refine join_ (σ := Unit) 5 #[true, true, true, true, true, true, true, true, true, true, true, true, false, true, true, false, true, true, false, false, false] (fun s_ => [(20, .int .i64 t369), (24, .int .i64 t370)]) (fun s_ w' => (w'.cell? ⟨gb366, 0, none⟩ = some (.bool a0_0) ∧ w'.cell? ⟨gb366, 1, none⟩ = some (.slice A0_1 l0_1.length c0_1) ∧ w'.cell? ⟨gb366, 2, none⟩ = some (.string a0_2) ∧ w'.cell? ⟨gb367, 0, none⟩ = some (.int .i64 a5_0) ∧ w'.cell? ⟨gb367, 1, none⟩ = some (.int .i64 a5_1) ∧ w'.cell? ⟨gb367, 2, none⟩ = some (.int .i64 a5_2) ∧ w'.cell? ⟨gb367, 3, none⟩ = some (.int .i64 a5_3) ∧ w'.cell? ⟨gb367, 4, none⟩ = some (.int .i64 a5_4) ∧ w'.cell? ⟨gb367, 5, none⟩ = some (.int .i64 a5_5) ∧ w'.cell? ⟨gb367, 6, none⟩ = some (.bool a5_6)) ∧ (w'.heap[gb366]? = some (.cells #[.bool a0_0, .slice A0_1 l0_1.length c0_1, .string a0_2] 54 (0, 0))) ∧ (w'.heap[gb367]? = some (.cells #[.int .i64 a5_0, .int .i64 a5_1, .int .i64 a5_2, .int .i64 a5_3, .int .i64 a5_4, .int .i64 a5_5, .bool a5_6] 23 (0, 0))) ∧ (w'.heap[gb368]? = some (.cells #[.int .i64 0, .int .i64 0, .int .i64 0, .int .i64 0, .int .i64 0, .int .i64 0, .bool false] 23 (0, 0))) ∧ (Below w.heap.size w w')) ?_ ?_
              rotate_left
              · intro hJ4_8
                refine join_ (σ := Nat) 5 #[true, true, true, true, true, true, true, true, false, true, true, true, false, true, true, false, true, true, false, true, false] (fun s_ => [(20, .int .i64 t369), (14, .pointer (some ⟨s_, 0, none⟩))]) (fun s_ w' => (w'.cell? ⟨gb366, 0, none⟩ = some (.bool a0_0) ∧ w'.cell? ⟨gb366, 1, none⟩ = some (.slice A0_1 l0_1.length c0_1) ∧ w'.cell? ⟨gb366, 2, none⟩ = some (.string a0_2) ∧ w'.cell? ⟨gb367, 0, none⟩ = some (.int .i64 a5_0) ∧ w'.cell? ⟨gb367, 1, none⟩ = some (.int .i64 a5_1) ∧ w'.cell? ⟨gb367, 2, none⟩ = some (.int .i64 a5_2) ∧ w'.cell? ⟨gb367, 3, none⟩ = some (.int .i64 a5_3) ∧ w'.cell? ⟨gb367, 4, none⟩ = some (.int .i64 a5_4) ∧ w'.cell? ⟨gb367, 5, none⟩ = some (.int .i64 a5_5) ∧ w'.cell? ⟨gb367, 6, none⟩ = some (.bool a5_6)) ∧ (w'.heap[gb366]? = some (.cells #[.bool a0_0, .slice A0_1 l0_1.length c0_1, .string a0_2] 54 (0, 0))) ∧ (w'.heap[gb367]? = some (.cells #[.int .i64 a5_0, .int .i64 a5_1, .int .i64 a5_2, .int .i64 a5_3, .int .i64 a5_4, .int .i64 a5_5, .bool a5_6] 23 (0, 0))) ∧ (w'.heap[gb368]? = some (.cells #[.int .i64 0, .int .i64 0, .int .i64 0, .int .i64 0, .int .i64 0, .int .i64 0, .bool false] 23 (0, 0))) ∧ (w'.heap[s_]? = some (.cells #[.int .i64 0, .int .i64 0, .int .i64 0, .int .i64 0, .int .i64 0, .int .i64 0, .bool false] 23 (0, 0))) ∧ (w.heap.size ≤ s_) ∧ (w.heap.size ≤ s_) ∧ (gb366 ≠ s_) ∧ (s_ ≠ gb366) ∧ (gb367 ≠ s_) ∧ (s_ ≠ gb367) ∧ (gb368 ≠ s_) ∧ (s_ ≠ gb368) ∧ (Below w.heap.size w w')) ?_ ?_
                rotate_left
                · intro hJ4_19
                  refine join_ (σ := Unit) 6 #[true, true, true, true, true, true, true, true, false, true, true, true, false, true, true, false, true, true, false, false, false] (fun s_ => [(20, .int .i64 t369)]) (fun s_ w' => (w'.cell? ⟨gb366, 0, none⟩ = some (.bool a0_0) ∧ w'.cell? ⟨gb366, 1, none⟩ = some (.slice A0_1 l0_1.length c0_1) ∧ w'.cell? ⟨gb366, 2, none⟩ = some (.string a0_2) ∧ w'.cell? ⟨gb367, 0, none⟩ = some (.int .i64 a5_0) ∧ w'.cell? ⟨gb367, 1, none⟩ = some (.int .i64 a5_1) ∧ w'.cell? ⟨gb367, 2, none⟩ = some (.int .i64 a5_2) ∧ w'.cell? ⟨gb367, 3, none⟩ = some (.int .i64 a5_3) ∧ w'.cell? ⟨gb367, 4, none⟩ = some (.int .i64 a5_4) ∧ w'.cell? ⟨gb367, 5, none⟩ = some (.int .i64 a5_5) ∧ w'.cell? ⟨gb367, 6, none⟩ = some (.bool a5_6)) ∧ (w'.heap[gb366]? = some (.cells #[.bool a0_0, .slice A0_1 l0_1.length c0_1, .string a0_2] 54 (0, 0))) ∧ (w'.heap[gb367]? = some (.cells #[.int .i64 a5_0, .int .i64 a5_1, .int .i64 a5_2, .int .i64 a5_3, .int .i64 a5_4, .int .i64 a5_5, .bool a5_6] 23 (0, 0))) ∧ (w'.heap[gb368]? = some (.cells #[.int .i64 0, .int .i64 0, .int .i64 0, .int .i64 0, .int .i64 0, .int .i64 0, .bool false] 23 (0, 0))) ∧ (Below w.heap.size w w')) ?_ ?_
                  rotate_left
                  · intro hJ4
                    refine join_ (σ := Nat) 6 #[true, true, true, true, false, true, true, true, false, true, true, true, false, true, true, false, true, true, false, true, false] (fun s_ => [(14, .pointer (some ⟨s_, 0, none⟩))]) (fun s_ w' => (w'.cell? ⟨gb366, 0, none⟩ = some (.bool a0_0) ∧ w'.cell? ⟨gb366, 1, none⟩ = some (.slice A0_1 l0_1.length c0_1) ∧ w'.cell? ⟨gb366, 2, none⟩ = some (.string a0_2) ∧ w'.cell? ⟨gb367, 0, none⟩ = some (.int .i64 a5_0) ∧ w'.cell? ⟨gb367, 1, none⟩ = some (.int .i64 a5_1) ∧ w'.cell? ⟨gb367, 2, none⟩ = some (.int .i64 a5_2) ∧ w'.cell? ⟨gb367, 3, none⟩ = some (.int .i64 a5_3) ∧ w'.cell? ⟨gb367, 4, none⟩ = some (.int .i64 a5_4) ∧ w'.cell? ⟨gb367, 5, none⟩ = some (.int .i64 a5_5) ∧ w'.cell? ⟨gb367, 6, none⟩ = some (.bool a5_6)) ∧ (w'.heap[gb366]? = some (.cells #[.bool a0_0, .slice A0_1 l0_1.length c0_1, .string a0_2] 54 (0, 0))) ∧ (w'.heap[gb367]? = some (.cells #[.int .i64 a5_0, .int .i64 a5_1, .int .i64 a5_2, .int .i64 a5_3, .int .i64 a5_4, .int .i64 a5_5, .bool a5_6] 23 (0, 0))) ∧ (w'.heap[gb368]? = some (.cells #[.int .i64 0, .int .i64 0, .int .i64 0, .int .i64 0, .int .i64 0, .int .i64 0, .bool false] 23 (0, 0))) ∧ (w'.heap[s_]? = some (.cells #[.int .i64 0, .int .i64 0, .int .i64 0, .int .i64 0, .int .i64 0, .int .i64 0, .bool false] 23 (0, 0))) ∧ (w.heap.size ≤ s_) ∧ (w.heap.size ≤ s_) ∧ (gb366 ≠ s_) ∧ (s_ ≠ gb366) ∧ (gb367 ≠ s_) ∧ (s_ ≠ gb367) ∧ (gb368 ≠ s_) ∧ (s_ ≠ gb368) ∧ (Below w.heap.size w w')) ?_ ?_
                    rotate_left
                    · intro hJ19
                      refine two_ (i := 4) (j := 19) (Ni := some 20) (Nj := some 14) #[true, true, true, true, true, true, true, true, false, true, true, true, false, true, true, false, true, true, false, false, false] #[true, true, true, true, false, true, true, true, false, true, true, true, false, true, true, false, true, true, false, true, false] rfl rfl rfl rfl (two_of HT_.out (by kernel_rfl)) (by decide) (by decide) (fun K hK => ?_) (fun K hK => ?_)
                      · skip
                        refine goes_ Try.func32 (by kernel_rfl) rfl #[.agg #[.bool a0_0, .slice A0_1 l0_1.length c0_1, .string a0_2], .int .u8 82, .int .i64 a5_1] (by rfl) rfl rfl (by (try simp only [List.map_toArray, List.map_cons, List.map_nil]); first | done | rfl | (simp only [List.length_drop, List.length_take]; rfl)) ?_
                        with_reducible refine (swarfref44_value.calls k a0_0 _ _ l0_1 a0_2 82 a5_1 t369 _ ?side1 ?side2 A7.out).mono ?_
                        (case side1 => repeat (first | exact (Kd.C_below HR0_1.out HB.out) | (with_reducible refine Kd.C_alloc ?_ _) | (with_reducible refine Kd.C_drewN ?_ _) | (with_reducible refine Kd.C_drew ?_)))
                        (case side2 => exact HC0_1.out)
                        rintro e w43 ⟨rfl, hb⟩
                        refine ⟨_, rfl, ?_⟩
                        have n0_ := Aside0.mk (blk_below (g := gb366) (o := .cells #[.bool a0_0, .slice A0_1 l0_1.length c0_1, .string a0_2] 54 (0, 0)) (by (with_reducible repeat (first | refine blk_drewN ?_ _ | refine blk_drew ?_ | refine blk_alloc ?_ _)); exact BK366.out) hb)
                        have n1_ := Aside0.mk (blk_below (g := gb367) (o := .cells #[.int .i64 a5_0, .int .i64 a5_1, .int .i64 a5_2, .int .i64 a5_3, .int .i64 a5_4, .int .i64 a5_5, .bool a5_6] 23 (0, 0)) (by (with_reducible repeat (first | refine blk_drewN ?_ _ | refine blk_drew ?_ | refine blk_alloc ?_ _)); exact BK367.out) hb)
                        have n2_ := Aside0.mk (blk_below (g := gb368) (o := .cells #[.int .i64 0, .int .i64 0, .int .i64 0, .int .i64 0, .int .i64 0, .int .i64 0, .bool false] 23 (0, 0)) (by (with_reducible repeat (first | refine blk_drewN ?_ _ | refine blk_drew ?_ | refine blk_alloc ?_ _)); exact BK368.out) hb)
                        have n3_ := Aside0.mk (below_step (by repeat (first | (with_reducible first | exact HB.out | apply below_alloc | apply pw_below_drewN | apply below_drew1 | refine below_set ?_ GE366.out | refine below_set ?_ GE367.out | refine below_set ?_ GE368.out) | exact HB.out)) hb)
                        clear BK366
                        clear BK367
                        clear BK368
                        clear HB
                        have BK366 := n0_
                        have BK367 := n1_
                        have BK368 := n2_
                        have HB := n3_
                        clear n0_ n1_ n2_ n3_
                        (try clear hb)
                        (try clear hb2)
                        (try clear hk)
                        (try clear hi)
                        refine hK.out _ _ ⟨(blk_cell BK366.out 0).trans rfl, (blk_cell BK366.out 1).trans rfl, (blk_cell BK366.out 2).trans rfl, (blk_cell BK367.out 0).trans rfl, (blk_cell BK367.out 1).trans rfl, (blk_cell BK367.out 2).trans rfl, (blk_cell BK367.out 3).trans rfl, (blk_cell BK367.out 4).trans rfl, (blk_cell BK367.out 5).trans rfl, (blk_cell BK367.out 6).trans rfl⟩ (fun hHeld => ?_)
                        clear hK K
                        refine norm_ (a' := ?_) ?_ ?_
                        rotate_left
                        · show Act.put _ (some 20) _ = _
                          simp only [Act.put, List.setIfInBounds_toArray, List.set_cons_zero, List.set_cons_succ, i64_w, i32_w]
                          rfl
                        exact norm_ (by first | (simp only [putAll, Act.put, List.setIfInBounds_toArray, List.set_cons_zero, List.set_cons_succ]; done) | (simp only [putAll, Act.put, List.setIfInBounds_toArray, List.set_cons_zero, List.set_cons_succ]; rfl)) (hJ4 () _ ⟨hHeld, (by (with_reducible repeat (first | refine blk_drewN ?_ _ | refine blk_drew ?_ | refine blk_alloc ?_ _)); exact BK366.out), (by (with_reducible repeat (first | refine blk_drewN ?_ _ | refine blk_drew ?_ | refine blk_alloc ?_ _)); exact BK367.out), (by (with_reducible repeat (first | refine blk_drewN ?_ _ | refine blk_drew ?_ | refine blk_alloc ?_ _)); exact BK368.out), (by repeat (first | (with_reducible first | exact HB.out | apply below_alloc | apply pw_below_drewN | apply below_drew1 | refine below_set ?_ GE366.out | refine below_set ?_ GE367.out | refine below_set ?_ GE368.out) | exact HB.out))⟩)
                      · skip
                        refine box_step ?hg (N := 14) ?hd (cs := #[.int .i64 0, .int .i64 0, .int .i64 0, .int .i64 0, .int .i64 0, .int .i64 0, .bool false]) (t := 23) ?hr ?_; (case hd => rfl); (case hg => rfl); (case hr => first | (go_simp; done) | (go_simp; rfl))
                        intro gb373 hg w43 hbox hb
                        have n0_ := Aside0.mk (blk_below (g := gb366) (o := .cells #[.bool a0_0, .slice A0_1 l0_1.length c0_1, .string a0_2] 54 (0, 0)) (by (with_reducible repeat (first | refine blk_drewN ?_ _ | refine blk_drew ?_ | refine blk_alloc ?_ _)); exact BK366.out) hb)
                        have n1_ := Aside0.mk (blk_below (g := gb367) (o := .cells #[.int .i64 a5_0, .int .i64 a5_1, .int .i64 a5_2, .int .i64 a5_3, .int .i64 a5_4, .int .i64 a5_5, .bool a5_6] 23 (0, 0)) (by (with_reducible repeat (first | refine blk_drewN ?_ _ | refine blk_drew ?_ | refine blk_alloc ?_ _)); exact BK367.out) hb)
                        have n2_ := Aside0.mk (blk_below (g := gb368) (o := .cells #[.int .i64 0, .int .i64 0, .int .i64 0, .int .i64 0, .int .i64 0, .int .i64 0, .bool false] 23 (0, 0)) (by (with_reducible repeat (first | refine blk_drewN ?_ _ | refine blk_drew ?_ | refine blk_alloc ?_ _)); exact BK368.out) hb)
                        have n3_ := Aside0.mk (below_step (by repeat (first | (with_reducible first | exact HB.out | apply below_alloc | apply pw_below_drewN | apply below_drew1 | refine below_set ?_ GE366.out | refine below_set ?_ GE367.out | refine below_set ?_ GE368.out) | exact HB.out)) hb)
                        have n4_ := Aside0.mk (hbox)
                        have n5_ := Aside0.mk ((by rw [hg]; exact (below_size (by repeat (first | (with_reducible first | exact HB.out | apply below_alloc | apply pw_below_drewN | apply below_drew1 | refine below_set ?_ GE366.out | refine below_set ?_ GE367.out | refine below_set ?_ GE368.out) | exact HB.out))) : w.heap.size ≤ gb373))
                        have n6_ := Aside0.mk ((by rw [hg]; exact (below_size (by repeat (first | (with_reducible first | exact HB.out | apply below_alloc | apply pw_below_drewN | apply below_drew1 | refine below_set ?_ GE366.out | refine below_set ?_ GE367.out | refine below_set ?_ GE368.out) | exact HB.out))) : w.heap.size ≤ gb373))
                        have n7_ := Aside0.mk ((by rw [hg]; exact Nat.ne_of_lt (blk_lt (g := gb366) (o := .cells #[.bool a0_0, .slice A0_1 l0_1.length c0_1, .string a0_2] 54 (0, 0)) (by (with_reducible repeat (first | refine blk_drewN ?_ _ | refine blk_drew ?_ | refine blk_alloc ?_ _)); exact BK366.out)) : gb366 ≠ gb373))
                        have n8_ := Aside0.mk ((by rw [hg]; exact Nat.ne_of_gt (blk_lt (g := gb366) (o := .cells #[.bool a0_0, .slice A0_1 l0_1.length c0_1, .string a0_2] 54 (0, 0)) (by (with_reducible repeat (first | refine blk_drewN ?_ _ | refine blk_drew ?_ | refine blk_alloc ?_ _)); exact BK366.out)) : gb373 ≠ gb366))
                        have n9_ := Aside0.mk ((by rw [hg]; exact Nat.ne_of_lt (blk_lt (g := gb367) (o := .cells #[.int .i64 a5_0, .int .i64 a5_1, .int .i64 a5_2, .int .i64 a5_3, .int .i64 a5_4, .int .i64 a5_5, .bool a5_6] 23 (0, 0)) (by (with_reducible repeat (first | refine blk_drewN ?_ _ | refine blk_drew ?_ | refine blk_alloc ?_ _)); exact BK367.out)) : gb367 ≠ gb373))
                        have n10_ := Aside0.mk ((by rw [hg]; exact Nat.ne_of_gt (blk_lt (g := gb367) (o := .cells #[.int .i64 a5_0, .int .i64 a5_1, .int .i64 a5_2, .int .i64 a5_3, .int .i64 a5_4, .int .i64 a5_5, .bool a5_6] 23 (0, 0)) (by (with_reducible repeat (first | refine blk_drewN ?_ _ | refine blk_drew ?_ | refine blk_alloc ?_ _)); exact BK367.out)) : gb373 ≠ gb367))
                        have n11_ := Aside0.mk ((by rw [hg]; exact Nat.ne_of_lt (blk_lt (g := gb368) (o := .cells #[.int .i64 0, .int .i64 0, .int .i64 0, .int .i64 0, .int .i64 0, .int .i64 0, .bool false] 23 (0, 0)) (by (with_reducible repeat (first | refine blk_drewN ?_ _ | refine blk_drew ?_ | refine blk_alloc ?_ _)); exact BK368.out)) : gb368 ≠ gb373))
                        have n12_ := Aside0.mk ((by rw [hg]; exact Nat.ne_of_gt (blk_lt (g := gb368) (o := .cells #[.int .i64 0, .int .i64 0, .int .i64 0, .int .i64 0, .int .i64 0, .int .i64 0, .bool false] 23 (0, 0)) (by (with_reducible repeat (first | refine blk_drewN ?_ _ | refine blk_drew ?_ | refine blk_alloc ?_ _)); exact BK368.out)) : gb373 ≠ gb368))
                        clear BK366
                        clear BK367
                        clear BK368
                        clear HB
                        have BK366 := n0_
                        have BK367 := n1_
                        have BK368 := n2_
                        have HB := n3_
                        have BK373 := n4_
                        have GW373 := n5_
                        have GE373 := n6_
                        have NB366_373 := n7_
                        have NB373_366 := n8_
                        have NB367_373 := n9_
                        have NB373_367 := n10_
                        have NB368_373 := n11_
                        have NB373_368 := n12_
                        clear n0_ n1_ n2_ n3_ n4_ n5_ n6_ n7_ n8_ n9_ n10_ n11_ n12_
                        clear hb hbox hg
                        refine hK.out _ _ ⟨(blk_cell BK366.out 0).trans rfl, (blk_cell BK366.out 1).trans rfl, (blk_cell BK366.out 2).trans rfl, (blk_cell BK367.out 0).trans rfl, (blk_cell BK367.out 1).trans rfl, (blk_cell BK367.out 2).trans rfl, (blk_cell BK367.out 3).trans rfl, (blk_cell BK367.out 4).trans rfl, (blk_cell BK367.out 5).trans rfl, (blk_cell BK367.out 6).trans rfl⟩ (fun hHeld => ?_)
                        clear hK K
                        refine norm_ (a' := ?_) ?_ ?_
                        rotate_left
                        · show Act.put _ (some 14) _ = _
                          simp only [Act.put, List.setIfInBounds_toArray, List.set_cons_zero, List.set_cons_succ, i64_w, i32_w]
                          rfl
                        exact norm_ (by first | (simp only [putAll, Act.put, List.setIfInBounds_toArray, List.set_cons_zero, List.set_cons_succ]; done) | (simp only [putAll, Act.put, List.setIfInBounds_toArray, List.set_cons_zero, List.set_cons_succ]; rfl)) (hJ19 (gb373) _ ⟨hHeld, (by (with_reducible repeat (first | refine blk_drewN ?_ _ | refine blk_drew ?_ | refine blk_alloc ?_ _)); exact BK366.out), (by (with_reducible repeat (first | refine blk_drewN ?_ _ | refine blk_drew ?_ | refine blk_alloc ?_ _)); exact BK367.out), (by (with_reducible repeat (first | refine blk_drewN ?_ _ | refine blk_drew ?_ | refine blk_alloc ?_ _)); exact BK368.out), (by (with_reducible repeat (first | refine blk_drewN ?_ _ | refine blk_drew ?_ | refine blk_alloc ?_ _)); exact BK373.out), GW373.out, GE373.out, NB366_373.out, NB373_366.out, NB367_373.out, NB373_367.out, NB368_373.out, NB373_368.out, (by repeat (first | (with_reducible first | exact HB.out | apply below_alloc | apply pw_below_drewN | apply below_drew1 | refine below_set ?_ GE366.out | refine below_set ?_ GE367.out | refine below_set ?_ GE368.out | refine below_set ?_ GE373.out) | exact HB.out))⟩)
                    · skip
                      rintro gb373 w44 ⟨hS_, h0_, h1_, h2_, h3_, h4_, h5_, h6_, h7_, h8_, h9_, h10_, h11_, h12_⟩
                      have n0_ : Aside0 (w44.heap[gb366]? = some (.cells #[.bool a0_0, .slice A0_1 l0_1.length c0_1, .string a0_2] 54 (0, 0))) := ⟨h0_⟩
                      have n1_ : Aside0 (w44.heap[gb367]? = some (.cells #[.int .i64 a5_0, .int .i64 a5_1, .int .i64 a5_2, .int .i64 a5_3, .int .i64 a5_4, .int .i64 a5_5, .bool a5_6] 23 (0, 0))) := ⟨h1_⟩
                      have n2_ : Aside0 (w44.heap[gb368]? = some (.cells #[.int .i64 0, .int .i64 0, .int .i64 0, .int .i64 0, .int .i64 0, .int .i64 0, .bool false] 23 (0, 0))) := ⟨h2_⟩
                      have n3_ : Aside0 (w44.heap[gb373]? = some (.cells #[.int .i64 0, .int .i64 0, .int .i64 0, .int .i64 0, .int .i64 0, .int .i64 0, .bool false] 23 (0, 0))) := ⟨h3_⟩
                      have n4_ : Aside0 (w.heap.size ≤ gb373) := ⟨h4_⟩
                      have n5_ : Aside0 (w.heap.size ≤ gb373) := ⟨h5_⟩
                      have n6_ : Aside0 (gb366 ≠ gb373) := ⟨h6_⟩
                      have n7_ : Aside0 (gb373 ≠ gb366) := ⟨h7_⟩
                      have n8_ : Aside0 (gb367 ≠ gb373) := ⟨h8_⟩
                      have n9_ : Aside0 (gb373 ≠ gb367) := ⟨h9_⟩
                      have n10_ : Aside0 (gb368 ≠ gb373) := ⟨h10_⟩
                      have n11_ : Aside0 (gb373 ≠ gb368) := ⟨h11_⟩
                      have n12_ : Aside0 (Below w.heap.size w w44) := ⟨h12_⟩
                      clear BK366
                      clear BK367
                      clear BK368
                      clear HB
                      clear h0_ h1_ h2_ h3_ h4_ h5_ h6_ h7_ h8_ h9_ h10_ h11_ h12_
                      have BK366 := n0_
                      have BK367 := n1_
                      have BK368 := n2_
                      have BK373 := n3_
                      have GW373 := n4_
                      have GE373 := n5_
                      have NB366_373 := n6_
                      have NB373_366 := n7_
                      have NB367_373 := n8_
                      have NB373_367 := n9_
                      have NB368_373 := n10_
                      have NB373_368 := n11_
                      have HB := n12_
                      clear n0_ n1_ n2_ n3_ n4_ n5_ n6_ n7_ n8_ n9_ n10_ n11_ n12_
                      have hHeld : w44.cell? ⟨gb366, 0, none⟩ = some (.bool a0_0) ∧ w44.cell? ⟨gb366, 1, none⟩ = some (.slice A0_1 l0_1.length c0_1) ∧ w44.cell? ⟨gb366, 2, none⟩ = some (.string a0_2) ∧ w44.cell? ⟨gb367, 0, none⟩ = some (.int .i64 a5_0) ∧ w44.cell? ⟨gb367, 1, none⟩ = some (.int .i64 a5_1) ∧ w44.cell? ⟨gb367, 2, none⟩ = some (.int .i64 a5_2) ∧ w44.cell? ⟨gb367, 3, none⟩ = some (.int .i64 a5_3) ∧ w44.cell? ⟨gb367, 4, none⟩ = some (.int .i64 a5_4) ∧ w44.cell? ⟨gb367, 5, none⟩ = some (.int .i64 a5_5) ∧ w44.cell? ⟨gb367, 6, none⟩ = some (.bool a5_6) := hS_
                      refine norm_ (a' := ?_) ?_ ?_
                      rotate_left
                      · simp only [putAll, Act.put, List.setIfInBounds_toArray, List.set_cons_zero, List.set_cons_succ]
                        rfl
                      refine one_ (i := 4) (N := some 20) #[true, true, true, true, true, true, true, true, false, true, true, true, false, true, true, false, true, true, false, true, false] rfl rfl (one_of HT_.out (by kernel_rfl)) (by decide) (fun K hK => ?_)
                      refine goes_ Try.func32 (by kernel_rfl) rfl #[.agg #[.bool a0_0, .slice A0_1 l0_1.length c0_1, .string a0_2], .int .u8 82, .int .i64 a5_1] (by rfl) rfl rfl (by (try simp only [List.map_toArray, List.map_cons, List.map_nil]); first | done | rfl | (simp only [List.length_drop, List.length_take]; rfl)) ?_
                      with_reducible refine (swarfref44_value.calls k a0_0 _ _ l0_1 a0_2 82 a5_1 t369 _ ?side1 ?side2 A7.out).mono ?_
                      (case side1 => repeat (first | exact (Kd.C_below HR0_1.out HB.out) | (with_reducible refine Kd.C_alloc ?_ _) | (with_reducible refine Kd.C_drewN ?_ _) | (with_reducible refine Kd.C_drew ?_)))
                      (case side2 => exact HC0_1.out)
                      rintro e w45 ⟨rfl, hb⟩
                      refine ⟨_, rfl, ?_⟩
                      have n0_ := Aside0.mk (blk_below (g := gb366) (o := .cells #[.bool a0_0, .slice A0_1 l0_1.length c0_1, .string a0_2] 54 (0, 0)) (by (with_reducible repeat (first | refine blk_drewN ?_ _ | refine blk_drew ?_ | refine blk_alloc ?_ _)); exact BK366.out) hb)
                      have n1_ := Aside0.mk (blk_below (g := gb367) (o := .cells #[.int .i64 a5_0, .int .i64 a5_1, .int .i64 a5_2, .int .i64 a5_3, .int .i64 a5_4, .int .i64 a5_5, .bool a5_6] 23 (0, 0)) (by (with_reducible repeat (first | refine blk_drewN ?_ _ | refine blk_drew ?_ | refine blk_alloc ?_ _)); exact BK367.out) hb)
                      have n2_ := Aside0.mk (blk_below (g := gb368) (o := .cells #[.int .i64 0, .int .i64 0, .int .i64 0, .int .i64 0, .int .i64 0, .int .i64 0, .bool false] 23 (0, 0)) (by (with_reducible repeat (first | refine blk_drewN ?_ _ | refine blk_drew ?_ | refine blk_alloc ?_ _)); exact BK368.out) hb)
                      have n3_ := Aside0.mk (blk_below (g := gb373) (o := .cells #[.int .i64 0, .int .i64 0, .int .i64 0, .int .i64 0, .int .i64 0, .int .i64 0, .bool false] 23 (0, 0)) (by (with_reducible repeat (first | refine blk_drewN ?_ _ | refine blk_drew ?_ | refine blk_alloc ?_ _)); exact BK373.out) hb)
                      have n4_ := Aside0.mk (below_step (by repeat (first | (with_reducible first | exact HB.out | apply below_alloc | apply pw_below_drewN | apply below_drew1 | refine below_set ?_ GE366.out | refine below_set ?_ GE367.out | refine below_set ?_ GE368.out | refine below_set ?_ GE373.out) | exact HB.out)) hb)
                      clear BK366
                      clear BK367
                      clear BK368
                      clear BK373
                      clear HB
                      have BK366 := n0_
                      have BK367 := n1_
                      have BK368 := n2_
                      have BK373 := n3_
                      have HB := n4_
                      clear n0_ n1_ n2_ n3_ n4_
                      (try clear hb)
                      (try clear hb2)
                      (try clear hk)
                      (try clear hi)
                      refine hK.out _ _ ⟨(blk_cell BK366.out 0).trans rfl, (blk_cell BK366.out 1).trans rfl, (blk_cell BK366.out 2).trans rfl, (blk_cell BK367.out 0).trans rfl, (blk_cell BK367.out 1).trans rfl, (blk_cell BK367.out 2).trans rfl, (blk_cell BK367.out 3).trans rfl, (blk_cell BK367.out 4).trans rfl, (blk_cell BK367.out 5).trans rfl, (blk_cell BK367.out 6).trans rfl⟩ (fun hHeld => ?_)
                      clear hK K
                      refine norm_ (a' := ?_) ?_ ?_
                      rotate_left
                      · show Act.put _ (some 20) _ = _
                        simp only [Act.put, List.setIfInBounds_toArray, List.set_cons_zero, List.set_cons_succ, i64_w, i32_w]
                        rfl
                      exact norm_ (by first | (simp only [putAll, Act.put, List.setIfInBounds_toArray, List.set_cons_zero, List.set_cons_succ]; done) | (simp only [putAll, Act.put, List.setIfInBounds_toArray, List.set_cons_zero, List.set_cons_succ]; rfl)) (hJ4_19 (gb373) _ ⟨hHeld, (by (with_reducible repeat (first | refine blk_drewN ?_ _ | refine blk_drew ?_ | refine blk_alloc ?_ _)); exact BK366.out), (by (with_reducible repeat (first | refine blk_drewN ?_ _ | refine blk_drew ?_ | refine blk_alloc ?_ _)); exact BK367.out), (by (with_reducible repeat (first | refine blk_drewN ?_ _ | refine blk_drew ?_ | refine blk_alloc ?_ _)); exact BK368.out), (by (with_reducible repeat (first | refine blk_drewN ?_ _ | refine blk_drew ?_ | refine blk_alloc ?_ _)); exact BK373.out), GW373.out, GE373.out, NB366_373.out, NB373_366.out, NB367_373.out, NB373_367.out, NB368_373.out, NB373_368.out, (by repeat (first | (with_reducible first | exact HB.out | apply below_alloc | apply pw_below_drewN | apply below_drew1 | refine below_set ?_ GE366.out | refine below_set ?_ GE367.out | refine below_set ?_ GE368.out | refine below_set ?_ GE373.out) | exact HB.out))⟩)
                  · skip
                    rintro _ w44 ⟨hS_, h0_, h1_, h2_, h3_⟩
                    have n0_ : Aside0 (w44.heap[gb366]? = some (.cells #[.bool a0_0, .slice A0_1 l0_1.length c0_1, .string a0_2] 54 (0, 0))) := ⟨h0_⟩
                    have n1_ : Aside0 (w44.heap[gb367]? = some (.cells #[.int .i64 a5_0, .int .i64 a5_1, .int .i64 a5_2, .int .i64 a5_3, .int .i64 a5_4, .int .i64 a5_5, .bool a5_6] 23 (0, 0))) := ⟨h1_⟩
                    have n2_ : Aside0 (w44.heap[gb368]? = some (.cells #[.int .i64 0, .int .i64 0, .int .i64 0, .int .i64 0, .int .i64 0, .int .i64 0, .bool false] 23 (0, 0))) := ⟨h2_⟩
                    have n3_ : Aside0 (Below w.heap.size w w44) := ⟨h3_⟩
                    clear BK366
                    clear BK367
                    clear BK368
                    clear HB
                    clear h0_ h1_ h2_ h3_
                    have BK366 := n0_
                    have BK367 := n1_
                    have BK368 := n2_
                    have HB := n3_
                    clear n0_ n1_ n2_ n3_
                    have hHeld : w44.cell? ⟨gb366, 0, none⟩ = some (.bool a0_0) ∧ w44.cell? ⟨gb366, 1, none⟩ = some (.slice A0_1 l0_1.length c0_1) ∧ w44.cell? ⟨gb366, 2, none⟩ = some (.string a0_2) ∧ w44.cell? ⟨gb367, 0, none⟩ = some (.int .i64 a5_0) ∧ w44.cell? ⟨gb367, 1, none⟩ = some (.int .i64 a5_1) ∧ w44.cell? ⟨gb367, 2, none⟩ = some (.int .i64 a5_2) ∧ w44.cell? ⟨gb367, 3, none⟩ = some (.int .i64 a5_3) ∧ w44.cell? ⟨gb367, 4, none⟩ = some (.int .i64 a5_4) ∧ w44.cell? ⟨gb367, 5, none⟩ = some (.int .i64 a5_5) ∧ w44.cell? ⟨gb367, 6, none⟩ = some (.bool a5_6) := hS_
                    refine norm_ (a' := ?_) ?_ ?_
                    rotate_left
                    · simp only [putAll, Act.put, List.setIfInBounds_toArray, List.set_cons_zero, List.set_cons_succ]
                      rfl
                    refine two_ (i := 8) (j := 19) (Ni := some 24) (Nj := some 14) #[true, true, true, true, true, true, true, true, true, true, true, true, false, true, true, false, true, true, false, false, false] #[true, true, true, true, true, true, true, true, false, true, true, true, false, true, true, false, true, true, false, true, false] rfl rfl rfl rfl (two_of HT_.out (by kernel_rfl)) (by decide) (by decide) (fun K hK => ?_) (fun K hK => ?_)
                    · skip
                      refine goes_ Try.func32 (by kernel_rfl) rfl #[.agg #[.bool a0_0, .slice A0_1 l0_1.length c0_1, .string a0_2], .int .u8 90, .int .i64 a5_2] (by rfl) rfl rfl (by (try simp only [List.map_toArray, List.map_cons, List.map_nil]); first | done | rfl | (simp only [List.length_drop, List.length_take]; rfl)) ?_
                      with_reducible refine (swarfref44_value.calls k a0_0 _ _ l0_1 a0_2 90 a5_2 t370 _ ?side1 ?side2 A8.out).mono ?_
                      (case side1 => repeat (first | exact (Kd.C_below HR0_1.out HB.out) | (with_reducible refine Kd.C_alloc ?_ _) | (with_reducible refine Kd.C_drewN ?_ _) | (with_reducible refine Kd.C_drew ?_)))
                      (case side2 => exact HC0_1.out)
                      rintro e w45 ⟨rfl, hb⟩
                      refine ⟨_, rfl, ?_⟩
                      have n0_ := Aside0.mk (blk_below (g := gb366) (o := .cells #[.bool a0_0, .slice A0_1 l0_1.length c0_1, .string a0_2] 54 (0, 0)) (by (with_reducible repeat (first | refine blk_drewN ?_ _ | refine blk_drew ?_ | refine blk_alloc ?_ _)); exact BK366.out) hb)
                      have n1_ := Aside0.mk (blk_below (g := gb367) (o := .cells #[.int .i64 a5_0, .int .i64 a5_1, .int .i64 a5_2, .int .i64 a5_3, .int .i64 a5_4, .int .i64 a5_5, .bool a5_6] 23 (0, 0)) (by (with_reducible repeat (first | refine blk_drewN ?_ _ | refine blk_drew ?_ | refine blk_alloc ?_ _)); exact BK367.out) hb)
                      have n2_ := Aside0.mk (blk_below (g := gb368) (o := .cells #[.int .i64 0, .int .i64 0, .int .i64 0, .int .i64 0, .int .i64 0, .int .i64 0, .bool false] 23 (0, 0)) (by (with_reducible repeat (first | refine blk_drewN ?_ _ | refine blk_drew ?_ | refine blk_alloc ?_ _)); exact BK368.out) hb)
                      have n3_ := Aside0.mk (below_step (by repeat (first | (with_reducible first | exact HB.out | apply below_alloc | apply pw_below_drewN | apply below_drew1 | refine below_set ?_ GE366.out | refine below_set ?_ GE367.out | refine below_set ?_ GE368.out) | exact HB.out)) hb)
                      clear BK366
                      clear BK367
                      clear BK368
                      clear HB
                      have BK366 := n0_
                      have BK367 := n1_
                      have BK368 := n2_
                      have HB := n3_
                      clear n0_ n1_ n2_ n3_
                      (try clear hb)
                      (try clear hb2)
                      (try clear hk)
                      (try clear hi)
                      refine hK.out _ _ ⟨(blk_cell BK366.out 0).trans rfl, (blk_cell BK366.out 1).trans rfl, (blk_cell BK366.out 2).trans rfl, (blk_cell BK367.out 0).trans rfl, (blk_cell BK367.out 1).trans rfl, (blk_cell BK367.out 2).trans rfl, (blk_cell BK367.out 3).trans rfl, (blk_cell BK367.out 4).trans rfl, (blk_cell BK367.out 5).trans rfl, (blk_cell BK367.out 6).trans rfl⟩ (fun hHeld => ?_)
                      clear hK K
                      refine norm_ (a' := ?_) ?_ ?_
                      rotate_left
                      · show Act.put _ (some 24) _ = _
                        simp only [Act.put, List.setIfInBounds_toArray, List.set_cons_zero, List.set_cons_succ, i64_w, i32_w]
                        rfl
                      exact norm_ (by first | (simp only [putAll, Act.put, List.setIfInBounds_toArray, List.set_cons_zero, List.set_cons_succ]; done) | (simp only [putAll, Act.put, List.setIfInBounds_toArray, List.set_cons_zero, List.set_cons_succ]; rfl)) (hJ4_8 () _ ⟨hHeld, (by (with_reducible repeat (first | refine blk_drewN ?_ _ | refine blk_drew ?_ | refine blk_alloc ?_ _)); exact BK366.out), (by (with_reducible repeat (first | refine blk_drewN ?_ _ | refine blk_drew ?_ | refine blk_alloc ?_ _)); exact BK367.out), (by (with_reducible repeat (first | refine blk_drewN ?_ _ | refine blk_drew ?_ | refine blk_alloc ?_ _)); exact BK368.out), (by repeat (first | (with_reducible first | exact HB.out | apply below_alloc | apply pw_below_drewN | apply below_drew1 | refine below_set ?_ GE366.out | refine below_set ?_ GE367.out | refine below_set ?_ GE368.out) | exact HB.out))⟩)
                    · skip
                      refine box_step ?hg (N := 14) ?hd (cs := #[.int .i64 0, .int .i64 0, .int .i64 0, .int .i64 0, .int .i64 0, .int .i64 0, .bool false]) (t := 23) ?hr ?_; (case hd => rfl); (case hg => rfl); (case hr => first | (go_simp; done) | (go_simp; rfl))
                      intro gb373 hg w45 hbox hb
                      have n0_ := Aside0.mk (blk_below (g := gb366) (o := .cells #[.bool a0_0, .slice A0_1 l0_1.length c0_1, .string a0_2] 54 (0, 0)) (by (with_reducible repeat (first | refine blk_drewN ?_ _ | refine blk_drew ?_ | refine blk_alloc ?_ _)); exact BK366.out) hb)
                      have n1_ := Aside0.mk (blk_below (g := gb367) (o := .cells #[.int .i64 a5_0, .int .i64 a5_1, .int .i64 a5_2, .int .i64 a5_3, .int .i64 a5_4, .int .i64 a5_5, .bool a5_6] 23 (0, 0)) (by (with_reducible repeat (first | refine blk_drewN ?_ _ | refine blk_drew ?_ | refine blk_alloc ?_ _)); exact BK367.out) hb)
                      have n2_ := Aside0.mk (blk_below (g := gb368) (o := .cells #[.int .i64 0, .int .i64 0, .int .i64 0, .int .i64 0, .int .i64 0, .int .i64 0, .bool false] 23 (0, 0)) (by (with_reducible repeat (first | refine blk_drewN ?_ _ | refine blk_drew ?_ | refine blk_alloc ?_ _)); exact BK368.out) hb)
                      have n3_ := Aside0.mk (below_step (by repeat (first | (with_reducible first | exact HB.out | apply below_alloc | apply pw_below_drewN | apply below_drew1 | refine below_set ?_ GE366.out | refine below_set ?_ GE367.out | refine below_set ?_ GE368.out) | exact HB.out)) hb)
                      have n4_ := Aside0.mk (hbox)
                      have n5_ := Aside0.mk ((by rw [hg]; exact (below_size (by repeat (first | (with_reducible first | exact HB.out | apply below_alloc | apply pw_below_drewN | apply below_drew1 | refine below_set ?_ GE366.out | refine below_set ?_ GE367.out | refine below_set ?_ GE368.out) | exact HB.out))) : w.heap.size ≤ gb373))
                      have n6_ := Aside0.mk ((by rw [hg]; exact (below_size (by repeat (first | (with_reducible first | exact HB.out | apply below_alloc | apply pw_below_drewN | apply below_drew1 | refine below_set ?_ GE366.out | refine below_set ?_ GE367.out | refine below_set ?_ GE368.out) | exact HB.out))) : w.heap.size ≤ gb373))
                      have n7_ := Aside0.mk ((by rw [hg]; exact Nat.ne_of_lt (blk_lt (g := gb366) (o := .cells #[.bool a0_0, .slice A0_1 l0_1.length c0_1, .string a0_2] 54 (0, 0)) (by (with_reducible repeat (first | refine blk_drewN ?_ _ | refine blk_drew ?_ | refine blk_alloc ?_ _)); exact BK366.out)) : gb366 ≠ gb373))
                      have n8_ := Aside0.mk ((by rw [hg]; exact Nat.ne_of_gt (blk_lt (g := gb366) (o := .cells #[.bool a0_0, .slice A0_1 l0_1.length c0_1, .string a0_2] 54 (0, 0)) (by (with_reducible repeat (first | refine blk_drewN ?_ _ | refine blk_drew ?_ | refine blk_alloc ?_ _)); exact BK366.out)) : gb373 ≠ gb366))
                      have n9_ := Aside0.mk ((by rw [hg]; exact Nat.ne_of_lt (blk_lt (g := gb367) (o := .cells #[.int .i64 a5_0, .int .i64 a5_1, .int .i64 a5_2, .int .i64 a5_3, .int .i64 a5_4, .int .i64 a5_5, .bool a5_6] 23 (0, 0)) (by (with_reducible repeat (first | refine blk_drewN ?_ _ | refine blk_drew ?_ | refine blk_alloc ?_ _)); exact BK367.out)) : gb367 ≠ gb373))
                      have n10_ := Aside0.mk ((by rw [hg]; exact Nat.ne_of_gt (blk_lt (g := gb367) (o := .cells #[.int .i64 a5_0, .int .i64 a5_1, .int .i64 a5_2, .int .i64 a5_3, .int .i64 a5_4, .int .i64 a5_5, .bool a5_6] 23 (0, 0)) (by (with_reducible repeat (first | refine blk_drewN ?_ _ | refine blk_drew ?_ | refine blk_alloc ?_ _)); exact BK367.out)) : gb373 ≠ gb367))
                      have n11_ := Aside0.mk ((by rw [hg]; exact Nat.ne_of_lt (blk_lt (g := gb368) (o := .cells #[.int .i64 0, .int .i64 0, .int .i64 0, .int .i64 0, .int .i64 0, .int .i64 0, .bool false] 23 (0, 0)) (by (with_reducible repeat (first | refine blk_drewN ?_ _ | refine blk_drew ?_ | refine blk_alloc ?_ _)); exact BK368.out)) : gb368 ≠ gb373))
                      have n12_ := Aside0.mk ((by rw [hg]; exact Nat.ne_of_gt (blk_lt (g := gb368) (o := .cells #[.int .i64 0, .int .i64 0, .int .i64 0, .int .i64 0, .int .i64 0, .int .i64 0, .bool false] 23 (0, 0)) (by (with_reducible repeat (first | refine blk_drewN ?_ _ | refine blk_drew ?_ | refine blk_alloc ?_ _)); exact BK368.out)) : gb373 ≠ gb368))
                      clear BK366
                      clear BK367
                      clear BK368
                      clear HB
                      have BK366 := n0_
                      have BK367 := n1_
                      have BK368 := n2_
                      have HB := n3_
                      have BK373 := n4_
                      have GW373 := n5_
                      have GE373 := n6_
                      have NB366_373 := n7_
                      have NB373_366 := n8_
                      have NB367_373 := n9_
                      have NB373_367 := n10_
                      have NB368_373 := n11_
                      have NB373_368 := n12_
                      clear n0_ n1_ n2_ n3_ n4_ n5_ n6_ n7_ n8_ n9_ n10_ n11_ n12_
                      clear hb hbox hg
                      refine hK.out _ _ ⟨(blk_cell BK366.out 0).trans rfl, (blk_cell BK366.out 1).trans rfl, (blk_cell BK366.out 2).trans rfl, (blk_cell BK367.out 0).trans rfl, (blk_cell BK367.out 1).trans rfl, (blk_cell BK367.out 2).trans rfl, (blk_cell BK367.out 3).trans rfl, (blk_cell BK367.out 4).trans rfl, (blk_cell BK367.out 5).trans rfl, (blk_cell BK367.out 6).trans rfl⟩ (fun hHeld => ?_)
                      clear hK K
                      refine norm_ (a' := ?_) ?_ ?_
                      rotate_left
                      · show Act.put _ (some 14) _ = _
                        simp only [Act.put, List.setIfInBounds_toArray, List.set_cons_zero, List.set_cons_succ, i64_w, i32_w]
                        rfl
                      exact norm_ (by first | (simp only [putAll, Act.put, List.setIfInBounds_toArray, List.set_cons_zero, List.set_cons_succ]; done) | (simp only [putAll, Act.put, List.setIfInBounds_toArray, List.set_cons_zero, List.set_cons_succ]; rfl)) (hJ4_19 (gb373) _ ⟨hHeld, (by (with_reducible repeat (first | refine blk_drewN ?_ _ | refine blk_drew ?_ | refine blk_alloc ?_ _)); exact BK366.out), (by (with_reducible repeat (first | refine blk_drewN ?_ _ | refine blk_drew ?_ | refine blk_alloc ?_ _)); exact BK367.out), (by (with_reducible repeat (first | refine blk_drewN ?_ _ | refine blk_drew ?_ | refine blk_alloc ?_ _)); exact BK368.out), (by (with_reducible repeat (first | refine blk_drewN ?_ _ | refine blk_drew ?_ | refine blk_alloc ?_ _)); exact BK373.out), GW373.out, GE373.out, NB366_373.out, NB373_366.out, NB367_373.out, NB373_367.out, NB368_373.out, NB373_368.out, (by repeat (first | (with_reducible first | exact HB.out | apply below_alloc | apply pw_below_drewN | apply below_drew1 | refine below_set ?_ GE366.out | refine below_set ?_ GE367.out | refine below_set ?_ GE368.out | refine below_set ?_ GE373.out) | exact HB.out))⟩)
                · skip
                  rintro gb373 w45 ⟨hS_, h0_, h1_, h2_, h3_, h4_, h5_, h6_, h7_, h8_, h9_, h10_, h11_, h12_⟩
                  have n0_ : Aside0 (w45.heap[gb366]? = some (.cells #[.bool a0_0, .slice A0_1 l0_1.length c0_1, .string a0_2] 54 (0, 0))) := ⟨h0_⟩
                  have n1_ : Aside0 (w45.heap[gb367]? = some (.cells #[.int .i64 a5_0, .int .i64 a5_1, .int .i64 a5_2, .int .i64 a5_3, .int .i64 a5_4, .int .i64 a5_5, .bool a5_6] 23 (0, 0))) := ⟨h1_⟩
                  have n2_ : Aside0 (w45.heap[gb368]? = some (.cells #[.int .i64 0, .int .i64 0, .int .i64 0, .int .i64 0, .int .i64 0, .int .i64 0, .bool false] 23 (0, 0))) := ⟨h2_⟩
                  have n3_ : Aside0 (w45.heap[gb373]? = some (.cells #[.int .i64 0, .int .i64 0, .int .i64 0, .int .i64 0, .int .i64 0, .int .i64 0, .bool false] 23 (0, 0))) := ⟨h3_⟩
                  have n4_ : Aside0 (w.heap.size ≤ gb373) := ⟨h4_⟩
                  have n5_ : Aside0 (w.heap.size ≤ gb373) := ⟨h5_⟩
                  have n6_ : Aside0 (gb366 ≠ gb373) := ⟨h6_⟩
                  have n7_ : Aside0 (gb373 ≠ gb366) := ⟨h7_⟩
                  have n8_ : Aside0 (gb367 ≠ gb373) := ⟨h8_⟩
                  have n9_ : Aside0 (gb373 ≠ gb367) := ⟨h9_⟩
                  have n10_ : Aside0 (gb368 ≠ gb373) := ⟨h10_⟩
                  have n11_ : Aside0 (gb373 ≠ gb368) := ⟨h11_⟩
                  have n12_ : Aside0 (Below w.heap.size w w45) := ⟨h12_⟩
                  clear BK366
                  clear BK367
                  clear BK368
                  clear HB
                  clear h0_ h1_ h2_ h3_ h4_ h5_ h6_ h7_ h8_ h9_ h10_ h11_ h12_
                  have BK366 := n0_
                  have BK367 := n1_
                  have BK368 := n2_
                  have BK373 := n3_
                  have GW373 := n4_
                  have GE373 := n5_
                  have NB366_373 := n6_
                  have NB373_366 := n7_
                  have NB367_373 := n8_
                  have NB373_367 := n9_
                  have NB368_373 := n10_
                  have NB373_368 := n11_
                  have HB := n12_
                  clear n0_ n1_ n2_ n3_ n4_ n5_ n6_ n7_ n8_ n9_ n10_ n11_ n12_
                  have hHeld : w45.cell? ⟨gb366, 0, none⟩ = some (.bool a0_0) ∧ w45.cell? ⟨gb366, 1, none⟩ = some (.slice A0_1 l0_1.length c0_1) ∧ w45.cell? ⟨gb366, 2, none⟩ = some (.string a0_2) ∧ w45.cell? ⟨gb367, 0, none⟩ = some (.int .i64 a5_0) ∧ w45.cell? ⟨gb367, 1, none⟩ = some (.int .i64 a5_1) ∧ w45.cell? ⟨gb367, 2, none⟩ = some (.int .i64 a5_2) ∧ w45.cell? ⟨gb367, 3, none⟩ = some (.int .i64 a5_3) ∧ w45.cell? ⟨gb367, 4, none⟩ = some (.int .i64 a5_4) ∧ w45.cell? ⟨gb367, 5, none⟩ = some (.int .i64 a5_5) ∧ w45.cell? ⟨gb367, 6, none⟩ = some (.bool a5_6) := hS_
                  refine norm_ (a' := ?_) ?_ ?_
                  rotate_left
                  · simp only [putAll, Act.put, List.setIfInBounds_toArray, List.set_cons_zero, List.set_cons_succ]
                    rfl
                  refine one_ (i := 8) (N := some 24) #[true, true, true, true, true, true, true, true, true, true, true, true, false, true, true, false, true, true, false, true, false] rfl rfl (one_of HT_.out (by kernel_rfl)) (by decide) (fun K hK => ?_)
                  refine goes_ Try.func32 (by kernel_rfl) rfl #[.agg #[.bool a0_0, .slice A0_1 l0_1.length c0_1, .string a0_2], .int .u8 90, .int .i64 a5_2] (by rfl) rfl rfl (by (try simp only [List.map_toArray, List.map_cons, List.map_nil]); first | done | rfl | (simp only [List.length_drop, List.length_take]; rfl)) ?_
                  with_reducible refine (swarfref44_value.calls k a0_0 _ _ l0_1 a0_2 90 a5_2 t370 _ ?side1 ?side2 A8.out).mono ?_
                  (case side1 => repeat (first | exact (Kd.C_below HR0_1.out HB.out) | (with_reducible refine Kd.C_alloc ?_ _) | (with_reducible refine Kd.C_drewN ?_ _) | (with_reducible refine Kd.C_drew ?_)))
                  (case side2 => exact HC0_1.out)
                  rintro e w46 ⟨rfl, hb⟩
                  refine ⟨_, rfl, ?_⟩
                  have n0_ := Aside0.mk (blk_below (g := gb366) (o := .cells #[.bool a0_0, .slice A0_1 l0_1.length c0_1, .string a0_2] 54 (0, 0)) (by (with_reducible repeat (first | refine blk_drewN ?_ _ | refine blk_drew ?_ | refine blk_alloc ?_ _)); exact BK366.out) hb)
                  have n1_ := Aside0.mk (blk_below (g := gb367) (o := .cells #[.int .i64 a5_0, .int .i64 a5_1, .int .i64 a5_2, .int .i64 a5_3, .int .i64 a5_4, .int .i64 a5_5, .bool a5_6] 23 (0, 0)) (by (with_reducible repeat (first | refine blk_drewN ?_ _ | refine blk_drew ?_ | refine blk_alloc ?_ _)); exact BK367.out) hb)
                  have n2_ := Aside0.mk (blk_below (g := gb368) (o := .cells #[.int .i64 0, .int .i64 0, .int .i64 0, .int .i64 0, .int .i64 0, .int .i64 0, .bool false] 23 (0, 0)) (by (with_reducible repeat (first | refine blk_drewN ?_ _ | refine blk_drew ?_ | refine blk_alloc ?_ _)); exact BK368.out) hb)
                  have n3_ := Aside0.mk (blk_below (g := gb373) (o := .cells #[.int .i64 0, .int .i64 0, .int .i64 0, .int .i64 0, .int .i64 0, .int .i64 0, .bool false] 23 (0, 0)) (by (with_reducible repeat (first | refine blk_drewN ?_ _ | refine blk_drew ?_ | refine blk_alloc ?_ _)); exact BK373.out) hb)
                  have n4_ := Aside0.mk (below_step (by repeat (first | (with_reducible first | exact HB.out | apply below_alloc | apply pw_below_drewN | apply below_drew1 | refine below_set ?_ GE366.out | refine below_set ?_ GE367.out | refine below_set ?_ GE368.out | refine below_set ?_ GE373.out) | exact HB.out)) hb)
                  clear BK366
                  clear BK367
                  clear BK368
                  clear BK373
                  clear HB
                  have BK366 := n0_
                  have BK367 := n1_
                  have BK368 := n2_
                  have BK373 := n3_
                  have HB := n4_
                  clear n0_ n1_ n2_ n3_ n4_
                  (try clear hb)
                  (try clear hb2)
                  (try clear hk)
                  (try clear hi)
                  refine hK.out _ _ ⟨(blk_cell BK366.out 0).trans rfl, (blk_cell BK366.out 1).trans rfl, (blk_cell BK366.out 2).trans rfl, (blk_cell BK367.out 0).trans rfl, (blk_cell BK367.out 1).trans rfl, (blk_cell BK367.out 2).trans rfl, (blk_cell BK367.out 3).trans rfl, (blk_cell BK367.out 4).trans rfl, (blk_cell BK367.out 5).trans rfl, (blk_cell BK367.out 6).trans rfl⟩ (fun hHeld => ?_)
                  clear hK K
                  refine norm_ (a' := ?_) ?_ ?_
                  rotate_left
                  · show Act.put _ (some 24) _ = _
                    simp only [Act.put, List.setIfInBounds_toArray, List.set_cons_zero, List.set_cons_succ, i64_w, i32_w]
                    rfl
                  exact norm_ (by first | (simp only [putAll, Act.put, List.setIfInBounds_toArray, List.set_cons_zero, List.set_cons_succ]; done) | (simp only [putAll, Act.put, List.setIfInBounds_toArray, List.set_cons_zero, List.set_cons_succ]; rfl)) (hJ4_8_19 (gb373) _ ⟨hHeld, (by (with_reducible repeat (first | refine blk_drewN ?_ _ | refine blk_drew ?_ | refine blk_alloc ?_ _)); exact BK366.out), (by (with_reducible repeat (first | refine blk_drewN ?_ _ | refine blk_drew ?_ | refine blk_alloc ?_ _)); exact BK367.out), (by (with_reducible repeat (first | refine blk_drewN ?_ _ | refine blk_drew ?_ | refine blk_alloc ?_ _)); exact BK368.out), (by (with_reducible repeat (first | refine blk_drewN ?_ _ | refine blk_drew ?_ | refine blk_alloc ?_ _)); exact BK373.out), GW373.out, GE373.out, NB366_373.out, NB373_366.out, NB367_373.out, NB373_367.out, NB368_373.out, NB373_368.out, (by repeat (first | (with_reducible first | exact HB.out | apply below_alloc | apply pw_below_drewN | apply below_drew1 | refine below_set ?_ GE366.out | refine below_set ?_ GE367.out | refine below_set ?_ GE368.out | refine below_set ?_ GE373.out) | exact HB.out))⟩)
              · skip
                rintro _ w45 ⟨hS_, h0_, h1_, h2_, h3_⟩
                have n0_ : Aside0 (w45.heap[gb366]? = some (.cells #[.bool a0_0, .slice A0_1 l0_1.length c0_1, .string a0_2] 54 (0, 0))) := ⟨h0_⟩
                have n1_ : Aside0 (w45.heap[gb367]? = some (.cells #[.int .i64 a5_0, .int .i64 a5_1, .int .i64 a5_2, .int .i64 a5_3, .int .i64 a5_4, .int .i64 a5_5, .bool a5_6] 23 (0, 0))) := ⟨h1_⟩
                have n2_ : Aside0 (w45.heap[gb368]? = some (.cells #[.int .i64 0, .int .i64 0, .int .i64 0, .int .i64 0, .int .i64 0, .int .i64 0, .bool false] 23 (0, 0))) := ⟨h2_⟩
                have n3_ : Aside0 (Below w.heap.size w w45) := ⟨h3_⟩
                clear BK366
                clear BK367
                clear BK368
                clear HB
                clear h0_ h1_ h2_ h3_
                have BK366 := n0_
                have BK367 := n1_
                have BK368 := n2_
                have HB := n3_
                clear n0_ n1_ n2_ n3_
                have hHeld : w45.cell? ⟨gb366, 0, none⟩ = some (.bool a0_0) ∧ w45.cell? ⟨gb366, 1, none⟩ = some (.slice A0_1 l0_1.length c0_1) ∧ w45.cell? ⟨gb366, 2, none⟩ = some (.string a0_2) ∧ w45.cell? ⟨gb367, 0, none⟩ = some (.int .i64 a5_0) ∧ w45.cell? ⟨gb367, 1, none⟩ = some (.int .i64 a5_1) ∧ w45.cell? ⟨gb367, 2, none⟩ = some (.int .i64 a5_2) ∧ w45.cell? ⟨gb367, 3, none⟩ = some (.int .i64 a5_3) ∧ w45.cell? ⟨gb367, 4, none⟩ = some (.int .i64 a5_4) ∧ w45.cell? ⟨gb367, 5, none⟩ = some (.int .i64 a5_5) ∧ w45.cell? ⟨gb367, 6, none⟩ = some (.bool a5_6) := hS_
                refine norm_ (a' := ?_) ?_ ?_
                rotate_left
                · simp only [putAll, Act.put, List.setIfInBounds_toArray, List.set_cons_zero, List.set_cons_succ]
                  rfl
                refine two_ (i := 12) (j := 19) (Ni := some 28) (Nj := some 14) #[true, true, true, true, true, true, true, true, true, true, true, true, true, true, true, false, true, true, false, false, false] #[true, true, true, true, true, true, true, true, true, true, true, true, false, true, true, false, true, true, false, true, false] rfl rfl rfl rfl (two_of HT_.out (by kernel_rfl)) (by decide) (by decide) (fun K hK => ?_) (fun K hK => ?_)
                · skip
                  refine goes_ Try.func32 (by kernel_rfl) rfl #[.agg #[.bool a0_0, .slice A0_1 l0_1.length c0_1, .string a0_2], .int .u8 81, .int .i64 a5_3] (by rfl) rfl rfl (by (try simp only [List.map_toArray, List.map_cons, List.map_nil]); first | done | rfl | (simp only [List.length_drop, List.length_take]; rfl)) ?_
                  with_reducible refine (swarfref44_value.calls k a0_0 _ _ l0_1 a0_2 81 a5_3 t371 _ ?side1 ?side2 A9.out).mono ?_
                  (case side1 => repeat (first | exact (Kd.C_below HR0_1.out HB.out) | (with_reducible refine Kd.C_alloc ?_ _) | (with_reducible refine Kd.C_drewN ?_ _) | (with_reducible refine Kd.C_drew ?_)))
                  (case side2 => exact HC0_1.out)
                  rintro e w46 ⟨rfl, hb⟩
                  refine ⟨_, rfl, ?_⟩
                  have n0_ := Aside0.mk (blk_below (g := gb366) (o := .cells #[.bool a0_0, .slice A0_1 l0_1.length c0_1, .string a0_2] 54 (0, 0)) (by (with_reducible repeat (first | refine blk_drewN ?_ _ | refine blk_drew ?_ | refine blk_alloc ?_ _)); exact BK366.out) hb)
                  have n1_ := Aside0.mk (blk_below (g := gb367) (o := .cells #[.int .i64 a5_0, .int .i64 a5_1, .int .i64 a5_2, .int .i64 a5_3, .int .i64 a5_4, .int .i64 a5_5, .bool a5_6] 23 (0, 0)) (by (with_reducible repeat (first | refine blk_drewN ?_ _ | refine blk_drew ?_ | refine blk_alloc ?_ _)); exact BK367.out) hb)
                  have n2_ := Aside0.mk (blk_below (g := gb368) (o := .cells #[.int .i64 0, .int .i64 0, .int .i64 0, .int .i64 0, .int .i64 0, .int .i64 0, .bool false] 23 (0, 0)) (by (with_reducible repeat (first | refine blk_drewN ?_ _ | refine blk_drew ?_ | refine blk_alloc ?_ _)); exact BK368.out) hb)
                  have n3_ := Aside0.mk (below_step (by repeat (first | (with_reducible first | exact HB.out | apply below_alloc | apply pw_below_drewN | apply below_drew1 | refine below_set ?_ GE366.out | refine below_set ?_ GE367.out | refine below_set ?_ GE368.out) | exact HB.out)) hb)
                  clear BK366
                  clear BK367
                  clear BK368
                  clear HB
                  have BK366 := n0_
                  have BK367 := n1_
                  have BK368 := n2_
                  have HB := n3_
                  clear n0_ n1_ n2_ n3_
                  (try clear hb)
                  (try clear hb2)
                  (try clear hk)
                  (try clear hi)
                  refine hK.out _ _ ⟨(blk_cell BK366.out 0).trans rfl, (blk_cell BK366.out 1).trans rfl, (blk_cell BK366.out 2).trans rfl, (blk_cell BK367.out 0).trans rfl, (blk_cell BK367.out 1).trans rfl, (blk_cell BK367.out 2).trans rfl, (blk_cell BK367.out 3).trans rfl, (blk_cell BK367.out 4).trans rfl, (blk_cell BK367.out 5).trans rfl, (blk_cell BK367.out 6).trans rfl⟩ (fun hHeld => ?_)
                  clear hK K
                  refine norm_ (a' := ?_) ?_ ?_
                  rotate_left
                  · show Act.put _ (some 28) _ = _
                    simp only [Act.put, List.setIfInBounds_toArray, List.set_cons_zero, List.set_cons_succ, i64_w, i32_w]
                    rfl
                  exact norm_ (by first | (simp only [putAll, Act.put, List.setIfInBounds_toArray, List.set_cons_zero, List.set_cons_succ]; done) | (simp only [putAll, Act.put, List.setIfInBounds_toArray, List.set_cons_zero, List.set_cons_succ]; rfl)) (hJ4_8_12 () _ ⟨hHeld, (by (with_reducible repeat (first | refine blk_drewN ?_ _ | refine blk_drew ?_ | refine blk_alloc ?_ _)); exact BK366.out), (by (with_reducible repeat (first | refine blk_drewN ?_ _ | refine blk_drew ?_ | refine blk_alloc ?_ _)); exact BK367.out), (by (with_reducible repeat (first | refine blk_drewN ?_ _ | refine blk_drew ?_ | refine blk_alloc ?_ _)); exact BK368.out), (by repeat (first | (with_reducible first | exact HB.out | apply below_alloc | apply pw_below_drewN | apply below_drew1 | refine below_set ?_ GE366.out | refine below_set ?_ GE367.out | refine below_set ?_ GE368.out) | exact HB.out))⟩)
                · skip
                  refine box_step ?hg (N := 14) ?hd (cs := #[.int .i64 0, .int .i64 0, .int .i64 0, .int .i64 0, .int .i64 0, .int .i64 0, .bool false]) (t := 23) ?hr ?_; (case hd => rfl); (case hg => rfl); (case hr => first | (go_simp; done) | (go_simp; rfl))
                  intro gb373 hg w46 hbox hb
                  have n0_ := Aside0.mk (blk_below (g := gb366) (o := .cells #[.bool a0_0, .slice A0_1 l0_1.length c0_1, .string a0_2] 54 (0, 0)) (by (with_reducible repeat (first | refine blk_drewN ?_ _ | refine blk_drew ?_ | refine blk_alloc ?_ _)); exact BK366.out) hb)
                  have n1_ := Aside0.mk (blk_below (g := gb367) (o := .cells #[.int .i64 a5_0, .int .i64 a5_1, .int .i64 a5_2, .int .i64 a5_3, .int .i64 a5_4, .int .i64 a5_5, .bool a5_6] 23 (0, 0)) (by (with_reducible repeat (first | refine blk_drewN ?_ _ | refine blk_drew ?_ | refine blk_alloc ?_ _)); exact BK367.out) hb)
                  have n2_ := Aside0.mk (blk_below (g := gb368) (o := .cells #[.int .i64 0, .int .i64 0, .int .i64 0, .int .i64 0, .int .i64 0, .int .i64 0, .bool false] 23 (0, 0)) (by (with_reducible repeat (first | refine blk_drewN ?_ _ | refine blk_drew ?_ | refine blk_alloc ?_ _)); exact BK368.out) hb)
                  have n3_ := Aside0.mk (below_step (by repeat (first | (with_reducible first | exact HB.out | apply below_alloc | apply pw_below_drewN | apply below_drew1 | refine below_set ?_ GE366.out | refine below_set ?_ GE367.out | refine below_set ?_ GE368.out) | exact HB.out)) hb)
                  have n4_ := Aside0.mk (hbox)
                  have n5_ := Aside0.mk ((by rw [hg]; exact (below_size (by repeat (first | (with_reducible first | exact HB.out | apply below_alloc | apply pw_below_drewN | apply below_drew1 | refine below_set ?_ GE366.out | refine below_set ?_ GE367.out | refine below_set ?_ GE368.out) | exact HB.out))) : w.heap.size ≤ gb373))
                  have n6_ := Aside0.mk ((by rw [hg]; exact (below_size (by repeat (first | (with_reducible first | exact HB.out | apply below_alloc | apply pw_below_drewN | apply below_drew1 | refine below_set ?_ GE366.out | refine below_set ?_ GE367.out | refine below_set ?_ GE368.out) | exact HB.out))) : w.heap.size ≤ gb373))
                  have n7_ := Aside0.mk ((by rw [hg]; exact Nat.ne_of_lt (blk_lt (g := gb366) (o := .cells #[.bool a0_0, .slice A0_1 l0_1.length c0_1, .string a0_2] 54 (0, 0)) (by (with_reducible repeat (first | refine blk_drewN ?_ _ | refine blk_drew ?_ | refine blk_alloc ?_ _)); exact BK366.out)) : gb366 ≠ gb373))
                  have n8_ := Aside0.mk ((by rw [hg]; exact Nat.ne_of_gt (blk_lt (g := gb366) (o := .cells #[.bool a0_0, .slice A0_1 l0_1.length c0_1, .string a0_2] 54 (0, 0)) (by (with_reducible repeat (first | refine blk_drewN ?_ _ | refine blk_drew ?_ | refine blk_alloc ?_ _)); exact BK366.out)) : gb373 ≠ gb366))
                  have n9_ := Aside0.mk ((by rw [hg]; exact Nat.ne_of_lt (blk_lt (g := gb367) (o := .cells #[.int .i64 a5_0, .int .i64 a5_1, .int .i64 a5_2, .int .i64 a5_3, .int .i64 a5_4, .int .i64 a5_5, .bool a5_6] 23 (0, 0)) (by (with_reducible repeat (first | refine blk_drewN ?_ _ | refine blk_drew ?_ | refine blk_alloc ?_ _)); exact BK367.out)) : gb367 ≠ gb373))
                  have n10_ := Aside0.mk ((by rw [hg]; exact Nat.ne_of_gt (blk_lt (g := gb367) (o := .cells #[.int .i64 a5_0, .int .i64 a5_1, .int .i64 a5_2, .int .i64 a5_3, .int .i64 a5_4, .int .i64 a5_5, .bool a5_6] 23 (0, 0)) (by (with_reducible repeat (first | refine blk_drewN ?_ _ | refine blk_drew ?_ | refine blk_alloc ?_ _)); exact BK367.out)) : gb373 ≠ gb367))
                  have n11_ := Aside0.mk ((by rw [hg]; exact Nat.ne_of_lt (blk_lt (g := gb368) (o := .cells #[.int .i64 0, .int .i64 0, .int .i64 0, .int .i64 0, .int .i64 0, .int .i64 0, .bool false] 23 (0, 0)) (by (with_reducible repeat (first | refine blk_drewN ?_ _ | refine blk_drew ?_ | refine blk_alloc ?_ _)); exact BK368.out)) : gb368 ≠ gb373))
                  have n12_ := Aside0.mk ((by rw [hg]; exact Nat.ne_of_gt (blk_lt (g := gb368) (o := .cells #[.int .i64 0, .int .i64 0, .int .i64 0, .int .i64 0, .int .i64 0, .int .i64 0, .bool false] 23 (0, 0)) (by (with_reducible repeat (first | refine blk_drewN ?_ _ | refine blk_drew ?_ | refine blk_alloc ?_ _)); exact BK368.out)) : gb373 ≠ gb368))
                  clear BK366
                  clear BK367
                  clear BK368
                  clear HB
                  have BK366 := n0_
                  have BK367 := n1_
                  have BK368 := n2_
                  have HB := n3_
                  have BK373 := n4_
                  have GW373 := n5_
                  have GE373 := n6_
                  have NB366_373 := n7_
                  have NB373_366 := n8_
                  have NB367_373 := n9_
                  have NB373_367 := n10_
                  have NB368_373 := n11_
                  have NB373_368 := n12_
                  clear n0_ n1_ n2_ n3_ n4_ n5_ n6_ n7_ n8_ n9_ n10_ n11_ n12_
                  clear hb hbox hg
                  refine hK.out _ _ ⟨(blk_cell BK366.out 0).trans rfl, (blk_cell BK366.out 1).trans rfl, (blk_cell BK366.out 2).trans rfl, (blk_cell BK367.out 0).trans rfl, (blk_cell BK367.out 1).trans rfl, (blk_cell BK367.out 2).trans rfl, (blk_cell BK367.out 3).trans rfl, (blk_cell BK367.out 4).trans rfl, (blk_cell BK367.out 5).trans rfl, (blk_cell BK367.out 6).trans rfl⟩ (fun hHeld => ?_)
                  clear hK K
                  refine norm_ (a' := ?_) ?_ ?_
                  rotate_left
                  · show Act.put _ (some 14) _ = _
                    simp only [Act.put, List.setIfInBounds_toArray, List.set_cons_zero, List.set_cons_succ, i64_w, i32_w]
                    rfl
                  exact norm_ (by first | (simp only [putAll, Act.put, List.setIfInBounds_toArray, List.set_cons_zero, List.set_cons_succ]; done) | (simp only [putAll, Act.put, List.setIfInBounds_toArray, List.set_cons_zero, List.set_cons_succ]; rfl)) (hJ4_8_19 (gb373) _ ⟨hHeld, (by (with_reducible repeat (first | refine blk_drewN ?_ _ | refine blk_drew ?_ | refine blk_alloc ?_ _)); exact BK366.out), (by (with_reducible repeat (first | refine blk_drewN ?_ _ | refine blk_drew ?_ | refine blk_alloc ?_ _)); exact BK367.out), (by (with_reducible repeat (first | refine blk_drewN ?_ _ | refine blk_drew ?_ | refine blk_alloc ?_ _)); exact BK368.out), (by (with_reducible repeat (first | refine blk_drewN ?_ _ | refine blk_drew ?_ | refine blk_alloc ?_ _)); exact BK373.out), GW373.out, GE373.out, NB366_373.out, NB373_366.out, NB367_373.out, NB373_367.out, NB368_373.out, NB373_368.out, (by repeat (first | (with_reducible first | exact HB.out | apply below_alloc | apply pw_below_drewN | apply below_drew1 | refine below_set ?_ GE366.out | refine below_set ?_ GE367.out | refine below_set ?_ GE368.out | refine below_set ?_ GE373.out) | exact HB.out))⟩)
            · skip
              rintro gb373 w46 ⟨hS_, h0_, h1_, h2_, h3_, h4_, h5_, h6_, h7_, h8_, h9_, h10_, h11_, h12_⟩
              have n0_ : Aside0 (w46.heap[gb366]? = some (.cells #[.bool a0_0, .slice A0_1 l0_1.length c0_1, .string a0_2] 54 (0, 0))) := ⟨h0_⟩
              have n1_ : Aside0 (w46.heap[gb367]? = some (.cells #[.int .i64 a5_0, .int .i64 a5_1, .int .i64 a5_2, .int .i64 a5_3, .int .i64 a5_4, .int .i64 a5_5, .bool a5_6] 23 (0, 0))) := ⟨h1_⟩
              have n2_ : Aside0 (w46.heap[gb368]? = some (.cells #[.int .i64 0, .int .i64 0, .int .i64 0, .int .i64 0, .int .i64 0, .int .i64 0, .bool false] 23 (0, 0))) := ⟨h2_⟩
              have n3_ : Aside0 (w46.heap[gb373]? = some (.cells #[.int .i64 0, .int .i64 0, .int .i64 0, .int .i64 0, .int .i64 0, .int .i64 0, .bool false] 23 (0, 0))) := ⟨h3_⟩
              have n4_ : Aside0 (w.heap.size ≤ gb373) := ⟨h4_⟩
              have n5_ : Aside0 (w.heap.size ≤ gb373) := ⟨h5_⟩
              have n6_ : Aside0 (gb366 ≠ gb373) := ⟨h6_⟩
              have n7_ : Aside0 (gb373 ≠ gb366) := ⟨h7_⟩
              have n8_ : Aside0 (gb367 ≠ gb373) := ⟨h8_⟩
              have n9_ : Aside0 (gb373 ≠ gb367) := ⟨h9_⟩
              have n10_ : Aside0 (gb368 ≠ gb373) := ⟨h10_⟩
              have n11_ : Aside0 (gb373 ≠ gb368) := ⟨h11_⟩
              have n12_ : Aside0 (Below w.heap.size w w46) := ⟨h12_⟩
              clear BK366
              clear BK367
              clear BK368
              clear HB
              clear h0_ h1_ h2_ h3_ h4_ h5_ h6_ h7_ h8_ h9_ h10_ h11_ h12_
              have BK366 := n0_
              have BK367 := n1_
              have BK368 := n2_
              have BK373 := n3_
              have GW373 := n4_
              have GE373 := n5_
              have NB366_373 := n6_
              have NB373_366 := n7_
              have NB367_373 := n8_
              have NB373_367 := n9_
              have NB368_373 := n10_
              have NB373_368 := n11_
              have HB := n12_
              clear n0_ n1_ n2_ n3_ n4_ n5_ n6_ n7_ n8_ n9_ n10_ n11_ n12_
              have hHeld : w46.cell? ⟨gb366, 0, none⟩ = some (.bool a0_0) ∧ w46.cell? ⟨gb366, 1, none⟩ = some (.slice A0_1 l0_1.length c0_1) ∧ w46.cell? ⟨gb366, 2, none⟩ = some (.string a0_2) ∧ w46.cell? ⟨gb367, 0, none⟩ = some (.int .i64 a5_0) ∧ w46.cell? ⟨gb367, 1, none⟩ = some (.int .i64 a5_1) ∧ w46.cell? ⟨gb367, 2, none⟩ = some (.int .i64 a5_2) ∧ w46.cell? ⟨gb367, 3, none⟩ = some (.int .i64 a5_3) ∧ w46.cell? ⟨gb367, 4, none⟩ = some (.int .i64 a5_4) ∧ w46.cell? ⟨gb367, 5, none⟩ = some (.int .i64 a5_5) ∧ w46.cell? ⟨gb367, 6, none⟩ = some (.bool a5_6) := hS_
              refine norm_ (a' := ?_) ?_ ?_
              rotate_left
              · simp only [putAll, Act.put, List.setIfInBounds_toArray, List.set_cons_zero, List.set_cons_succ]
                rfl
              refine one_ (i := 12) (N := some 28) #[true, true, true, true, true, true, true, true, true, true, true, true, true, true, true, false, true, true, false, true, false] rfl rfl (one_of HT_.out (by kernel_rfl)) (by decide) (fun K hK => ?_)
              refine goes_ Try.func32 (by kernel_rfl) rfl #[.agg #[.bool a0_0, .slice A0_1 l0_1.length c0_1, .string a0_2], .int .u8 81, .int .i64 a5_3] (by rfl) rfl rfl (by (try simp only [List.map_toArray, List.map_cons, List.map_nil]); first | done | rfl | (simp only [List.length_drop, List.length_take]; rfl)) ?_
              with_reducible refine (swarfref44_value.calls k a0_0 _ _ l0_1 a0_2 81 a5_3 t371 _ ?side1 ?side2 A9.out).mono ?_
              (case side1 => repeat (first | exact (Kd.C_below HR0_1.out HB.out) | (with_reducible refine Kd.C_alloc ?_ _) | (with_reducible refine Kd.C_drewN ?_ _) | (with_reducible refine Kd.C_drew ?_)))
              (case side2 => exact HC0_1.out)
              rintro e w47 ⟨rfl, hb⟩
              refine ⟨_, rfl, ?_⟩
              have n0_ := Aside0.mk (blk_below (g := gb366) (o := .cells #[.bool a0_0, .slice A0_1 l0_1.length c0_1, .string a0_2] 54 (0, 0)) (by (with_reducible repeat (first | refine blk_drewN ?_ _ | refine blk_drew ?_ | refine blk_alloc ?_ _)); exact BK366.out) hb)
              have n1_ := Aside0.mk (blk_below (g := gb367) (o := .cells #[.int .i64 a5_0, .int .i64 a5_1, .int .i64 a5_2, .int .i64 a5_3, .int .i64 a5_4, .int .i64 a5_5, .bool a5_6] 23 (0, 0)) (by (with_reducible repeat (first | refine blk_drewN ?_ _ | refine blk_drew ?_ | refine blk_alloc ?_ _)); exact BK367.out) hb)
              have n2_ := Aside0.mk (blk_below (g := gb368) (o := .cells #[.int .i64 0, .int .i64 0, .int .i64 0, .int .i64 0, .int .i64 0, .int .i64 0, .bool false] 23 (0, 0)) (by (with_reducible repeat (first | refine blk_drewN ?_ _ | refine blk_drew ?_ | refine blk_alloc ?_ _)); exact BK368.out) hb)
              have n3_ := Aside0.mk (blk_below (g := gb373) (o := .cells #[.int .i64 0, .int .i64 0, .int .i64 0, .int .i64 0, .int .i64 0, .int .i64 0, .bool false] 23 (0, 0)) (by (with_reducible repeat (first | refine blk_drewN ?_ _ | refine blk_drew ?_ | refine blk_alloc ?_ _)); exact BK373.out) hb)
              have n4_ := Aside0.mk (below_step (by repeat (first | (with_reducible first | exact HB.out | apply below_alloc | apply pw_below_drewN | apply below_drew1 | refine below_set ?_ GE366.out | refine below_set ?_ GE367.out | refine below_set ?_ GE368.out | refine below_set ?_ GE373.out) | exact HB.out)) hb)
              clear BK366
              clear BK367
              clear BK368
              clear BK373
              clear HB
              have BK366 := n0_
              have BK367 := n1_
              have BK368 := n2_
              have BK373 := n3_
              have HB := n4_
              clear n0_ n1_ n2_ n3_ n4_
              (try clear hb)
              (try clear hb2)
              (try clear hk)
              (try clear hi)
              refine hK.out _ _ ⟨(blk_cell BK366.out 0).trans rfl, (blk_cell BK366.out 1).trans rfl, (blk_cell BK366.out 2).trans rfl, (blk_cell BK367.out 0).trans rfl, (blk_cell BK367.out 1).trans rfl, (blk_cell BK367.out 2).trans rfl, (blk_cell BK367.out 3).trans rfl, (blk_cell BK367.out 4).trans rfl, (blk_cell BK367.out 5).trans rfl, (blk_cell BK367.out 6).trans rfl⟩ (fun hHeld => ?_)
              clear hK K
              refine norm_ (a' := ?_) ?_ ?_
              rotate_left
              · show Act.put _ (some 28) _ = _
                simp only [Act.put, List.setIfInBounds_toArray, List.set_cons_zero, List.set_cons_succ, i64_w, i32_w]
                rfl
              exact norm_ (by first | (simp only [putAll, Act.put, List.setIfInBounds_toArray, List.set_cons_zero, List.set_cons_succ]; done) | (simp only [putAll, Act.put, List.setIfInBounds_toArray, List.set_cons_zero, List.set_cons_succ]; rfl)) (hJ4_8_12_19 (gb373) _ ⟨hHeld, (by (with_reducible repeat (first | refine blk_drewN ?_ _ | refine blk_drew ?_ | refine blk_alloc ?_ _)); exact BK366.out), (by (with_reducible repeat (first | refine blk_drewN ?_ _ | refine blk_drew ?_ | refine blk_alloc ?_ _)); exact BK367.out), (by (with_reducible repeat (first | refine blk_drewN ?_ _ | refine blk_drew ?_ | refine blk_alloc ?_ _)); exact BK368.out), (by (with_reducible repeat (first | refine blk_drewN ?_ _ | refine blk_drew ?_ | refine blk_alloc ?_ _)); exact BK373.out), GW373.out, GE373.out, NB366_373.out, NB373_366.out, NB367_373.out, NB373_367.out, NB368_373.out, NB373_368.out, (by repeat (first | (with_reducible first | exact HB.out | apply below_alloc | apply pw_below_drewN | apply below_drew1 | refine below_set ?_ GE366.out | refine below_set ?_ GE367.out | refine below_set ?_ GE368.out | refine below_set ?_ GE373.out) | exact HB.out))⟩)
          · skip
            rintro _ w46 ⟨hS_, h0_, h1_, h2_, h3_⟩
            have n0_ : Aside0 (w46.heap[gb366]? = some (.cells #[.bool a0_0, .slice A0_1 l0_1.length c0_1, .string a0_2] 54 (0, 0))) := ⟨h0_⟩
            have n1_ : Aside0 (w46.heap[gb367]? = some (.cells #[.int .i64 a5_0, .int .i64 a5_1, .int .i64 a5_2, .int .i64 a5_3, .int .i64 a5_4, .int .i64 a5_5, .bool a5_6] 23 (0, 0))) := ⟨h1_⟩
            have n2_ : Aside0 (w46.heap[gb368]? = some (.cells #[.int .i64 0, .int .i64 0, .int .i64 0, .int .i64 0, .int .i64 0, .int .i64 0, .bool false] 23 (0, 0))) := ⟨h2_⟩
            have n3_ : Aside0 (Below w.heap.size w w46) := ⟨h3_⟩
            clear BK366
            clear BK367
            clear BK368
            clear HB
            clear h0_ h1_ h2_ h3_
            have BK366 := n0_
            have BK367 := n1_
            have BK368 := n2_
            have HB := n3_
            clear n0_ n1_ n2_ n3_
            have hHeld : w46.cell? ⟨gb366, 0, none⟩ = some (.bool a0_0) ∧ w46.cell? ⟨gb366, 1, none⟩ = some (.slice A0_1 l0_1.length c0_1) ∧ w46.cell? ⟨gb366, 2, none⟩ = some (.string a0_2) ∧ w46.cell? ⟨gb367, 0, none⟩ = some (.int .i64 a5_0) ∧ w46.cell? ⟨gb367, 1, none⟩ = some (.int .i64 a5_1) ∧ w46.cell? ⟨gb367, 2, none⟩ = some (.int .i64 a5_2) ∧ w46.cell? ⟨gb367, 3, none⟩ = some (.int .i64 a5_3) ∧ w46.cell? ⟨gb367, 4, none⟩ = some (.int .i64 a5_4) ∧ w46.cell? ⟨gb367, 5, none⟩ = some (.int .i64 a5_5) ∧ w46.cell? ⟨gb367, 6, none⟩ = some (.bool a5_6) := hS_
            refine norm_ (a' := ?_) ?_ ?_
            rotate_left
            · simp only [putAll, Act.put, List.setIfInBounds_toArray, List.set_cons_zero, List.set_cons_succ]
              rfl
            refine two_ (i := 15) (j := 19) (Ni := some 31) (Nj := some 14) #[true, true, true, true, true, true, true, true, true, true, true, true, true, true, true, true, true, true, false, false, false] #[true, true, true, true, true, true, true, true, true, true, true, true, true, true, true, false, true, true, false, true, false] rfl rfl rfl rfl (two_of HT_.out (by kernel_rfl)) (by decide) (by decide) (fun K hK => ?_) (fun K hK => ?_)
            · skip
              refine goes_ Try.func32 (by kernel_rfl) rfl #[.agg #[.bool a0_0, .slice A0_1 l0_1.length c0_1, .string a0_2], .int .u8 70, .int .i64 a2] (by rfl) rfl rfl (by (try simp only [List.map_toArray, List.map_cons, List.map_nil]); first | done | rfl | (simp only [List.length_drop, List.length_take]; rfl)) ?_
              with_reducible refine (swarfref44_value.calls k a0_0 _ _ l0_1 a0_2 70 a2 t372 _ ?side1 ?side2 A10.out).mono ?_
              (case side1 => repeat (first | exact (Kd.C_below HR0_1.out HB.out) | (with_reducible refine Kd.C_alloc ?_ _) | (with_reducible refine Kd.C_drewN ?_ _) | (with_reducible refine Kd.C_drew ?_)))
              (case side2 => exact HC0_1.out)
              rintro e w47 ⟨rfl, hb⟩
              refine ⟨_, rfl, ?_⟩
              have n0_ := Aside0.mk (blk_below (g := gb366) (o := .cells #[.bool a0_0, .slice A0_1 l0_1.length c0_1, .string a0_2] 54 (0, 0)) (by (with_reducible repeat (first | refine blk_drewN ?_ _ | refine blk_drew ?_ | refine blk_alloc ?_ _)); exact BK366.out) hb)
              have n1_ := Aside0.mk (blk_below (g := gb367) (o := .cells #[.int .i64 a5_0, .int .i64 a5_1, .int .i64 a5_2, .int .i64 a5_3, .int .i64 a5_4, .int .i64 a5_5, .bool a5_6] 23 (0, 0)) (by (with_reducible repeat (first | refine blk_drewN ?_ _ | refine blk_drew ?_ | refine blk_alloc ?_ _)); exact BK367.out) hb)
              have n2_ := Aside0.mk (blk_below (g := gb368) (o := .cells #[.int .i64 0, .int .i64 0, .int .i64 0, .int .i64 0, .int .i64 0, .int .i64 0, .bool false] 23 (0, 0)) (by (with_reducible repeat (first | refine blk_drewN ?_ _ | refine blk_drew ?_ | refine blk_alloc ?_ _)); exact BK368.out) hb)
              have n3_ := Aside0.mk (below_step (by repeat (first | (with_reducible first | exact HB.out | apply below_alloc | apply pw_below_drewN | apply below_drew1 | refine below_set ?_ GE366.out | refine below_set ?_ GE367.out | refine below_set ?_ GE368.out) | exact HB.out)) hb)
              clear BK366
              clear BK367
              clear BK368
              clear HB
              have BK366 := n0_
              have BK367 := n1_
              have BK368 := n2_
              have HB := n3_
              clear n0_ n1_ n2_ n3_
              (try clear hb)
              (try clear hb2)
              (try clear hk)
              (try clear hi)
              refine hK.out _ _ ⟨(blk_cell BK366.out 0).trans rfl, (blk_cell BK366.out 1).trans rfl, (blk_cell BK366.out 2).trans rfl, (blk_cell BK367.out 0).trans rfl, (blk_cell BK367.out 1).trans rfl, (blk_cell BK367.out 2).trans rfl, (blk_cell BK367.out 3).trans rfl, (blk_cell BK367.out 4).trans rfl, (blk_cell BK367.out 5).trans rfl, (blk_cell BK367.out 6).trans rfl⟩ (fun hHeld => ?_)
              clear hK K
              refine norm_ (a' := ?_) ?_ ?_
              rotate_left
              · show Act.put _ (some 31) _ = _
                simp only [Act.put, List.setIfInBounds_toArray, List.set_cons_zero, List.set_cons_succ, i64_w, i32_w]
                rfl
              refine pure_ (i := 18) (N := some 34) (v := ?_) (a' := ?_) #[true, true, true, true, true, true, true, true, true, true, true, true, true, true, true, true, true, true, true, false, false] rfl rfl (any_of HT_.out (by kernel_rfl)) (fun _ _ _ h => h) (Or.inl ⟨by rfl, ?_⟩) ?_ ?_
              rotate_left
              · intro w'
                go_simp
                with_reducible rfl
              rotate_left
              · simp only [Act.put, List.setIfInBounds_toArray, List.set_cons_zero, List.set_cons_succ, i64_w, i32_w]
                rfl
              exact norm_ (by first | (simp only [putAll, Act.put, List.setIfInBounds_toArray, List.set_cons_zero, List.set_cons_succ]; done) | (simp only [putAll, Act.put, List.setIfInBounds_toArray, List.set_cons_zero, List.set_cons_succ]; rfl)) (hJ4_8_12_15 () _ ⟨hHeld, (by (with_reducible repeat (first | refine blk_drewN ?_ _ | refine blk_drew ?_ | refine blk_alloc ?_ _)); exact BK366.out), (by (with_reducible repeat (first | refine blk_drewN ?_ _ | refine blk_drew ?_ | refine blk_alloc ?_ _)); exact BK367.out), (by (with_reducible repeat (first | refine blk_drewN ?_ _ | refine blk_drew ?_ | refine blk_alloc ?_ _)); exact BK368.out), (by repeat (first | (with_reducible first | exact HB.out | apply below_alloc | apply pw_below_drewN | apply below_drew1 | refine below_set ?_ GE366.out | refine below_set ?_ GE367.out | refine below_set ?_ GE368.out) | exact HB.out))⟩)
            · skip
              refine box_step ?hg (N := 14) ?hd (cs := #[.int .i64 0, .int .i64 0, .int .i64 0, .int .i64 0, .int .i64 0, .int .i64 0, .bool false]) (t := 23) ?hr ?_; (case hd => rfl); (case hg => rfl); (case hr => first | (go_simp; done) | (go_simp; rfl))
              intro gb373 hg w47 hbox hb
              have n0_ := Aside0.mk (blk_below (g := gb366) (o := .cells #[.bool a0_0, .slice A0_1 l0_1.length c0_1, .string a0_2] 54 (0, 0)) (by (with_reducible repeat (first | refine blk_drewN ?_ _ | refine blk_drew ?_ | refine blk_alloc ?_ _)); exact BK366.out) hb)
              have n1_ := Aside0.mk (blk_below (g := gb367) (o := .cells #[.int .i64 a5_0, .int .i64 a5_1, .int .i64 a5_2, .int .i64 a5_3, .int .i64 a5_4, .int .i64 a5_5, .bool a5_6] 23 (0, 0)) (by (with_reducible repeat (first | refine blk_drewN ?_ _ | refine blk_drew ?_ | refine blk_alloc ?_ _)); exact BK367.out) hb)
              have n2_ := Aside0.mk (blk_below (g := gb368) (o := .cells #[.int .i64 0, .int .i64 0, .int .i64 0, .int .i64 0, .int .i64 0, .int .i64 0, .bool false] 23 (0, 0)) (by (with_reducible repeat (first | refine blk_drewN ?_ _ | refine blk_drew ?_ | refine blk_alloc ?_ _)); exact BK368.out) hb)
              have n3_ := Aside0.mk (below_step (by repeat (first | (with_reducible first | exact HB.out | apply below_alloc | apply pw_below_drewN | apply below_drew1 | refine below_set ?_ GE366.out | refine below_set ?_ GE367.out | refine below_set ?_ GE368.out) | exact HB.out)) hb)
              have n4_ := Aside0.mk (hbox)
              have n5_ := Aside0.mk ((by rw [hg]; exact (below_size (by repeat (first | (with_reducible first | exact HB.out | apply below_alloc | apply pw_below_drewN | apply below_drew1 | refine below_set ?_ GE366.out | refine below_set ?_ GE367.out | refine below_set ?_ GE368.out) | exact HB.out))) : w.heap.size ≤ gb373))
              have n6_ := Aside0.mk ((by rw [hg]; exact (below_size (by repeat (first | (with_reducible first | exact HB.out | apply below_alloc | apply pw_below_drewN | apply below_drew1 | refine below_set ?_ GE366.out | refine below_set ?_ GE367.out | refine below_set ?_ GE368.out) | exact HB.out))) : w.heap.size ≤ gb373))
              have n7_ := Aside0.mk ((by rw [hg]; exact Nat.ne_of_lt (blk_lt (g := gb366) (o := .cells #[.bool a0_0, .slice A0_1 l0_1.length c0_1, .string a0_2] 54 (0, 0)) (by (with_reducible repeat (first | refine blk_drewN ?_ _ | refine blk_drew ?_ | refine blk_alloc ?_ _)); exact BK366.out)) : gb366 ≠ gb373))
              have n8_ := Aside0.mk ((by rw [hg]; exact Nat.ne_of_gt (blk_lt (g := gb366) (o := .cells #[.bool a0_0, .slice A0_1 l0_1.length c0_1, .string a0_2] 54 (0, 0)) (by (with_reducible repeat (first | refine blk_drewN ?_ _ | refine blk_drew ?_ | refine blk_alloc ?_ _)); exact BK366.out)) : gb373 ≠ gb366))
              have n9_ := Aside0.mk ((by rw [hg]; exact Nat.ne_of_lt (blk_lt (g := gb367) (o := .cells #[.int .i64 a5_0, .int .i64 a5_1, .int .i64 a5_2, .int .i64 a5_3, .int .i64 a5_4, .int .i64 a5_5, .bool a5_6] 23 (0, 0)) (by (with_reducible repeat (first | refine blk_drewN ?_ _ | refine blk_drew ?_ | refine blk_alloc ?_ _)); exact BK367.out)) : gb367 ≠ gb373))
              have n10_ := Aside0.mk ((by rw [hg]; exact Nat.ne_of_gt (blk_lt (g := gb367) (o := .cells #[.int .i64 a5_0, .int .i64 a5_1, .int .i64 a5_2, .int .i64 a5_3, .int .i64 a5_4, .int .i64 a5_5, .bool a5_6] 23 (0, 0)) (by (with_reducible repeat (first | refine blk_drewN ?_ _ | refine blk_drew ?_ | refine blk_alloc ?_ _)); exact BK367.out)) : gb373 ≠ gb367))
              have n11_ := Aside0.mk ((by rw [hg]; exact Nat.ne_of_lt (blk_lt (g := gb368) (o := .cells #[.int .i64 0, .int .i64 0, .int .i64 0, .int .i64 0, .int .i64 0, .int .i64 0, .bool false] 23 (0, 0)) (by (with_reducible repeat (first | refine blk_drewN ?_ _ | refine blk_drew ?_ | refine blk_alloc ?_ _)); exact BK368.out)) : gb368 ≠ gb373))
              have n12_ := Aside0.mk ((by rw [hg]; exact Nat.ne_of_gt (blk_lt (g := gb368) (o := .cells #[.int .i64 0, .int .i64 0, .int .i64 0, .int .i64 0, .int .i64 0, .int .i64 0, .bool false] 23 (0, 0)) (by (with_reducible repeat (first | refine blk_drewN ?_ _ | refine blk_drew ?_ | refine blk_alloc ?_ _)); exact BK368.out)) : gb373 ≠ gb368))
              clear BK366
              clear BK367
              clear BK368
              clear HB
              have BK366 := n0_
              have BK367 := n1_
              have BK368 := n2_
              have HB := n3_
              have BK373 := n4_
              have GW373 := n5_
              have GE373 := n6_
              have NB366_373 := n7_
              have NB373_366 := n8_
              have NB367_373 := n9_
              have NB373_367 := n10_
              have NB368_373 := n11_
              have NB373_368 := n12_
              clear n0_ n1_ n2_ n3_ n4_ n5_ n6_ n7_ n8_ n9_ n10_ n11_ n12_
              clear hb hbox hg
              refine hK.out _ _ ⟨(blk_cell BK366.out 0).trans rfl, (blk_cell BK366.out 1).trans rfl, (blk_cell BK366.out 2).trans rfl, (blk_cell BK367.out 0).trans rfl, (blk_cell BK367.out 1).trans rfl, (blk_cell BK367.out 2).trans rfl, (blk_cell BK367.out 3).trans rfl, (blk_cell BK367.out 4).trans rfl, (blk_cell BK367.out 5).trans rfl, (blk_cell BK367.out 6).trans rfl⟩ (fun hHeld => ?_)
              clear hK K
              refine norm_ (a' := ?_) ?_ ?_
              rotate_left
              · show Act.put _ (some 14) _ = _
                simp only [Act.put, List.setIfInBounds_toArray, List.set_cons_zero, List.set_cons_succ, i64_w, i32_w]
                rfl
              exact norm_ (by first | (simp only [putAll, Act.put, List.setIfInBounds_toArray, List.set_cons_zero, List.set_cons_succ]; done) | (simp only [putAll, Act.put, List.setIfInBounds_toArray, List.set_cons_zero, List.set_cons_succ]; rfl)) (hJ4_8_12_19 (gb373) _ ⟨hHeld, (by (with_reducible repeat (first | refine blk_drewN ?_ _ | refine blk_drew ?_ | refine blk_alloc ?_ _)); exact BK366.out), (by (with_reducible repeat (first | refine blk_drewN ?_ _ | refine blk_drew ?_ | refine blk_alloc ?_ _)); exact BK367.out), (by (with_reducible repeat (first | refine blk_drewN ?_ _ | refine blk_drew ?_ | refine blk_alloc ?_ _)); exact BK368.out), (by (with_reducible repeat (first | refine blk_drewN ?_ _ | refine blk_drew ?_ | refine blk_alloc ?_ _)); exact BK373.out), GW373.out, GE373.out, NB366_373.out, NB373_366.out, NB367_373.out, NB373_367.out, NB368_373.out, NB373_368.out, (by repeat (first | (with_reducible first | exact HB.out | apply below_alloc | apply pw_below_drewN | apply below_drew1 | refine below_set ?_ GE366.out | refine below_set ?_ GE367.out | refine below_set ?_ GE368.out | refine below_set ?_ GE373.out) | exact HB.out))⟩)
        · skip
          rintro gb373 w47 ⟨hS_, h0_, h1_, h2_, h3_, h4_, h5_, h6_, h7_, h8_, h9_, h10_, h11_, h12_⟩
          have n0_ : Aside0 (w47.heap[gb366]? = some (.cells #[.bool a0_0, .slice A0_1 l0_1.length c0_1, .string a0_2] 54 (0, 0))) := ⟨h0_⟩
          have n1_ : Aside0 (w47.heap[gb367]? = some (.cells #[.int .i64 a5_0, .int .i64 a5_1, .int .i64 a5_2, .int .i64 a5_3, .int .i64 a5_4, .int .i64 a5_5, .bool a5_6] 23 (0, 0))) := ⟨h1_⟩
          have n2_ : Aside0 (w47.heap[gb368]? = some (.cells #[.int .i64 0, .int .i64 0, .int .i64 0, .int .i64 0, .int .i64 0, .int .i64 0, .bool false] 23 (0, 0))) := ⟨h2_⟩
          have n3_ : Aside0 (w47.heap[gb373]? = some (.cells #[.int .i64 0, .int .i64 0, .int .i64 0, .int .i64 0, .int .i64 0, .int .i64 0, .bool false] 23 (0, 0))) := ⟨h3_⟩
          have n4_ : Aside0 (w.heap.size ≤ gb373) := ⟨h4_⟩
          have n5_ : Aside0 (w.heap.size ≤ gb373) := ⟨h5_⟩
          have n6_ : Aside0 (gb366 ≠ gb373) := ⟨h6_⟩
          have n7_ : Aside0 (gb373 ≠ gb366) := ⟨h7_⟩
          have n8_ : Aside0 (gb367 ≠ gb373) := ⟨h8_⟩
          have n9_ : Aside0 (gb373 ≠ gb367) := ⟨h9_⟩
          have n10_ : Aside0 (gb368 ≠ gb373) := ⟨h10_⟩
          have n11_ : Aside0 (gb373 ≠ gb368) := ⟨h11_⟩
          have n12_ : Aside0 (Below w.heap.size w w47) := ⟨h12_⟩
          clear BK366
          clear BK367
          clear BK368
          clear HB
          clear h0_ h1_ h2_ h3_ h4_ h5_ h6_ h7_ h8_ h9_ h10_ h11_ h12_
          have BK366 := n0_
          have BK367 := n1_
          have BK368 := n2_
          have BK373 := n3_
          have GW373 := n4_
          have GE373 := n5_
          have NB366_373 := n6_
          have NB373_366 := n7_
          have NB367_373 := n8_
          have NB373_367 := n9_
          have NB368_373 := n10_
          have NB373_368 := n11_
          have HB := n12_
          clear n0_ n1_ n2_ n3_ n4_ n5_ n6_ n7_ n8_ n9_ n10_ n11_ n12_
          have hHeld : w47.cell? ⟨gb366, 0, none⟩ = some (.bool a0_0) ∧ w47.cell? ⟨gb366, 1, none⟩ = some (.slice A0_1 l0_1.length c0_1) ∧ w47.cell? ⟨gb366, 2, none⟩ = some (.string a0_2) ∧ w47.cell? ⟨gb367, 0, none⟩ = some (.int .i64 a5_0) ∧ w47.cell? ⟨gb367, 1, none⟩ = some (.int .i64 a5_1) ∧ w47.cell? ⟨gb367, 2, none⟩ = some (.int .i64 a5_2) ∧ w47.cell? ⟨gb367, 3, none⟩ = some (.int .i64 a5_3) ∧ w47.cell? ⟨gb367, 4, none⟩ = some (.int .i64 a5_4) ∧ w47.cell? ⟨gb367, 5, none⟩ = some (.int .i64 a5_5) ∧ w47.cell? ⟨gb367, 6, none⟩ = some (.bool a5_6) := hS_
          refine norm_ (a' := ?_) ?_ ?_
          rotate_left
          · simp only [putAll, Act.put, List.setIfInBounds_toArray, List.set_cons_zero, List.set_cons_succ]
            rfl
          refine one_ (i := 15) (N := some 31) #[true, true, true, true, true, true, true, true, true, true, true, true, true, true, true, true, true, true, false, true, false] rfl rfl (one_of HT_.out (by kernel_rfl)) (by decide) (fun K hK => ?_)
          refine goes_ Try.func32 (by kernel_rfl) rfl #[.agg #[.bool a0_0, .slice A0_1 l0_1.length c0_1, .string a0_2], .int .u8 70, .int .i64 a2] (by rfl) rfl rfl (by (try simp only [List.map_toArray, List.map_cons, List.map_nil]); first | done | rfl | (simp only [List.length_drop, List.length_take]; rfl)) ?_
          with_reducible refine (swarfref44_value.calls k a0_0 _ _ l0_1 a0_2 70 a2 t372 _ ?side1 ?side2 A10.out).mono ?_
          (case side1 => repeat (first | exact (Kd.C_below HR0_1.out HB.out) | (with_reducible refine Kd.C_alloc ?_ _) | (with_reducible refine Kd.C_drewN ?_ _) | (with_reducible refine Kd.C_drew ?_)))
          (case side2 => exact HC0_1.out)
          rintro e w48 ⟨rfl, hb⟩
          refine ⟨_, rfl, ?_⟩
          have n0_ := Aside0.mk (blk_below (g := gb366) (o := .cells #[.bool a0_0, .slice A0_1 l0_1.length c0_1, .string a0_2] 54 (0, 0)) (by (with_reducible repeat (first | refine blk_drewN ?_ _ | refine blk_drew ?_ | refine blk_alloc ?_ _)); exact BK366.out) hb)
          have n1_ := Aside0.mk (blk_below (g := gb367) (o := .cells #[.int .i64 a5_0, .int .i64 a5_1, .int .i64 a5_2, .int .i64 a5_3, .int .i64 a5_4, .int .i64 a5_5, .bool a5_6] 23 (0, 0)) (by (with_reducible repeat (first | refine blk_drewN ?_ _ | refine blk_drew ?_ | refine blk_alloc ?_ _)); exact BK367.out) hb)
          have n2_ := Aside0.mk (blk_below (g := gb368) (o := .cells #[.int .i64 0, .int .i64 0, .int .i64 0, .int .i64 0, .int .i64 0, .int .i64 0, .bool false] 23 (0, 0)) (by (with_reducible repeat (first | refine blk_drewN ?_ _ | refine blk_drew ?_ | refine blk_alloc ?_ _)); exact BK368.out) hb)
          have n3_ := Aside0.mk (blk_below (g := gb373) (o := .cells #[.int .i64 0, .int .i64 0, .int .i64 0, .int .i64 0, .int .i64 0, .int .i64 0, .bool false] 23 (0, 0)) (by (with_reducible repeat (first | refine blk_drewN ?_ _ | refine blk_drew ?_ | refine blk_alloc ?_ _)); exact BK373.out) hb)
          have n4_ := Aside0.mk (below_step (by repeat (first | (with_reducible first | exact HB.out | apply below_alloc | apply pw_below_drewN | apply below_drew1 | refine below_set ?_ GE366.out | refine below_set ?_ GE367.out | refine below_set ?_ GE368.out | refine below_set ?_ GE373.out) | exact HB.out)) hb)
          clear BK366
          clear BK367
          clear BK368
          clear BK373
          clear HB
          have BK366 := n0_
          have BK367 := n1_
          have BK368 := n2_
          have BK373 := n3_
          have HB := n4_
          clear n0_ n1_ n2_ n3_ n4_
          (try clear hb)
          (try clear hb2)
          (try clear hk)
          (try clear hi)
          refine hK.out _ _ ⟨(blk_cell BK366.out 0).trans rfl, (blk_cell BK366.out 1).trans rfl, (blk_cell BK366.out 2).trans rfl, (blk_cell BK367.out 0).trans rfl, (blk_cell BK367.out 1).trans rfl, (blk_cell BK367.out 2).trans rfl, (blk_cell BK367.out 3).trans rfl, (blk_cell BK367.out 4).trans rfl, (blk_cell BK367.out 5).trans rfl, (blk_cell BK367.out 6).trans rfl⟩ (fun hHeld => ?_)
          clear hK K
          refine norm_ (a' := ?_) ?_ ?_
          rotate_left
          · show Act.put _ (some 31) _ = _
            simp only [Act.put, List.setIfInBounds_toArray, List.set_cons_zero, List.set_cons_succ, i64_w, i32_w]
            rfl
          refine pure_ (i := 18) (N := some 34) (v := ?_) (a' := ?_) #[true, true, true, true, true, true, true, true, true, true, true, true, true, true, true, true, true, true, true, true, false] rfl rfl (any_of HT_.out (by kernel_rfl)) (fun _ _ _ h => h) (Or.inl ⟨by rfl, ?_⟩) ?_ ?_
          rotate_left
          · intro w'
            go_simp
            with_reducible rfl
          rotate_left
          · simp only [Act.put, List.setIfInBounds_toArray, List.set_cons_zero, List.set_cons_succ, i64_w, i32_w]
            rfl
          exact norm_ (by first | (simp only [putAll, Act.put, List.setIfInBounds_toArray, List.set_cons_zero, List.set_cons_succ]; done) | (simp only [putAll, Act.put, List.setIfInBounds_toArray, List.set_cons_zero, List.set_cons_succ]; rfl)) (hJ4_8_12_15_19 (gb373) _ ⟨hHeld, (by (with_reducible repeat (first | refine blk_drewN ?_ _ | refine blk_drew ?_ | refine blk_alloc ?_ _)); exact BK366.out), (by (with_reducible repeat (first | refine blk_drewN ?_ _ | refine blk_drew ?_ | refine blk_alloc ?_ _)); exact BK367.out), (by (with_reducible repeat (first | refine blk_drewN ?_ _ | refine blk_drew ?_ | refine blk_alloc ?_ _)); exact BK368.out), (by (with_reducible repeat (first | refine blk_drewN ?_ _ | refine blk_drew ?_ | refine blk_alloc ?_ _)); exact BK373.out), GW373.out, GE373.out, NB366_373.out, NB373_366.out, NB367_373.out, NB373_367.out, NB368_373.out, NB373_368.out, (by repeat (first | (with_reducible first | exact HB.out | apply below_alloc | apply pw_below_drewN | apply below_drew1 | refine below_set ?_ GE366.out | refine below_set ?_ GE367.out | refine below_set ?_ GE368.out | refine below_set ?_ GE373.out) | exact HB.out))⟩)
      · skip
        rintro _ w47 ⟨hS_, h0_, h1_, h2_, h3_⟩
        have n0_ : Aside0 (w47.heap[gb366]? = some (.cells #[.bool a0_0, .slice A0_1 l0_1.length c0_1, .string a0_2] 54 (0, 0))) := ⟨h0_⟩
        have n1_ : Aside0 (w47.heap[gb367]? = some (.cells #[.int .i64 a5_0, .int .i64 a5_1, .int .i64 a5_2, .int .i64 a5_3, .int .i64 a5_4, .int .i64 a5_5, .bool a5_6] 23 (0, 0))) := ⟨h1_⟩
        have n2_ : Aside0 (w47.heap[gb368]? = some (.cells #[.int .i64 0, .int .i64 0, .int .i64 0, .int .i64 0, .int .i64 0, .int .i64 0, .bool false] 23 (0, 0))) := ⟨h2_⟩
        have n3_ : Aside0 (Below w.heap.size w w47) := ⟨h3_⟩
        clear BK366
        clear BK367
        clear BK368
        clear HB
        clear h0_ h1_ h2_ h3_
        have BK366 := n0_
        have BK367 := n1_
        have BK368 := n2_
        have HB := n3_
        clear n0_ n1_ n2_ n3_
        have hHeld : w47.cell? ⟨gb366, 0, none⟩ = some (.bool a0_0) ∧ w47.cell? ⟨gb366, 1, none⟩ = some (.slice A0_1 l0_1.length c0_1) ∧ w47.cell? ⟨gb366, 2, none⟩ = some (.string a0_2) ∧ w47.cell? ⟨gb367, 0, none⟩ = some (.int .i64 a5_0) ∧ w47.cell? ⟨gb367, 1, none⟩ = some (.int .i64 a5_1) ∧ w47.cell? ⟨gb367, 2, none⟩ = some (.int .i64 a5_2) ∧ w47.cell? ⟨gb367, 3, none⟩ = some (.int .i64 a5_3) ∧ w47.cell? ⟨gb367, 4, none⟩ = some (.int .i64 a5_4) ∧ w47.cell? ⟨gb367, 5, none⟩ = some (.int .i64 a5_5) ∧ w47.cell? ⟨gb367, 6, none⟩ = some (.bool a5_6) := hS_
        refine norm_ (a' := ?_) ?_ ?_
        rotate_left
        · simp only [putAll, Act.put, List.setIfInBounds_toArray, List.set_cons_zero, List.set_cons_succ]
          rfl
        refine one_ (i := 19) (N := some 14) #[true, true, true, true, true, true, true, true, true, true, true, true, true, true, true, true, true, true, true, true, false] rfl rfl (one_of HT_.out (by kernel_rfl)) (by decide) (fun K hK => ?_)
        refine box_step ?hg (N := 14) ?hd (cs := #[.int .i64 0, .int .i64 0, .int .i64 0, .int .i64 0, .int .i64 0, .int .i64 0, .bool false]) (t := 23) ?hr ?_; (case hd => rfl); (case hg => rfl); (case hr => first | (go_simp; done) | (go_simp; rfl))
        intro gb373 hg w48 hbox hb
        have n0_ := Aside0.mk (blk_below (g := gb366) (o := .cells #[.bool a0_0, .slice A0_1 l0_1.length c0_1, .string a0_2] 54 (0, 0)) (by (with_reducible repeat (first | refine blk_drewN ?_ _ | refine blk_drew ?_ | refine blk_alloc ?_ _)); exact BK366.out) hb)
        have n1_ := Aside0.mk (blk_below (g := gb367) (o := .cells #[.int .i64 a5_0, .int .i64 a5_1, .int .i64 a5_2, .int .i64 a5_3, .int .i64 a5_4, .int .i64 a5_5, .bool a5_6] 23 (0, 0)) (by (with_reducible repeat (first | refine blk_drewN ?_ _ | refine blk_drew ?_ | refine blk_alloc ?_ _)); exact BK367.out) hb)
        have n2_ := Aside0.mk (blk_below (g := gb368) (o := .cells #[.int .i64 0, .int .i64 0, .int .i64 0, .int .i64 0, .int .i64 0, .int .i64 0, .bool false] 23 (0, 0)) (by (with_reducible repeat (first | refine blk_drewN ?_ _ | refine blk_drew ?_ | refine blk_alloc ?_ _)); exact BK368.out) hb)
        have n3_ := Aside0.mk (below_step (by repeat (first | (with_reducible first | exact HB.out | apply below_alloc | apply pw_below_drewN | apply below_drew1 | refine below_set ?_ GE366.out | refine below_set ?_ GE367.out | refine below_set ?_ GE368.out) | exact HB.out)) hb)
        have n4_ := Aside0.mk (hbox)
        have n5_ := Aside0.mk ((by rw [hg]; exact (below_size (by repeat (first | (with_reducible first | exact HB.out | apply below_alloc | apply pw_below_drewN | apply below_drew1 | refine below_set ?_ GE366.out | refine below_set ?_ GE367.out | refine below_set ?_ GE368.out) | exact HB.out))) : w.heap.size ≤ gb373))
        have n6_ := Aside0.mk ((by rw [hg]; exact (below_size (by repeat (first | (with_reducible first | exact HB.out | apply below_alloc | apply pw_below_drewN | apply below_drew1 | refine below_set ?_ GE366.out | refine below_set ?_ GE367.out | refine below_set ?_ GE368.out) | exact HB.out))) : w.heap.size ≤ gb373))
        have n7_ := Aside0.mk ((by rw [hg]; exact Nat.ne_of_lt (blk_lt (g := gb366) (o := .cells #[.bool a0_0, .slice A0_1 l0_1.length c0_1, .string a0_2] 54 (0, 0)) (by (with_reducible repeat (first | refine blk_drewN ?_ _ | refine blk_drew ?_ | refine blk_alloc ?_ _)); exact BK366.out)) : gb366 ≠ gb373))
        have n8_ := Aside0.mk ((by rw [hg]; exact Nat.ne_of_gt (blk_lt (g := gb366) (o := .cells #[.bool a0_0, .slice A0_1 l0_1.length c0_1, .string a0_2] 54 (0, 0)) (by (with_reducible repeat (first | refine blk_drewN ?_ _ | refine blk_drew ?_ | refine blk_alloc ?_ _)); exact BK366.out)) : gb373 ≠ gb366))
        have n9_ := Aside0.mk ((by rw [hg]; exact Nat.ne_of_lt (blk_lt (g := gb367) (o := .cells #[.int .i64 a5_0, .int .i64 a5_1, .int .i64 a5_2, .int .i64 a5_3, .int .i64 a5_4, .int .i64 a5_5, .bool a5_6] 23 (0, 0)) (by (with_reducible repeat (first | refine blk_drewN ?_ _ | refine blk_drew ?_ | refine blk_alloc ?_ _)); exact BK367.out)) : gb367 ≠ gb373))
        have n10_ := Aside0.mk ((by rw [hg]; exact Nat.ne_of_gt (blk_lt (g := gb367) (o := .cells #[.int .i64 a5_0, .int .i64 a5_1, .int .i64 a5_2, .int .i64 a5_3, .int .i64 a5_4, .int .i64 a5_5, .bool a5_6] 23 (0, 0)) (by (with_reducible repeat (first | refine blk_drewN ?_ _ | refine blk_drew ?_ | refine blk_alloc ?_ _)); exact BK367.out)) : gb373 ≠ gb367))
        have n11_ := Aside0.mk ((by rw [hg]; exact Nat.ne_of_lt (blk_lt (g := gb368) (o := .cells #[.int .i64 0, .int .i64 0, .int .i64 0, .int .i64 0, .int .i64 0, .int .i64 0, .bool false] 23 (0, 0)) (by (with_reducible repeat (first | refine blk_drewN ?_ _ | refine blk_drew ?_ | refine blk_alloc ?_ _)); exact BK368.out)) : gb368 ≠ gb373))
        have n12_ := Aside0.mk ((by rw [hg]; exact Nat.ne_of_gt (blk_lt (g := gb368) (o := .cells #[.int .i64 0, .int .i64 0, .int .i64 0, .int .i64 0, .int .i64 0, .int .i64 0, .bool false] 23 (0, 0)) (by (with_reducible repeat (first | refine blk_drewN ?_ _ | refine blk_drew ?_ | refine blk_alloc ?_ _)); exact BK368.out)) : gb373 ≠ gb368))
        clear BK366
        clear BK367
        clear BK368
        clear HB
        have BK366 := n0_
        have BK367 := n1_
        have BK368 := n2_
        have HB := n3_
        have BK373 := n4_
        have GW373 := n5_
        have GE373 := n6_
        have NB366_373 := n7_
        have NB373_366 := n8_
        have NB367_373 := n9_
        have NB373_367 := n10_
        have NB368_373 := n11_
        have NB373_368 := n12_
        clear n0_ n1_ n2_ n3_ n4_ n5_ n6_ n7_ n8_ n9_ n10_ n11_ n12_
        clear hb hbox hg
        refine hK.out _ _ ⟨(blk_cell BK366.out 0).trans rfl, (blk_cell BK366.out 1).trans rfl, (blk_cell BK366.out 2).trans rfl, (blk_cell BK367.out 0).trans rfl, (blk_cell BK367.out 1).trans rfl, (blk_cell BK367.out 2).trans rfl, (blk_cell BK367.out 3).trans rfl, (blk_cell BK367.out 4).trans rfl, (blk_cell BK367.out 5).trans rfl, (blk_cell BK367.out 6).trans rfl⟩ (fun hHeld => ?_)
        clear hK K
        refine norm_ (a' := ?_) ?_ ?_
        rotate_left
        · show Act.put _ (some 14) _ = _
          simp only [Act.put, List.setIfInBounds_toArray, List.set_cons_zero, List.set_cons_succ, i64_w, i32_w]
          rfl
        exact norm_ (by first | (simp only [putAll, Act.put, List.setIfInBounds_toArray, List.set_cons_zero, List.set_cons_succ]; done) | (simp only [putAll, Act.put, List.setIfInBounds_toArray, List.set_cons_zero, List.set_cons_succ]; rfl)) (hJ4_8_12_15_19 (gb373) _ ⟨hHeld, (by (with_reducible repeat (first | refine blk_drewN ?_ _ | refine blk_drew ?_ | refine blk_alloc ?_ _)); exact BK366.out), (by (with_reducible repeat (first | refine blk_drewN ?_ _ | refine blk_drew ?_ | refine blk_alloc ?_ _)); exact BK367.out), (by (with_reducible repeat (first | refine blk_drewN ?_ _ | refine blk_drew ?_ | refine blk_alloc ?_ _)); exact BK368.out), (by (with_reducible repeat (first | refine blk_drewN ?_ _ | refine blk_drew ?_ | refine blk_alloc ?_ _)); exact BK373.out), GW373.out, GE373.out, NB366_373.out, NB373_366.out, NB367_373.out, NB373_367.out, NB368_373.out, NB373_368.out, (by repeat (first | (with_reducible first | exact HB.out | apply below_alloc | apply pw_below_drewN | apply below_drew1 | refine below_set ?_ GE366.out | refine below_set ?_ GE367.out | refine below_set ?_ GE368.out | refine below_set ?_ GE373.out) | exact HB.out))⟩)
    rintro gb373 w48 ⟨hS_, h0_, h1_, h2_, h3_, h4_, h5_, h6_, h7_, h8_, h9_, h10_, h11_, h12_⟩
    have n0_ : Aside0 (w48.heap[gb366]? = some (.cells #[.bool a0_0, .slice A0_1 l0_1.length c0_1, .string a0_2] 54 (0, 0))) := ⟨h0_⟩
    have n1_ : Aside0 (w48.heap[gb367]? = some (.cells #[.int .i64 a5_0, .int .i64 a5_1, .int .i64 a5_2, .int .i64 a5_3, .int .i64 a5_4, .int .i64 a5_5, .bool a5_6] 23 (0, 0))) := ⟨h1_⟩
    have n2_ : Aside0 (w48.heap[gb368]? = some (.cells #[.int .i64 0, .int .i64 0, .int .i64 0, .int .i64 0, .int .i64 0, .int .i64 0, .bool false] 23 (0, 0))) := ⟨h2_⟩
    have n3_ : Aside0 (w48.heap[gb373]? = some (.cells #[.int .i64 0, .int .i64 0, .int .i64 0, .int .i64 0, .int .i64 0, .int .i64 0, .bool false] 23 (0, 0))) := ⟨h3_⟩
    have n4_ : Aside0 (w.heap.size ≤ gb373) := ⟨h4_⟩
    have n5_ : Aside0 (w.heap.size ≤ gb373) := ⟨h5_⟩
    have n6_ : Aside0 (gb366 ≠ gb373) := ⟨h6_⟩
    have n7_ : Aside0 (gb373 ≠ gb366) := ⟨h7_⟩
    have n8_ : Aside0 (gb367 ≠ gb373) := ⟨h8_⟩
    have n9_ : Aside0 (gb373 ≠ gb367) := ⟨h9_⟩
    have n10_ : Aside0 (gb368 ≠ gb373) := ⟨h10_⟩
    have n11_ : Aside0 (gb373 ≠ gb368) := ⟨h11_⟩
    have n12_ : Aside0 (Below w.heap.size w w48) := ⟨h12_⟩
    clear BK366
    clear BK367
    clear BK368
    clear HB
    clear h0_ h1_ h2_ h3_ h4_ h5_ h6_ h7_ h8_ h9_ h10_ h11_ h12_
    have BK366 := n0_
    have BK367 := n1_
    have BK368 := n2_
    have BK373 := n3_
    have GW373 := n4_
    have GE373 := n5_
    have NB366_373 := n6_
    have NB373_366 := n7_
    have NB367_373 := n8_
    have NB373_367 := n9_
    have NB368_373 := n10_
    have NB373_368 := n11_
    have HB := n12_
    clear n0_ n1_ n2_ n3_ n4_ n5_ n6_ n7_ n8_ n9_ n10_ n11_ n12_
    have hHeld : w48.cell? ⟨gb366, 0, none⟩ = some (.bool a0_0) ∧ w48.cell? ⟨gb366, 1, none⟩ = some (.slice A0_1 l0_1.length c0_1) ∧ w48.cell? ⟨gb366, 2, none⟩ = some (.string a0_2) ∧ w48.cell? ⟨gb367, 0, none⟩ = some (.int .i64 a5_0) ∧ w48.cell? ⟨gb367, 1, none⟩ = some (.int .i64 a5_1) ∧ w48.cell? ⟨gb367, 2, none⟩ = some (.int .i64 a5_2) ∧ w48.cell? ⟨gb367, 3, none⟩ = some (.int .i64 a5_3) ∧ w48.cell? ⟨gb367, 4, none⟩ = some (.int .i64 a5_4) ∧ w48.cell? ⟨gb367, 5, none⟩ = some (.int .i64 a5_5) ∧ w48.cell? ⟨gb367, 6, none⟩ = some (.bool a5_6) := hS_
    refine norm_ (a' := ?_) ?_ ?_
    rotate_left
    · simp only [putAll, Act.put, List.setIfInBounds_toArray, List.set_cons_zero, List.set_cons_succ]
      rfl
    refine one_ (i := 20) (N := none) #[true, true, true, true, true, true, true, true, true, true, true, true, true, true, true, true, true, true, true, true, true] rfl rfl (one_of HT_.out (by kernel_rfl)) (by decide) (fun K hK => ?_)
    have hs49 : w48.cell? ⟨gb373, 0, none⟩ = some (.int .i64 0) := (blk_cell BK373.out 0).trans rfl
    have hfs49 := blk_frozen BK373.out 0
    have hns49_0 := NB366_373.out
    have hns49_1 := NB367_373.out
    have hns49_2 := NB368_373.out
    have hms49_0 := NB373_366.out
    have hms49_1 := NB373_367.out
    have hms49_2 := NB373_368.out
    have hs50 : w48.cell? ⟨gb373, 1, none⟩ = some (.int .i64 0) := (blk_cell BK373.out 1).trans rfl
    have hfs50 := blk_frozen BK373.out 1
    have hns50_0 := NB366_373.out
    have hns50_1 := NB367_373.out
    have hns50_2 := NB368_373.out
    have hms50_0 := NB373_366.out
    have hms50_1 := NB373_367.out
    have hms50_2 := NB373_368.out
    have hs51 : w48.cell? ⟨gb373, 2, none⟩ = some (.int .i64 0) := (blk_cell BK373.out 2).trans rfl
    have hfs51 := blk_frozen BK373.out 2
    have hns51_0 := NB366_373.out
    have hns51_1 := NB367_373.out
    have hns51_2 := NB368_373.out
    have hms51_0 := NB373_366.out
    have hms51_1 := NB373_367.out
    have hms51_2 := NB373_368.out
    have hs52 : w48.cell? ⟨gb373, 3, none⟩ = some (.int .i64 0) := (blk_cell BK373.out 3).trans rfl
    have hfs52 := blk_frozen BK373.out 3
    have hns52_0 := NB366_373.out
    have hns52_1 := NB367_373.out
    have hns52_2 := NB368_373.out
    have hms52_0 := NB373_366.out
    have hms52_1 := NB373_367.out
    have hms52_2 := NB373_368.out
    have hs53 : w48.cell? ⟨gb373, 4, none⟩ = some (.int .i64 0) := (blk_cell BK373.out 4).trans rfl
    have hfs53 := blk_frozen BK373.out 4
    have hns53_0 := NB366_373.out
    have hns53_1 := NB367_373.out
    have hns53_2 := NB368_373.out
    have hms53_0 := NB373_366.out
    have hms53_1 := NB373_367.out
    have hms53_2 := NB373_368.out
    have hs54 : w48.cell? ⟨gb373, 5, none⟩ = some (.int .i64 0) := (blk_cell BK373.out 5).trans rfl
    have hfs54 := blk_frozen BK373.out 5
    have hns54_0 := NB366_373.out
    have hns54_1 := NB367_373.out
    have hns54_2 := NB368_373.out
    have hms54_0 := NB373_366.out
    have hms54_1 := NB373_367.out
    have hms54_2 := NB373_368.out
    have hs55 : w48.cell? ⟨gb373, 6, none⟩ = some (.bool false) := (blk_cell BK373.out 6).trans rfl
    have hfs55 := blk_frozen BK373.out 6
    have hns55_0 := NB366_373.out
    have hns55_1 := NB367_373.out
    have hns55_2 := NB368_373.out
    have hms55_0 := NB373_366.out
    have hms55_1 := NB373_367.out
    have hms55_2 := NB373_368.out
    refine skip_ (w1 := ?_) (by rfl) rfl ?_ ?_
    rotate_left
    · go_simp
      rfl
    refine hK.out _ _ ⟨((cell_far (p := ⟨gb373, _, none⟩) NB366_373.out _).trans (((cell_far (p := ⟨gb373, _, none⟩) NB366_373.out _).trans (((cell_far (p := ⟨gb373, _, none⟩) NB366_373.out _).trans (((cell_far (p := ⟨gb373, _, none⟩) NB366_373.out _).trans (((cell_far (p := ⟨gb373, _, none⟩) NB366_373.out _).trans (((cell_far (p := ⟨gb373, _, none⟩) NB366_373.out _).trans (((cell_far (p := ⟨gb373, _, none⟩) NB366_373.out _).trans (hHeld.1)))))))))))))), ((cell_far (p := ⟨gb373, _, none⟩) NB366_373.out _).trans (((cell_far (p := ⟨gb373, _, none⟩) NB366_373.out _).trans (((cell_far (p := ⟨gb373, _, none⟩) NB366_373.out _).trans (((cell_far (p := ⟨gb373, _, none⟩) NB366_373.out _).trans (((cell_far (p := ⟨gb373, _, none⟩) NB366_373.out _).trans (((cell_far (p := ⟨gb373, _, none⟩) NB366_373.out _).trans (((cell_far (p := ⟨gb373, _, none⟩) NB366_373.out _).trans (hHeld.2.1)))))))))))))), ((cell_far (p := ⟨gb373, _, none⟩) NB366_373.out _).trans (((cell_far (p := ⟨gb373, _, none⟩) NB366_373.out _).trans (((cell_far (p := ⟨gb373, _, none⟩) NB366_373.out _).trans (((cell_far (p := ⟨gb373, _, none⟩) NB366_373.out _).trans (((cell_far (p := ⟨gb373, _, none⟩) NB366_373.out _).trans (((cell_far (p := ⟨gb373, _, none⟩) NB366_373.out _).trans (((cell_far (p := ⟨gb373, _, none⟩) NB366_373.out _).trans (hHeld.2.2.1)))))))))))))), ((cell_far (p := ⟨gb373, _, none⟩) NB367_373.out _).trans (((cell_far (p := ⟨gb373, _, none⟩) NB367_373.out _).trans (((cell_far (p := ⟨gb373, _, none⟩) NB367_373.out _).trans (((cell_far (p := ⟨gb373, _, none⟩) NB367_373.out _).trans (((cell_far (p := ⟨gb373, _, none⟩) NB367_373.out _).trans (((cell_far (p := ⟨gb373, _, none⟩) NB367_373.out _).trans (((cell_far (p := ⟨gb373, _, none⟩) NB367_373.out _).trans (hHeld.2.2.2.1)))))))))))))), ((cell_far (p := ⟨gb373, _, none⟩) NB367_373.out _).trans (((cell_far (p := ⟨gb373, _, none⟩) NB367_373.out _).trans (((cell_far (p := ⟨gb373, _, none⟩) NB367_373.out _).trans (((cell_far (p := ⟨gb373, _, none⟩) NB367_373.out _).trans (((cell_far (p := ⟨gb373, _, none⟩) NB367_373.out _).trans (((cell_far (p := ⟨gb373, _, none⟩) NB367_373.out _).trans (((cell_far (p := ⟨gb373, _, none⟩) NB367_373.out _).trans (hHeld.2.2.2.2.1)))))))))))))), ((cell_far (p := ⟨gb373, _, none⟩) NB367_373.out _).trans (((cell_far (p := ⟨gb373, _, none⟩) NB367_373.out _).trans (((cell_far (p := ⟨gb373, _, none⟩) NB367_373.out _).trans (((cell_far (p := ⟨gb373, _, none⟩) NB367_373.out _).trans (((cell_far (p := ⟨gb373, _, none⟩) NB367_373.out _).trans (((cell_far (p := ⟨gb373, _, none⟩) NB367_373.out _).trans (((cell_far (p := ⟨gb373, _, none⟩) NB367_373.out _).trans (hHeld.2.2.2.2.2.1)))))))))))))), ((cell_far (p := ⟨gb373, _, none⟩) NB367_373.out _).trans (((cell_far (p := ⟨gb373, _, none⟩) NB367_373.out _).trans (((cell_far (p := ⟨gb373, _, none⟩) NB367_373.out _).trans (((cell_far (p := ⟨gb373, _, none⟩) NB367_373.out _).trans (((cell_far (p := ⟨gb373, _, none⟩) NB367_373.out _).trans (((cell_far (p := ⟨gb373, _, none⟩) NB367_373.out _).trans (((cell_far (p := ⟨gb373, _, none⟩) NB367_373.out _).trans (hHeld.2.2.2.2.2.2.1)))))))))))))), ((cell_far (p := ⟨gb373, _, none⟩) NB367_373.out _).trans (((cell_far (p := ⟨gb373, _, none⟩) NB367_373.out _).trans (((cell_far (p := ⟨gb373, _, none⟩) NB367_373.out _).trans (((cell_far (p := ⟨gb373, _, none⟩) NB367_373.out _).trans (((cell_far (p := ⟨gb373, _, none⟩) NB367_373.out _).trans (((cell_far (p := ⟨gb373, _, none⟩) NB367_373.out _).trans (((cell_far (p := ⟨gb373, _, none⟩) NB367_373.out _).trans (hHeld.2.2.2.2.2.2.2.1)))))))))))))), ((cell_far (p := ⟨gb373, _, none⟩) NB367_373.out _).trans (((cell_far (p := ⟨gb373, _, none⟩) NB367_373.out _).trans (((cell_far (p := ⟨gb373, _, none⟩) NB367_373.out _).trans (((cell_far (p := ⟨gb373, _, none⟩) NB367_373.out _).trans (((cell_far (p := ⟨gb373, _, none⟩) NB367_373.out _).trans (((cell_far (p := ⟨gb373, _, none⟩) NB367_373.out _).trans (((cell_far (p := ⟨gb373, _, none⟩) NB367_373.out _).trans (hHeld.2.2.2.2.2.2.2.2.1)))))))))))))), ((cell_far (p := ⟨gb373, _, none⟩) NB367_373.out _).trans (((cell_far (p := ⟨gb373, _, none⟩) NB367_373.out _).trans (((cell_far (p := ⟨gb373, _, none⟩) NB367_373.out _).trans (((cell_far (p := ⟨gb373, _, none⟩) NB367_373.out _).trans (((cell_far (p := ⟨gb373, _, none⟩) NB367_373.out _).trans (((cell_far (p := ⟨gb373, _, none⟩) NB367_373.out _).trans (((cell_far (p := ⟨gb373, _, none⟩) NB367_373.out _).trans (hHeld.2.2.2.2.2.2.2.2.2))))))))))))))⟩ (fun hHeld => ?_)
    clear hK K
    refine done_ (done_of HT_.out (by kernel_rfl)) ?_
    have hnb56 := NB373_366.out
    have hnc56 := NB366_373.out
    have hnb57 := NB373_367.out
    have hnc57 := NB367_373.out
    have hnb58 := NB373_368.out
    have hnc58 := NB368_373.out
    have hcz59_0 : w48.cell? ⟨gb373, 0, none⟩ = some (.int .i64 0) := (blk_cell BK373.out 0).trans rfl
    have hcz59_1 : w48.cell? ⟨gb373, 1, none⟩ = some (.int .i64 0) := (blk_cell BK373.out 1).trans rfl
    have hcz59_2 : w48.cell? ⟨gb373, 2, none⟩ = some (.int .i64 0) := (blk_cell BK373.out 2).trans rfl
    have hcz59_3 : w48.cell? ⟨gb373, 3, none⟩ = some (.int .i64 0) := (blk_cell BK373.out 3).trans rfl
    have hcz59_4 : w48.cell? ⟨gb373, 4, none⟩ = some (.int .i64 0) := (blk_cell BK373.out 4).trans rfl
    have hcz59_5 : w48.cell? ⟨gb373, 5, none⟩ = some (.int .i64 0) := (blk_cell BK373.out 5).trans rfl
    have hcz59_6 : w48.cell? ⟨gb373, 6, none⟩ = some (.bool false) := (blk_cell BK373.out 6).trans rfl
    have hfz59_0 := blk_frozen BK373.out 0
    have hfz59_1 := blk_frozen BK373.out 1
    have hfz59_2 := blk_frozen BK373.out 2
    have hfz59_3 := blk_frozen BK373.out 3
    have hfz59_4 := blk_frozen BK373.out 4
    have hfz59_5 := blk_frozen BK373.out 5
    have hfz59_6 := blk_frozen BK373.out 6
    try go_wp2_with (first | ((with_reducible refine gate_callee (f := 13) rfl ?_); refine goesL_ (some 36) rfl rfl Try.func13 (by kernel_rfl) rfl #[.agg #[.int .i64 a1, .int .i64 t369, .int .i64 t370, .int .i64 t371, .int .i64 t372, .int .i64 a3, .bool a4]] rfl (by (try simp only [List.map_toArray, List.map_cons, List.map_nil]); first | done | rfl | (simp only [List.length_drop, List.length_take]; rfl)) ?_; (with_reducible refine (swarfref44_Valid.calls k a1 t369 t370 t371 t372 a3 a4 t374 _ A11.out).mono ?_); rintro e w60 ⟨rfl, hb⟩; refine ⟨_, rfl, ?_⟩; have n0_ := Aside0.mk (blk_below (g := gb366) (o := .cells #[.bool a0_0, .slice A0_1 l0_1.length c0_1, .string a0_2] 54 (0, 0)) (by (with_reducible repeat (first | refine blk_drewN ?_ _ | refine blk_drew ?_ | refine blk_alloc ?_ _)); refine blk_far ?_ NB366_373.out _; (with_reducible repeat (first | refine blk_drewN ?_ _ | refine blk_drew ?_ | refine blk_alloc ?_ _)); refine blk_far ?_ NB366_373.out _; (with_reducible repeat (first | refine blk_drewN ?_ _ | refine blk_drew ?_ | refine blk_alloc ?_ _)); refine blk_far ?_ NB366_373.out _; (with_reducible repeat (first | refine blk_drewN ?_ _ | refine blk_drew ?_ | refine blk_alloc ?_ _)); refine blk_far ?_ NB366_373.out _; (with_reducible repeat (first | refine blk_drewN ?_ _ | refine blk_drew ?_ | refine blk_alloc ?_ _)); refine blk_far ?_ NB366_373.out _; (with_reducible repeat (first | refine blk_drewN ?_ _ | refine blk_drew ?_ | refine blk_alloc ?_ _)); refine blk_far ?_ NB366_373.out _; (with_reducible repeat (first | refine blk_drewN ?_ _ | refine blk_drew ?_ | refine blk_alloc ?_ _)); refine blk_far ?_ NB366_373.out _; (with_reducible repeat (first | refine blk_drewN ?_ _ | refine blk_drew ?_ | refine blk_alloc ?_ _)); exact BK366.out) hb); have n1_ := Aside0.mk (blk_below (g := gb367) (o := .cells #[.int .i64 a5_0, .int .i64 a5_1, .int .i64 a5_2, .int .i64 a5_3, .int .i64 a5_4, .int .i64 a5_5, .bool a5_6] 23 (0, 0)) (by (with_reducible repeat (first | refine blk_drewN ?_ _ | refine blk_drew ?_ | refine blk_alloc ?_ _)); refine blk_far ?_ NB367_373.out _; (with_reducible repeat (first | refine blk_drewN ?_ _ | refine blk_drew ?_ | refine blk_alloc ?_ _)); refine blk_far ?_ NB367_373.out _; (with_reducible repeat (first | refine blk_drewN ?_ _ | refine blk_drew ?_ | refine blk_alloc ?_ _)); refine blk_far ?_ NB367_373.out _; (with_reducible repeat (first | refine blk_drewN ?_ _ | refine blk_drew ?_ | refine blk_alloc ?_ _)); refine blk_far ?_ NB367_373.out _; (with_reducible repeat (first | refine blk_drewN ?_ _ | refine blk_drew ?_ | refine blk_alloc ?_ _)); refine blk_far ?_ NB367_373.out _; (with_reducible repeat (first | refine blk_drewN ?_ _ | refine blk_drew ?_ | refine blk_alloc ?_ _)); refine blk_far ?_ NB367_373.out _; (with_reducible repeat (first | refine blk_drewN ?_ _ | refine blk_drew ?_ | refine blk_alloc ?_ _)); refine blk_far ?_ NB367_373.out _; (with_reducible repeat (first | refine blk_drewN ?_ _ | refine blk_drew ?_ | refine blk_alloc ?_ _)); exact BK367.out) hb); have n2_ := Aside0.mk (blk_below (g := gb368) (o := .cells #[.int .i64 0, .int .i64 0, .int .i64 0, .int .i64 0, .int .i64 0, .int .i64 0, .bool false] 23 (0, 0)) (by (with_reducible repeat (first | refine blk_drewN ?_ _ | refine blk_drew ?_ | refine blk_alloc ?_ _)); refine blk_far ?_ NB368_373.out _; (with_reducible repeat (first | refine blk_drewN ?_ _ | refine blk_drew ?_ | refine blk_alloc ?_ _)); refine blk_far ?_ NB368_373.out _; (with_reducible repeat (first | refine blk_drewN ?_ _ | refine blk_drew ?_ | refine blk_alloc ?_ _)); refine blk_far ?_ NB368_373.out _; (with_reducible repeat (first | refine blk_drewN ?_ _ | refine blk_drew ?_ | refine blk_alloc ?_ _)); refine blk_far ?_ NB368_373.out _; (with_reducible repeat (first | refine blk_drewN ?_ _ | refine blk_drew ?_ | refine blk_alloc ?_ _)); refine blk_far ?_ NB368_373.out _; (with_reducible repeat (first | refine blk_drewN ?_ _ | refine blk_drew ?_ | refine blk_alloc ?_ _)); refine blk_far ?_ NB368_373.out _; (with_reducible repeat (first | refine blk_drewN ?_ _ | refine blk_drew ?_ | refine blk_alloc ?_ _)); refine blk_far ?_ NB368_373.out _; (with_reducible repeat (first | refine blk_drewN ?_ _ | refine blk_drew ?_ | refine blk_alloc ?_ _)); exact BK368.out) hb); have n3_ := Aside0.mk (blk_below (g := gb373) (o := .cells #[.int .i64 a1, .int .i64 t369, .int .i64 t370, .int .i64 t371, .int .i64 t372, .int .i64 a3, .bool a4] 23 (0, 0)) (by (with_reducible repeat (first | refine blk_drewN ?_ _ | refine blk_drew ?_ | refine blk_alloc ?_ _)); refine blk_put (cs := #[.int .i64 a1, .int .i64 t369, .int .i64 t370, .int .i64 t371, .int .i64 t372, .int .i64 a3, .bool false]) ?_ 6 _ rfl; (with_reducible repeat (first | refine blk_drewN ?_ _ | refine blk_drew ?_ | refine blk_alloc ?_ _)); refine blk_put (cs := #[.int .i64 a1, .int .i64 t369, .int .i64 t370, .int .i64 t371, .int .i64 t372, .int .i64 0, .bool false]) ?_ 5 _ rfl; (with_reducible repeat (first | refine blk_drewN ?_ _ | refine blk_drew ?_ | refine blk_alloc ?_ _)); refine blk_put (cs := #[.int .i64 a1, .int .i64 t369, .int .i64 t370, .int .i64 t371, .int .i64 0, .int .i64 0, .bool false]) ?_ 4 _ rfl; (with_reducible repeat (first | refine blk_drewN ?_ _ | refine blk_drew ?_ | refine blk_alloc ?_ _)); refine blk_put (cs := #[.int .i64 a1, .int .i64 t369, .int .i64 t370, .int .i64 0, .int .i64 0, .int .i64 0, .bool false]) ?_ 3 _ rfl; (with_reducible repeat (first | refine blk_drewN ?_ _ | refine blk_drew ?_ | refine blk_alloc ?_ _)); refine blk_put (cs := #[.int .i64 a1, .int .i64 t369, .int .i64 0, .int .i64 0, .int .i64 0, .int .i64 0, .bool false]) ?_ 2 _ rfl; (with_reducible repeat (first | refine blk_drewN ?_ _ | refine blk_drew ?_ | refine blk_alloc ?_ _)); refine blk_put (cs := #[.int .i64 a1, .int .i64 0, .int .i64 0, .int .i64 0, .int .i64 0, .int .i64 0, .bool false]) ?_ 1 _ rfl; (with_reducible repeat (first | refine blk_drewN ?_ _ | refine blk_drew ?_ | refine blk_alloc ?_ _)); refine blk_put (cs := #[.int .i64 0, .int .i64 0, .int .i64 0, .int .i64 0, .int .i64 0, .int .i64 0, .bool false]) ?_ 0 _ rfl; (with_reducible repeat (first | refine blk_drewN ?_ _ | refine blk_drew ?_ | refine blk_alloc ?_ _)); exact BK373.out) hb); have n4_ := Aside0.mk (below_step (by repeat (first | (with_reducible first | exact HB.out | apply below_alloc | apply pw_below_drewN | apply below_drew1 | refine below_set ?_ GE366.out | refine below_set ?_ GE367.out | refine below_set ?_ GE368.out | refine below_set ?_ GE373.out) | exact HB.out)) hb); clear BK366; clear BK367; clear BK368; clear BK373; clear HB; have BK366 := n0_; have BK367 := n1_; have BK368 := n2_; have BK373 := n3_; have HB := n4_; clear n0_ n1_ n2_ n3_ n4_; (try clear hb); (try clear hb2); (try clear hk); (try clear hi); have hnb61 := NB368_366.out; have hnc61 := NB366_368.out; have hnb62 := NB368_367.out; have hnc62 := NB367_368.out; have hcz63_0 : w60.cell? ⟨gb368, 0, none⟩ = some (.int .i64 0) := (blk_cell BK368.out 0).trans rfl; have hcz63_1 : w60.cell? ⟨gb368, 1, none⟩ = some (.int .i64 0) := (blk_cell BK368.out 1).trans rfl; have hcz63_2 : w60.cell? ⟨gb368, 2, none⟩ = some (.int .i64 0) := (blk_cell BK368.out 2).trans rfl; have hcz63_3 : w60.cell? ⟨gb368, 3, none⟩ = some (.int .i64 0) := (blk_cell BK368.out 3).trans rfl; have hcz63_4 : w60.cell? ⟨gb368, 4, none⟩ = some (.int .i64 0) := (blk_cell BK368.out 4).trans rfl; have hcz63_5 : w60.cell? ⟨gb368, 5, none⟩ = some (.int .i64 0) := (blk_cell BK368.out 5).trans rfl; have hcz63_6 : w60.cell? ⟨gb368, 6, none⟩ = some (.bool false) := (blk_cell BK368.out 6).trans rfl; have hfz63_0 := blk_frozen BK368.out 0; have hfz63_1 := blk_frozen BK368.out 1; have hfz63_2 := blk_frozen BK368.out 2; have hfz63_3 := blk_frozen BK368.out 3; have hfz63_4 := blk_frozen BK368.out 4; have hfz63_5 := blk_frozen BK368.out 5; have hfz63_6 := blk_frozen BK368.out 6))
    refine bodyPost_ret (results_ct rfl _ _ gb368 23 #[.int .i64 0, .int .i64 0, .int .i64 0, .int .i64 0, .int .i64 0, .int .i64 0, .bool false] (0, 0) _ rfl (by (with_reducible repeat (first | refine blk_drewN ?_ _ | refine blk_drew ?_ | refine blk_alloc ?_ _)); refine blk_put (cs := #[.int .i64 0, .int .i64 0, .int .i64 0, .int .i64 0, .int .i64 0, .int .i64 0, .bool false]) ?_ 6 _ rfl; (with_reducible repeat (first | refine blk_drewN ?_ _ | refine blk_drew ?_ | refine blk_alloc ?_ _)); refine blk_put (cs := #[.int .i64 0, .int .i64 0, .int .i64 0, .int .i64 0, .int .i64 0, .int .i64 0, .bool false]) ?_ 5 _ rfl; (with_reducible repeat (first | refine blk_drewN ?_ _ | refine blk_drew ?_ | refine blk_alloc ?_ _)); refine blk_put (cs := #[.int .i64 0, .int .i64 0, .int .i64 0, .int .i64 0, .int .i64 0, .int .i64 0, .bool false]) ?_ 4 _ rfl; (with_reducible repeat (first | refine blk_drewN ?_ _ | refine blk_drew ?_ | refine blk_alloc ?_ _)); refine blk_put (cs := #[.int .i64 0, .int .i64 0, .int .i64 0, .int .i64 0, .int .i64 0, .int .i64 0, .bool false]) ?_ 3 _ rfl; (with_reducible repeat (first | refine blk_drewN ?_ _ | refine blk_drew ?_ | refine blk_alloc ?_ _)); refine blk_put (cs := #[.int .i64 0, .int .i64 0, .int .i64 0, .int .i64 0, .int .i64 0, .int .i64 0, .bool false]) ?_ 2 _ rfl; (with_reducible repeat (first | refine blk_drewN ?_ _ | refine blk_drew ?_ | refine blk_alloc ?_ _)); refine blk_put (cs := #[.int .i64 0, .int .i64 0, .int .i64 0, .int .i64 0, .int .i64 0, .int .i64 0, .bool false]) ?_ 1 _ rfl; (with_reducible repeat (first | refine blk_drewN ?_ _ | refine blk_drew ?_ | refine blk_alloc ?_ _)); refine blk_put (cs := #[.int .i64 0, .int .i64 0, .int .i64 0, .int .i64 0, .int .i64 0, .int .i64 0, .bool false]) ?_ 0 _ rfl; (with_reducible repeat (first | refine blk_drewN ?_ _ | refine blk_drew ?_ | refine blk_alloc ?_ _)); exact BK368.out) Try.underlying23 rfl (by kernel_rfl)) rfl ?_
    exact ⟨by first | rfl | (simp [errW_none, errW_some] <;> rfl) | (simp [*, errW_none, errW_some] <;> rfl), by repeat (first | (with_reducible first | exact HB.out | apply below_alloc | apply pw_below_drewN | apply below_drew1 | refine below_set ?_ GE366.out | refine below_set ?_ GE367.out | refine below_set ?_ GE368.out | refine below_set ?_ GE373.out) | exact HB.out)⟩

end Go.Proofs.Ytmaochcdjmnffaa.P
