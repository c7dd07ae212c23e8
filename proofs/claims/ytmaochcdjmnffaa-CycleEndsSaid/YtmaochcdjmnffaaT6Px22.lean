-- PRINTED by print.py (a twelfth state) out of the translation. Not trusted: Lean checks it.
import Derived.Test.YtmaochcdjmnffaaT6Px0
import Derived.Test.YtmaochcdjmnffaaT6Px2
import Derived.Test.YtmaochcdjmnffaaT6Px16
import Derived.Test.YtmaochcdjmnffaaT6GClone
import Derived.Test.YtmaochcdjmnffaaT6GExpand
import Derived.Test.YtmaochcdjmnffaaT6D22
namespace Go.Proofs.Ytmaochcdjmnffaa.P
open Go.RowKit Go.Proofs.YtmaochcdjmnffaaW.PrintWords Go.Proofs.YtmaochcdjmnffaaW.PrintLast Go.Proofs.YtmaochcdjmnffaaW.PrintMore
attribute [local go_sem] max2_int min2_int max_two min_two max_three min_three max_four min_four   -- for this text's walks alone
set_option linter.unusedVariables false
set_option linter.unusedSimpArgs false

attribute [local go_sem high] eqA36
def swarflaw44_CycleEnds.T5 : Bool × List (List Nat × List Nat) := (true, [([], []), ([], []), ([], []), ([2], [2]), ([0, 1, 3, 3], [0, 1, 3]), ([4], [4]), ([5], [5]), ([5], [5]), ([6, 4, 0, 1, 2, 3, 4, 5, 6], [6]), ([7, 8, 0, 1, 2, 3, 4, 5, 6, 7, 8], [7])])
def swarflaw44_CycleEnds.B5 : List Nat := [0, 0, 0, 4, 15, 31, 63, 63, 127, 511]
theorem swarflaw44_CycleEnds.tab5 : rtab .any (opsOf Try.f4 5) = swarflaw44_CycleEnds.T5 := by kernel_rfl
theorem swarflaw44_CycleEnds.bits5 : waitsOk swarflaw44_CycleEnds.T5.2 swarflaw44_CycleEnds.B5 = true := by kernel_rfl
set_option maxHeartbeats 8000000 in
set_option maxRecDepth 100000 in
theorem swarflaw44_CycleEnds.calls (k : Nat) (a0_0 : Int) (a0_1 : Int) (a0_2 : Int) (a0_3 : Int) (a0_4 : Int) (a0_5 : Int) (a0_6 : Bool) (a1_0 : Int) (a1_1 : Int) (a1_2 : Int) (A2 : Option Addr) (c2 : Nat) (l2 : List (S43)) (r : Bool) (w : World) (hr2 : Kd.C k43 w A2 l2.length l2) (hc2 : l2.length ≤ c2) (h : swarflaw44_CycleEnds.f k a0_0 a0_1 a0_2 a0_3 a0_4 a0_5 a0_6 a1_0 a1_1 a1_2 l2 = some r) (hr : r = true) :
    Calls Try.prog 4 #[.agg #[.int .i64 a0_0, .int .i64 a0_1, .int .i64 a0_2, .int .i64 a0_3, .int .i64 a0_4, .int .i64 a0_5, .bool a0_6], .agg #[.int .i64 a1_0, .int .i64 a1_1, .int .i64 a1_2], .slice A2 l2.length c2] w fun e w' => e = .returned (.bool r) ∧ Below w.heap.size w w' := by
  have HRT := Aside0.mk hr
  clear hr
  have hu23 := Try.underlying23
  have hu36 := Try.underlying36
  have hu45 := Try.underlying45
  have hu43 := Try.underlying43
  have HR2 := Aside0.mk hr2
  have HC2 := Aside0.mk hc2
  clear hr2 hc2
  have HB := Aside0.mk (Below.refl w.heap.size w)
  have H : ((swarflaw44_awake.f k).bind fun t220 => (if t220 = true then (if (l2.length : Int) = 0 then (swarflaw44_CycleEnds.j0 k l2 true a0_0 a0_1 a0_2 a0_3 a0_4 a0_5 a0_6 a1_0 a1_1 a1_2) else (swarflaw44_CycleEnds.j0 k l2 (decide ((l2.length : Int) > 20)) a0_0 a0_1 a0_2 a0_3 a0_4 a0_5 a0_6 a1_0 a1_1 a1_2)) else (some false))) = some r := h
  clear h
  replace H := Option.bind_eq_some_iff.mp H
  obtain ⟨t220, A40, H⟩ := H
  replace H : (if t220 = true then (if (l2.length : Int) = 0 then (swarflaw44_CycleEnds.j0 k l2 true a0_0 a0_1 a0_2 a0_3 a0_4 a0_5 a0_6 a1_0 a1_1 a1_2) else (swarflaw44_CycleEnds.j0 k l2 (decide ((l2.length : Int) > 20)) a0_0 a0_1 a0_2 a0_3 a0_4 a0_5 a0_6 a1_0 a1_1 a1_2)) else (some false)) = some r := H
  have A4 := Aside0.mk A40
  clear A40
  by_cases c5 : t220 = true
  · subst c5
    have H1 : (if (l2.length : Int) = 0 then (swarflaw44_CycleEnds.j0 k l2 true a0_0 a0_1 a0_2 a0_3 a0_4 a0_5 a0_6 a1_0 a1_1 a1_2) else (swarflaw44_CycleEnds.j0 k l2 (decide ((l2.length : Int) > 20)) a0_0 a0_1 a0_2 a0_3 a0_4 a0_5 a0_6 a1_0 a1_1 a1_2)) = some r := by rw [if_pos rfl] at H; exact H
    clear H
    have H := H1
    clear H1
    have HC6 := Aside0.mk H
    clear H
    go_enter Try.func4, Try.ntmps4
    go_upto_region 3 with (first | ((with_reducible refine gate_dst (N := 3) rfl ?_); (try (refine gate_guard (by rfl) ?_; dsimp only)); refine box_event ?hg (N := 3) ?hd (cs := #[.int .i64 a0_0, .int .i64 a0_1, .int .i64 a0_2, .int .i64 a0_3, .int .i64 a0_4, .int .i64 a0_5, .bool a0_6]) (t := 23) ?hr ?_; (case hd => rfl); (case hg => rfl); (case hr => first | (go_simp; done) | (go_simp; rfl)); intro gb218 hg w7 hbox hb; have n0_ := Aside0.mk (below_step (by repeat (first | (with_reducible first | exact HB.out | apply below_alloc | apply pw_below_drewN | apply below_drew1) | exact HB.out)) hb); have n1_ := Aside0.mk (hbox); have n2_ := Aside0.mk ((by rw [hg]; exact (below_size (by repeat (first | (with_reducible first | exact HB.out | apply below_alloc | apply pw_below_drewN | apply below_drew1) | exact HB.out))) : w.heap.size ≤ gb218)); have n3_ := Aside0.mk ((by rw [hg]; exact (below_size (by repeat (first | (with_reducible first | exact HB.out | apply below_alloc | apply pw_below_drewN | apply below_drew1) | exact HB.out))) : w.heap.size ≤ gb218)); clear HB; have HB := n0_; have BK218 := n1_; have GW218 := n2_; have GE218 := n3_; clear n0_ n1_ n2_ n3_; clear hb hbox hg) | ((with_reducible refine gate_dst (N := 4) rfl ?_); (try (refine gate_guard (by rfl) ?_; dsimp only)); refine box_event ?hg (N := 4) ?hd (cs := #[.int .i64 a1_0, .int .i64 a1_1, .int .i64 a1_2]) (t := 36) ?hr ?_; (case hd => rfl); (case hg => rfl); (case hr => first | (go_simp; done) | (go_simp; rfl)); intro gb219 hg w8 hbox hb; have n0_ := Aside0.mk (blk_below (g := gb218) (o := .cells #[.int .i64 a0_0, .int .i64 a0_1, .int .i64 a0_2, .int .i64 a0_3, .int .i64 a0_4, .int .i64 a0_5, .bool a0_6] 23 (0, 0)) (by (with_reducible repeat (first | refine blk_drewN ?_ _ | refine blk_drew ?_ | refine blk_alloc ?_ _)); exact BK218.out) hb); have n1_ := Aside0.mk (below_step (by repeat (first | (with_reducible first | exact HB.out | apply below_alloc | apply pw_below_drewN | apply below_drew1 | refine below_set ?_ GE218.out) | exact HB.out)) hb); have n2_ := Aside0.mk (hbox); have n3_ := Aside0.mk ((by rw [hg]; exact (below_size (by repeat (first | (with_reducible first | exact HB.out | apply below_alloc | apply pw_below_drewN | apply below_drew1 | refine below_set ?_ GE218.out) | exact HB.out))) : w.heap.size ≤ gb219)); have n4_ := Aside0.mk ((by rw [hg]; exact (below_size (by repeat (first | (with_reducible first | exact HB.out | apply below_alloc | apply pw_below_drewN | apply below_drew1 | refine below_set ?_ GE218.out) | exact HB.out))) : w.heap.size ≤ gb219)); have n5_ := Aside0.mk ((by rw [hg]; exact Nat.ne_of_lt (blk_lt (g := gb218) (o := .cells #[.int .i64 a0_0, .int .i64 a0_1, .int .i64 a0_2, .int .i64 a0_3, .int .i64 a0_4, .int .i64 a0_5, .bool a0_6] 23 (0, 0)) (by (with_reducible repeat (first | refine blk_drewN ?_ _ | refine blk_drew ?_ | refine blk_alloc ?_ _)); exact BK218.out)) : gb218 ≠ gb219)); have n6_ := Aside0.mk ((by rw [hg]; exact Nat.ne_of_gt (blk_lt (g := gb218) (o := .cells #[.int .i64 a0_0, .int .i64 a0_1, .int .i64 a0_2, .int .i64 a0_3, .int .i64 a0_4, .int .i64 a0_5, .bool a0_6] 23 (0, 0)) (by (with_reducible repeat (first | refine blk_drewN ?_ _ | refine blk_drew ?_ | refine blk_alloc ?_ _)); exact BK218.out)) : gb219 ≠ gb218)); clear BK218; clear HB; have BK218 := n0_; have HB := n1_; have BK219 := n2_; have GW219 := n3_; have GE219 := n4_; have NB218_219 := n5_; have NB219_218 := n6_; clear n0_ n1_ n2_ n3_ n4_ n5_ n6_; clear hb hbox hg) | ((with_reducible refine gate_callee (f := 9) rfl ?_); refine goesL_ (some 14) rfl rfl Try.func9 (by kernel_rfl) rfl #[] rfl (by (try simp only [List.map_toArray, List.map_cons, List.map_nil]); first | done | rfl | (simp only [List.length_drop, List.length_take]; rfl)) ?_; (with_reducible refine (swarflaw44_awake.calls k  true _ A4.out).mono ?_); rintro e w9 ⟨rfl, hb⟩; refine ⟨_, rfl, ?_⟩; have n0_ := Aside0.mk (blk_below (g := gb218) (o := .cells #[.int .i64 a0_0, .int .i64 a0_1, .int .i64 a0_2, .int .i64 a0_3, .int .i64 a0_4, .int .i64 a0_5, .bool a0_6] 23 (0, 0)) (by (with_reducible repeat (first | refine blk_drewN ?_ _ | refine blk_drew ?_ | refine blk_alloc ?_ _)); exact BK218.out) hb); have n1_ := Aside0.mk (blk_below (g := gb219) (o := .cells #[.int .i64 a1_0, .int .i64 a1_1, .int .i64 a1_2] 36 (0, 0)) (by (with_reducible repeat (first | refine blk_drewN ?_ _ | refine blk_drew ?_ | refine blk_alloc ?_ _)); exact BK219.out) hb); have n2_ := Aside0.mk (below_step (by repeat (first | (with_reducible first | exact HB.out | apply below_alloc | apply pw_below_drewN | apply below_drew1 | refine below_set ?_ GE218.out | refine below_set ?_ GE219.out) | exact HB.out)) hb); clear BK218; clear BK219; clear HB; have BK218 := n0_; have BK219 := n1_; have HB := n2_; clear n0_ n1_ n2_; (try clear hb); (try clear hb2); (try clear hk); (try clear hi)))
    (try simp only [Act.put, List.setIfInBounds_toArray, List.set_cons_zero, List.set_cons_succ])
    go_cut [23] (fun v23 wc => ∃ (kq : Nat) (x23_5 : Bool), v23 = .bool x23_5 ∧ Aside0 (swarflaw44_CycleEnds.j0 kq l2 x23_5 a0_0 a0_1 a0_2 a0_3 a0_4 a0_5 a0_6 a1_0 a1_1 a1_2 = some r) ∧ Aside0 (kq ≤ k) ∧ Aside0 (wc.heap[gb218]? = some (.cells #[.int .i64 a0_0, .int .i64 a0_1, .int .i64 a0_2, .int .i64 a0_3, .int .i64 a0_4, .int .i64 a0_5, .bool a0_6] 23 (0, 0))) ∧ Aside0 (wc.heap[gb219]? = some (.cells #[.int .i64 a1_0, .int .i64 a1_1, .int .i64 a1_2] 36 (0, 0))) ∧ Aside0 (Below w.heap.size w wc))
    case first =>
      have H := HC6.out
      clear HC6
      by_cases c10 : (l2.length : Int) = 0
      · rw [if_pos c10] at H
        have c10b0 : ((l2.length : Int) == 0) = true := beq_iff_eq.mpr c10
        have c10b1 : ((l2.length : Int) != 0) = false := bne_eq_false_iff_eq.mpr c10
        clear c10
        (first | rw [c10b0] | (simp only [i64_w, i32_w]; rw [c10b0]) | skip)
        have H' := Aside0.mk H
        clear H
        go_wp2
        go_meet
        case rel => exact ⟨_, (true), (by first | rfl | (simp; done) | (simp [*]; done)), H', ⟨by first | omega | exact Nat.le_refl _⟩, ⟨by (with_reducible repeat (first | refine blk_drewN ?_ _ | refine blk_drew ?_ | refine blk_alloc ?_ _)); exact BK218.out⟩, ⟨by (with_reducible repeat (first | refine blk_drewN ?_ _ | refine blk_drew ?_ | refine blk_alloc ?_ _)); exact BK219.out⟩, ⟨by repeat (first | (with_reducible first | exact HB.out | apply below_alloc | apply pw_below_drewN | apply below_drew1 | refine below_set ?_ GE218.out | refine below_set ?_ GE219.out) | exact HB.out)⟩⟩
      · rw [if_neg c10] at H
        have c10b0 : ((l2.length : Int) == 0) = false := beq_eq_false_iff_ne.mpr c10
        have c10b1 : ((l2.length : Int) != 0) = true := bne_iff_ne.mpr c10
        have c10b2 : ¬ (l2 = []) := fun h_ => c10 (by rw [h_]; rfl)
        (first | rw [c10b0] | (simp only [i64_w, i32_w]; rw [c10b0]) | skip)
        have H' := Aside0.mk H
        clear H
        go_wp2
        go_meet
        case rel => exact ⟨_, (decide ((l2.length : Int) > 20)), (by first | rfl | (simp; done) | (simp [*]; done)), H', ⟨by first | omega | exact Nat.le_refl _⟩, ⟨by (with_reducible repeat (first | refine blk_drewN ?_ _ | refine blk_drew ?_ | refine blk_alloc ?_ _)); exact BK218.out⟩, ⟨by (with_reducible repeat (first | refine blk_drewN ?_ _ | refine blk_drew ?_ | refine blk_alloc ?_ _)); exact BK219.out⟩, ⟨by repeat (first | (with_reducible first | exact HB.out | apply below_alloc | apply pw_below_drewN | apply below_drew1 | refine below_set ?_ GE218.out | refine below_set ?_ GE219.out) | exact HB.out)⟩⟩
    case rest =>
      clear HC6
      try clear c1
      try clear c2
      try clear p2
      try clear c4
      try clear c5
      try clear c9
      try clear c10
      try clear c10b0
      try clear c10b1
      try clear c10b2
      obtain ⟨kq, x23_5, rfl, HA, HJ5, BK218, BK219, HB⟩ := hcut
      cases kq with
      | zero => exact absurd HA.out (by simp [swarflaw44_CycleEnds.j0])
      | succ kj5 =>
        have H := HA.out
        clear HA
        simp only [swarflaw44_CycleEnds.j0] at H
        by_cases c11 : x23_5 = true
        · subst c11
          have H1 : (some true) = some r := by rw [if_pos rfl] at H; exact H
          clear H
          have H := H1
          clear H1
          obtain rfl := Option.some.inj H
          go_wp2
          go_ret
          exact ⟨by first | rfl | (simp [errW_none, errW_some] <;> rfl) | (simp [*, errW_none, errW_some] <;> rfl), by repeat (first | (with_reducible first | exact HB.out | apply below_alloc | apply pw_below_drewN | apply below_drew1 | refine below_set ?_ GE218.out | refine below_set ?_ GE219.out) | exact HB.out)⟩
        · replace c11 := Bool.eq_false_iff.mpr c11
          subst c11
          have H1 : ((api_Grid2.f l2).bind fun t221 => ((cycle_Expand.f kj5 a0_0 a0_1 a0_2 a0_3 a0_4 a0_5 a0_6 a1_0 a1_1 a1_2 t221).bind fun bt224 => (if bt224.2 = 0 then (swarflaw44_CycleEnds.l0 kj5 l2 bt224.1 (bt224.1.length : Int) 0 a0_0 a0_1 a0_2 a0_3 a0_4 a0_5 a0_6 a1_0 a1_1 a1_2 a1_0 a1_1 a1_2) else (some ((bt224.1.length : Int) == 0))))) = some r := by rw [if_neg (show ¬ (false = true) by decide)] at H; exact H
          clear H
          have H := H1
          clear H1
          replace H := Option.bind_eq_some_iff.mp H
          obtain ⟨t221, A120, H⟩ := H
          replace H : ((cycle_Expand.f kj5 a0_0 a0_1 a0_2 a0_3 a0_4 a0_5 a0_6 a1_0 a1_1 a1_2 t221).bind fun bt224 => (if bt224.2 = 0 then (swarflaw44_CycleEnds.l0 kj5 l2 bt224.1 (bt224.1.length : Int) 0 a0_0 a0_1 a0_2 a0_3 a0_4 a0_5 a0_6 a1_0 a1_1 a1_2 a1_0 a1_1 a1_2) else (some ((bt224.1.length : Int) == 0)))) = some r := H
          have A12 := Aside0.mk A120
          clear A120
          replace H := Option.bind_eq_some_iff.mp H
          obtain ⟨⟨t224, t227⟩, A130, H⟩ := H
          replace H : (if t227 = 0 then (swarflaw44_CycleEnds.l0 kj5 l2 t224 (t224.length : Int) 0 a0_0 a0_1 a0_2 a0_3 a0_4 a0_5 a0_6 a1_0 a1_1 a1_2 a1_0 a1_1 a1_2) else (some ((t224.length : Int) == 0))) = some r := H
          have A13 := Aside0.mk A130
          clear A130
          by_cases c14 : t227 = 0
          · rw [if_pos c14] at H
            have c14b0 : (t227 == 0) = true := beq_iff_eq.mpr c14
            have c14b1 : (t227 != 0) = false := bne_eq_false_iff_eq.mpr c14
            clear c14
            have H' := Aside0.mk H
            clear H
            try go_wp2
            have n0_ := Aside0.mk (blk_drew BK218.out)
            have n1_ := Aside0.mk (blk_drew BK219.out)
            have n2_ := Aside0.mk (below_drew1 HB.out)
            clear BK218
            clear BK219
            clear HB
            have BK218 := n0_
            have BK219 := n1_
            have HB := n2_
            clear n0_ n1_ n2_
            refine start_ (n := 10) (S := fun w' => w'.cell? ⟨gb218, 0, none⟩ = some (.int .i64 a0_0) ∧ w'.cell? ⟨gb218, 1, none⟩ = some (.int .i64 a0_1) ∧ w'.cell? ⟨gb218, 2, none⟩ = some (.int .i64 a0_2) ∧ w'.cell? ⟨gb218, 3, none⟩ = some (.int .i64 a0_3) ∧ w'.cell? ⟨gb218, 4, none⟩ = some (.int .i64 a0_4) ∧ w'.cell? ⟨gb218, 5, none⟩ = some (.int .i64 a0_5) ∧ w'.cell? ⟨gb218, 6, none⟩ = some (.bool a0_6) ∧ w'.cell? ⟨gb219, 0, none⟩ = some (.int .i64 a1_0) ∧ w'.cell? ⟨gb219, 1, none⟩ = some (.int .i64 a1_1) ∧ w'.cell? ⟨gb219, 2, none⟩ = some (.int .i64 a1_2)) (ds := []) #[false, false, false, false, false, false, false, false, false, false] (by kernel_rfl) rfl rfl ⟨(blk_cell BK218.out 0).trans rfl, (blk_cell BK218.out 1).trans rfl, (blk_cell BK218.out 2).trans rfl, (blk_cell BK218.out 3).trans rfl, (blk_cell BK218.out 4).trans rfl, (blk_cell BK218.out 5).trans rfl, (blk_cell BK218.out 6).trans rfl, (blk_cell BK219.out 0).trans rfl, (blk_cell BK219.out 1).trans rfl, (blk_cell BK219.out 2).trans rfl⟩ (fun hHeld => ?_); refine with_tabW swarflaw44_CycleEnds.tab5 swarflaw44_CycleEnds.bits5 (fun HT_ HW_ => ?_)
            generalize wc.drew = w15 at BK218 BK219 HB hHeld ⊢
            refine pure_ (i := 2) (N := some 27) (v := ?_) (a' := ?_) #[false, false, true, false, false, false, false, false, false, false] rfl rfl (any_of HT_.out (by kernel_rfl)) (fun _ _ _ h => h) (Or.inl ⟨by rfl, ?_⟩) ?_ ?_
            rotate_left
            · intro w'
              go_simp
              with_reducible rfl
            rotate_left
            · simp only [Act.put, List.setIfInBounds_toArray, List.set_cons_zero, List.set_cons_succ, i64_w, i32_w]
              rfl
            refine take_ (i := 0) (N := some 25) (v := ?_) (a' := ?_) #[true, false, true, false, false, false, false, false, false, false] rfl rfl (take_ofW HT_.out HW_.out (by kernel_rfl)) (fun _ _ _ h => h) (Or.inl ⟨by rfl, ?_⟩) hHeld ?_ ?_
            rotate_left
            · rintro w' ⟨s0, s1, s2, s3, s4, s5, s6, s7, s8, s9⟩
              go_simp
              with_reducible rfl
            rotate_left
            · simp only [Act.put, List.setIfInBounds_toArray, List.set_cons_zero, List.set_cons_succ, i64_w, i32_w]
              rfl
            refine take_ (i := 1) (N := some 26) (v := ?_) (a' := ?_) #[true, true, true, false, false, false, false, false, false, false] rfl rfl (take_ofW HT_.out HW_.out (by kernel_rfl)) (fun _ _ _ h => h) (Or.inl ⟨by rfl, ?_⟩) hHeld ?_ ?_
            rotate_left
            · rintro w' ⟨s0, s1, s2, s3, s4, s5, s6, s7, s8, s9⟩
              go_simp
              with_reducible rfl
            rotate_left
            · simp only [Act.put, List.setIfInBounds_toArray, List.set_cons_zero, List.set_cons_succ, i64_w, i32_w]
              rfl
            refine one_ (i := 3) (N := some 28) #[true, true, true, true, false, false, false, false, false, false] rfl rfl (one_of HT_.out (by kernel_rfl)) (by decide) (fun K hK => ?_)
            refine goes_ Try.func16 (by kernel_rfl) rfl #[.slice A2 l2.length c2] (by rfl) rfl rfl (by (try simp only [List.map_toArray, List.map_cons, List.map_nil]); first | done | rfl | (simp only [List.length_drop, List.length_take]; rfl)) ?_
            with_reducible refine (api_Grid2.calls _ _ l2 t221 _ ?side1 ?side2 A12.out).mono ?_
            (case side1 => repeat (first | exact (Kd.C_below HR2.out HB.out) | (with_reducible refine Kd.C_alloc ?_ _) | (with_reducible refine Kd.C_drewN ?_ _) | (with_reducible refine Kd.C_drew ?_)))
            (case side2 => exact HC2.out)
            rintro e w16 ⟨v222, rfl, ho0, hb⟩
            refine ⟨_, rfl, ?_⟩
            have n0_ := Aside0.mk (Kd.R_lower ho0 (below_size (by repeat (first | (with_reducible first | exact HB.out | apply below_alloc | apply pw_below_drewN | apply below_drew1 | refine below_set ?_ GE218.out | refine below_set ?_ GE219.out) | exact HB.out))))
            have n1_ := Aside0.mk (blk_below (g := gb218) (o := .cells #[.int .i64 a0_0, .int .i64 a0_1, .int .i64 a0_2, .int .i64 a0_3, .int .i64 a0_4, .int .i64 a0_5, .bool a0_6] 23 (0, 0)) (by (with_reducible repeat (first | refine blk_drewN ?_ _ | refine blk_drew ?_ | refine blk_alloc ?_ _)); exact BK218.out) hb)
            have n2_ := Aside0.mk (blk_below (g := gb219) (o := .cells #[.int .i64 a1_0, .int .i64 a1_1, .int .i64 a1_2] 36 (0, 0)) (by (with_reducible repeat (first | refine blk_drewN ?_ _ | refine blk_drew ?_ | refine blk_alloc ?_ _)); exact BK219.out) hb)
            have n3_ := Aside0.mk (below_step (by repeat (first | (with_reducible first | exact HB.out | apply below_alloc | apply pw_below_drewN | apply below_drew1 | refine below_set ?_ GE218.out | refine below_set ?_ GE219.out) | exact HB.out)) hb)
            clear BK218
            clear BK219
            clear HB
            have HO223 := n0_
            have BK218 := n1_
            have BK219 := n2_
            have HB := n3_
            clear n0_ n1_ n2_ n3_
            (try clear hb)
            (try clear hb2)
            (try clear hk)
            (try clear hi)
            (try clear ho0)
            obtain ⟨Ao17, co17, eo17⟩ := Kd.R_slice HO223.out
            (first | subst eo17 | (injection eo17 with f1_ f2_ f3_; have f4_ := f1_.symm; have f5_ := f3_.symm; clear f1_ f2_ f3_; subst f4_; subst f5_))
            refine hK.out _ _ ⟨(blk_cell BK218.out 0).trans rfl, (blk_cell BK218.out 1).trans rfl, (blk_cell BK218.out 2).trans rfl, (blk_cell BK218.out 3).trans rfl, (blk_cell BK218.out 4).trans rfl, (blk_cell BK218.out 5).trans rfl, (blk_cell BK218.out 6).trans rfl, (blk_cell BK219.out 0).trans rfl, (blk_cell BK219.out 1).trans rfl, (blk_cell BK219.out 2).trans rfl⟩ (fun hHeld => ?_)
            clear hK K
            refine norm_ (a' := ?_) ?_ ?_
            rotate_left
            · show Act.put _ (some 28) _ = _
              simp only [Act.put, List.setIfInBounds_toArray, List.set_cons_zero, List.set_cons_succ, i64_w, i32_w]
              rfl
            refine one_ (i := 4) (N := some 29) #[true, true, true, true, true, false, false, false, false, false] rfl rfl (one_of HT_.out (by kernel_rfl)) (by decide) (fun K hK => ?_)
            refine goes_ Try.func15 (by kernel_rfl) rfl #[.agg #[.int .i64 a0_0, .int .i64 a0_1, .int .i64 a0_2, .int .i64 a0_3, .int .i64 a0_4, .int .i64 a0_5, .bool a0_6], .agg #[.int .i64 a1_0, .int .i64 a1_1, .int .i64 a1_2], .slice Ao17 t221.length co17] (by rfl) rfl rfl (by (try simp only [List.map_toArray, List.map_cons, List.map_nil]); first | done | rfl | (simp only [List.length_drop, List.length_take]; rfl)) ?_
            with_reducible refine (cycle_Expand.calls kj5 a0_0 a0_1 a0_2 a0_3 a0_4 a0_5 a0_6 a1_0 a1_1 a1_2 _ _ t221 t224 t227 _ ?side1 ?side2 A13.out).mono ?_
            (case side1 => repeat (first | exact (Kd.R_reads' HO223.out).2.2 | (with_reducible refine Kd.C_alloc ?_ _) | (with_reducible refine Kd.C_drewN ?_ _) | (with_reducible refine Kd.C_drew ?_)))
            (case side2 => exact (Kd.R_reads' HO223.out).2.1)
            rintro e w18 ⟨v225, rfl, ho0, hb⟩
            refine ⟨_, rfl, ?_⟩
            have n0_ := Aside0.mk (Kd.R_below (by (with_reducible repeat (first | apply Kd.R_alloc | apply Kd.R_drewN | apply Kd.R_drew)); exact HO223.out) hb)
            have n1_ := Aside0.mk (Kd.R_lower ho0 (below_size (by repeat (first | (with_reducible first | exact HB.out | apply below_alloc | apply pw_below_drewN | apply below_drew1 | refine below_set ?_ GE218.out | refine below_set ?_ GE219.out) | exact HB.out))))
            have n2_ := Aside0.mk (blk_below (g := gb218) (o := .cells #[.int .i64 a0_0, .int .i64 a0_1, .int .i64 a0_2, .int .i64 a0_3, .int .i64 a0_4, .int .i64 a0_5, .bool a0_6] 23 (0, 0)) (by (with_reducible repeat (first | refine blk_drewN ?_ _ | refine blk_drew ?_ | refine blk_alloc ?_ _)); exact BK218.out) hb)
            have n3_ := Aside0.mk (blk_below (g := gb219) (o := .cells #[.int .i64 a1_0, .int .i64 a1_1, .int .i64 a1_2] 36 (0, 0)) (by (with_reducible repeat (first | refine blk_drewN ?_ _ | refine blk_drew ?_ | refine blk_alloc ?_ _)); exact BK219.out) hb)
            have n4_ := Aside0.mk (below_step (by repeat (first | (with_reducible first | exact HB.out | apply below_alloc | apply pw_below_drewN | apply below_drew1 | refine below_set ?_ GE218.out | refine below_set ?_ GE219.out) | exact HB.out)) hb)
            clear HO223
            clear BK218
            clear BK219
            clear HB
            have HO223 := n0_
            have HO226 := n1_
            have BK218 := n2_
            have BK219 := n3_
            have HB := n4_
            clear n0_ n1_ n2_ n3_ n4_
            (try clear hb)
            (try clear hb2)
            (try clear hk)
            (try clear hi)
            (try clear ho0)
            refine hK.out _ _ ⟨(blk_cell BK218.out 0).trans rfl, (blk_cell BK218.out 1).trans rfl, (blk_cell BK218.out 2).trans rfl, (blk_cell BK218.out 3).trans rfl, (blk_cell BK218.out 4).trans rfl, (blk_cell BK218.out 5).trans rfl, (blk_cell BK218.out 6).trans rfl, (blk_cell BK219.out 0).trans rfl, (blk_cell BK219.out 1).trans rfl, (blk_cell BK219.out 2).trans rfl⟩ (fun hHeld => ?_)
            clear hK K
            refine norm_ (a' := ?_) ?_ ?_
            rotate_left
            · show Act.put _ (some 29) _ = _
              simp only [Act.put, List.setIfInBounds_toArray, List.set_cons_zero, List.set_cons_succ, i64_w, i32_w]
              rfl
            refine pure_ (i := 5) (N := some 24) (v := ?_) (a' := ?_) #[true, true, true, true, true, true, false, false, false, false] rfl rfl (any_of HT_.out (by kernel_rfl)) (fun _ _ _ h => h) (Or.inl ⟨by rfl, ?_⟩) ?_ ?_
            rotate_left
            · intro w'
              go_simp
              with_reducible rfl
            rotate_left
            · simp only [Act.put, List.setIfInBounds_toArray, List.set_cons_zero, List.set_cons_succ, i64_w, i32_w]
              rfl
            refine pure_ (i := 6) (N := some 30) (v := ?_) (a' := ?_) #[true, true, true, true, true, true, true, false, false, false] rfl rfl (any_of HT_.out (by kernel_rfl)) (fun _ _ _ h => h) (Or.inl ⟨by rfl, ?_⟩) ?_ ?_
            rotate_left
            · intro w'
              go_simp
              with_reducible rfl
            rotate_left
            · simp only [Act.put, List.setIfInBounds_toArray, List.set_cons_zero, List.set_cons_succ, i64_w, i32_w]
              rfl
            refine pure_ (i := 7) (N := some 31) (v := ?_) (a' := ?_) #[true, true, true, true, true, true, true, true, false, false] rfl rfl (any_of HT_.out (by kernel_rfl)) (fun _ _ _ h => h) (Or.inl ⟨by rfl, ?_⟩) ?_ ?_
            rotate_left
            · intro w'
              go_simp
              with_reducible rfl
            rotate_left
            · simp only [Act.put, List.setIfInBounds_toArray, List.set_cons_zero, List.set_cons_succ, i64_w, i32_w]
              rfl
            refine pure_ (i := 8) (N := some 7) (v := ?_) (a' := ?_) #[true, true, true, true, true, true, true, true, true, false] rfl rfl (any_of HT_.out (by kernel_rfl)) (fun _ _ _ h => h) (Or.inl ⟨by rfl, ?_⟩) ?_ ?_
            rotate_left
            · intro w'
              go_simp
              with_reducible rfl
            rotate_left
            · simp only [Act.put, List.setIfInBounds_toArray, List.set_cons_zero, List.set_cons_succ, i64_w, i32_w]
              rfl
            refine pure_ (i := 9) (N := some 8) (v := ?_) (a' := ?_) #[true, true, true, true, true, true, true, true, true, true] rfl rfl (any_of HT_.out (by kernel_rfl)) (fun _ _ _ h => h) (Or.inl ⟨by rfl, ?_⟩) ?_ ?_
            rotate_left
            · intro w'
              go_simp
              with_reducible rfl
            rotate_left
            · simp only [Act.put, List.setIfInBounds_toArray, List.set_cons_zero, List.set_cons_succ, i64_w, i32_w]
              rfl
            refine done_ (done_of HT_.out (by kernel_rfl)) ?_
            have hnb19 := NB219_218.out
            have hnc19 := NB218_219.out
            have hcz20_0 : w18.cell? ⟨gb219, 0, none⟩ = some (.int .i64 a1_0) := (blk_cell BK219.out 0).trans rfl
            have hcz20_1 : w18.cell? ⟨gb219, 1, none⟩ = some (.int .i64 a1_1) := (blk_cell BK219.out 1).trans rfl
            have hcz20_2 : w18.cell? ⟨gb219, 2, none⟩ = some (.int .i64 a1_2) := (blk_cell BK219.out 2).trans rfl
            have hfz20_0 := blk_frozen BK219.out 0
            have hfz20_1 := blk_frozen BK219.out 1
            have hfz20_2 := blk_frozen BK219.out 2
            try go_wp2_with (first | ((with_reducible refine gate_dst (N := 9) rfl ?_); (try (refine gate_guard (by rfl) ?_; dsimp only)); refine box_event ?hg (N := 9) ?hd (cs := #[.int .i64 0, .int .i64 0, .int .i64 0]) (t := 36) ?hr ?_; (case hd => rfl); (case hg => rfl); (case hr => first | (go_simp; done) | (go_simp; rfl)); intro gb228 hg w21 hbox hb; have n0_ := Aside0.mk (Kd.R_below (by (with_reducible repeat (first | apply Kd.R_alloc | apply Kd.R_drewN | apply Kd.R_drew)); exact HO223.out) hb); have n1_ := Aside0.mk (Kd.R_below (by (with_reducible repeat (first | apply Kd.R_alloc | apply Kd.R_drewN | apply Kd.R_drew)); exact HO226.out) hb); have n2_ := Aside0.mk (blk_below (g := gb218) (o := .cells #[.int .i64 a0_0, .int .i64 a0_1, .int .i64 a0_2, .int .i64 a0_3, .int .i64 a0_4, .int .i64 a0_5, .bool a0_6] 23 (0, 0)) (by (with_reducible repeat (first | refine blk_drewN ?_ _ | refine blk_drew ?_ | refine blk_alloc ?_ _)); exact BK218.out) hb); have n3_ := Aside0.mk (blk_below (g := gb219) (o := .cells #[.int .i64 a1_0, .int .i64 a1_1, .int .i64 a1_2] 36 (0, 0)) (by (with_reducible repeat (first | refine blk_drewN ?_ _ | refine blk_drew ?_ | refine blk_alloc ?_ _)); exact BK219.out) hb); have n4_ := Aside0.mk (below_step (by repeat (first | (with_reducible first | exact HB.out | apply below_alloc | apply pw_below_drewN | apply below_drew1 | refine below_set ?_ GE218.out | refine below_set ?_ GE219.out) | exact HB.out)) hb); have n5_ := Aside0.mk (hbox); have n6_ := Aside0.mk ((by rw [hg]; exact (below_size (by repeat (first | (with_reducible first | exact HB.out | apply below_alloc | apply pw_below_drewN | apply below_drew1 | refine below_set ?_ GE218.out | refine below_set ?_ GE219.out) | exact HB.out))) : w.heap.size ≤ gb228)); have n7_ := Aside0.mk ((by rw [hg]; exact (below_size (by repeat (first | (with_reducible first | exact HB.out | apply below_alloc | apply pw_below_drewN | apply below_drew1 | refine below_set ?_ GE218.out | refine below_set ?_ GE219.out) | exact HB.out))) : w.heap.size ≤ gb228)); have n8_ := Aside0.mk ((by rw [hg]; exact Nat.ne_of_lt (blk_lt (g := gb218) (o := .cells #[.int .i64 a0_0, .int .i64 a0_1, .int .i64 a0_2, .int .i64 a0_3, .int .i64 a0_4, .int .i64 a0_5, .bool a0_6] 23 (0, 0)) (by (with_reducible repeat (first | refine blk_drewN ?_ _ | refine blk_drew ?_ | refine blk_alloc ?_ _)); exact BK218.out)) : gb218 ≠ gb228)); have n9_ := Aside0.mk ((by rw [hg]; exact Nat.ne_of_gt (blk_lt (g := gb218) (o := .cells #[.int .i64 a0_0, .int .i64 a0_1, .int .i64 a0_2, .int .i64 a0_3, .int .i64 a0_4, .int .i64 a0_5, .bool a0_6] 23 (0, 0)) (by (with_reducible repeat (first | refine blk_drewN ?_ _ | refine blk_drew ?_ | refine blk_alloc ?_ _)); exact BK218.out)) : gb228 ≠ gb218)); have n10_ := Aside0.mk ((by rw [hg]; exact Nat.ne_of_lt (blk_lt (g := gb219) (o := .cells #[.int .i64 a1_0, .int .i64 a1_1, .int .i64 a1_2] 36 (0, 0)) (by (with_reducible repeat (first | refine blk_drewN ?_ _ | refine blk_drew ?_ | refine blk_alloc ?_ _)); exact BK219.out)) : gb219 ≠ gb228)); have n11_ := Aside0.mk ((by rw [hg]; exact Nat.ne_of_gt (blk_lt (g := gb219) (o := .cells #[.int .i64 a1_0, .int .i64 a1_1, .int .i64 a1_2] 36 (0, 0)) (by (with_reducible repeat (first | refine blk_drewN ?_ _ | refine blk_drew ?_ | refine blk_alloc ?_ _)); exact BK219.out)) : gb228 ≠ gb219)); clear HO223; clear HO226; clear BK218; clear BK219; clear HB; have HO223 := n0_; have HO226 := n1_; have BK218 := n2_; have BK219 := n3_; have HB := n4_; have BK228 := n5_; have GW228 := n6_; have GE228 := n7_; have NB218_228 := n8_; have NB228_218 := n9_; have NB219_228 := n10_; have NB228_219 := n11_; clear n0_ n1_ n2_ n3_ n4_ n5_ n6_ n7_ n8_ n9_ n10_ n11_; clear hb hbox hg; have hnb22 := NB228_218.out; have hnc22 := NB218_228.out; have hnb23 := NB228_219.out; have hnc23 := NB219_228.out; have hcz24_0 : w21.cell? ⟨gb228, 0, none⟩ = some (.int .i64 0) := (blk_cell BK228.out 0).trans rfl; have hcz24_1 : w21.cell? ⟨gb228, 1, none⟩ = some (.int .i64 0) := (blk_cell BK228.out 1).trans rfl; have hcz24_2 : w21.cell? ⟨gb228, 2, none⟩ = some (.int .i64 0) := (blk_cell BK228.out 2).trans rfl; have hfz24_0 := blk_frozen BK228.out 0; have hfz24_1 := blk_frozen BK228.out 1; have hfz24_2 := blk_frozen BK228.out 2; obtain ⟨Ao25, co25, eo25⟩ := Kd.R_slice HO226.out; subst eo25))
            go_loopg [40] kj5 (fun kq v40 w' => ∃ (x40_2 : Int) (x229000_2 : Int) (x229001_2 : Int) (x229002_2 : Int), v40 = .int .i64 x40_2 ∧ Aside0 (swarflaw44_CycleEnds.l0 kq l2 t224 (t224.length : Int) x40_2 a0_0 a0_1 a0_2 a0_3 a0_4 a0_5 a0_6 a1_0 a1_1 a1_2 x229000_2 x229001_2 x229002_2 = some r) ∧ Aside0 (kq ≤ kj5) ∧ Aside0 (Kd.R k45 45 w' w.heap.size (fun _ => True) (.slice Ao25 t224.length co25) t224) ∧ Aside0 (w'.heap[gb218]? = some (.cells #[.int .i64 a0_0, .int .i64 a0_1, .int .i64 a0_2, .int .i64 a0_3, .int .i64 a0_4, .int .i64 a0_5, .bool a0_6] 23 (0, 0))) ∧ Aside0 (w'.heap[gb219]? = some (.cells #[.int .i64 a1_0, .int .i64 a1_1, .int .i64 a1_2] 36 (0, 0))) ∧ Aside0 (w'.heap[gb228]? = some (.cells #[.int .i64 x229000_2, .int .i64 x229001_2, .int .i64 x229002_2] 36 (0, 0))) ∧ Aside0 (Below w.heap.size w w'))
            case atStart => exact ⟨(0), (a1_0), (a1_1), (a1_2), (by first | rfl | (simp; done) | (simp [*]; done)), H', ⟨Nat.le_refl _⟩, ⟨by (with_reducible repeat (first | apply Kd.R_alloc | apply Kd.R_drewN | apply Kd.R_drew)); exact Kd.R_mono (Kd.R_far (p := ⟨gb228, 2, none⟩) (Kd.R_far (p := ⟨gb228, 1, none⟩) (Kd.R_far (p := ⟨gb228, 0, none⟩) (Kd.R_types HO226.out BK228.out (by decide)) (fun _ hk => hk.2) (.int .i64 a1_0)) (fun _ hk => hk.2) (.int .i64 a1_1)) (fun _ hk => hk.2) (.int .i64 a1_2)) (fun _ hk => trivial)⟩, ⟨by (with_reducible repeat (first | refine blk_drewN ?_ _ | refine blk_drew ?_ | refine blk_alloc ?_ _)); refine blk_far ?_ NB218_228.out _; (with_reducible repeat (first | refine blk_drewN ?_ _ | refine blk_drew ?_ | refine blk_alloc ?_ _)); refine blk_far ?_ NB218_228.out _; (with_reducible repeat (first | refine blk_drewN ?_ _ | refine blk_drew ?_ | refine blk_alloc ?_ _)); refine blk_far ?_ NB218_228.out _; (with_reducible repeat (first | refine blk_drewN ?_ _ | refine blk_drew ?_ | refine blk_alloc ?_ _)); exact BK218.out⟩, ⟨by (with_reducible repeat (first | refine blk_drewN ?_ _ | refine blk_drew ?_ | refine blk_alloc ?_ _)); refine blk_far ?_ NB219_228.out _; (with_reducible repeat (first | refine blk_drewN ?_ _ | refine blk_drew ?_ | refine blk_alloc ?_ _)); refine blk_far ?_ NB219_228.out _; (with_reducible repeat (first | refine blk_drewN ?_ _ | refine blk_drew ?_ | refine blk_alloc ?_ _)); refine blk_far ?_ NB219_228.out _; (with_reducible repeat (first | refine blk_drewN ?_ _ | refine blk_drew ?_ | refine blk_alloc ?_ _)); exact BK219.out⟩, ⟨by (with_reducible repeat (first | refine blk_drewN ?_ _ | refine blk_drew ?_ | refine blk_alloc ?_ _)); refine blk_put (cs := #[.int .i64 a1_0, .int .i64 a1_1, .int .i64 0]) ?_ 2 _ rfl; (with_reducible repeat (first | refine blk_drewN ?_ _ | refine blk_drew ?_ | refine blk_alloc ?_ _)); refine blk_put (cs := #[.int .i64 a1_0, .int .i64 0, .int .i64 0]) ?_ 1 _ rfl; (with_reducible repeat (first | refine blk_drewN ?_ _ | refine blk_drew ?_ | refine blk_alloc ?_ _)); refine blk_put (cs := #[.int .i64 0, .int .i64 0, .int .i64 0]) ?_ 0 _ rfl; (with_reducible repeat (first | refine blk_drewN ?_ _ | refine blk_drew ?_ | refine blk_alloc ?_ _)); exact BK228.out⟩, ⟨by repeat (first | (with_reducible first | exact HB.out | apply below_alloc | apply pw_below_drewN | apply below_drew1 | refine below_set ?_ GE218.out | refine below_set ?_ GE219.out | refine below_set ?_ GE228.out) | exact HB.out)⟩⟩
            case round =>
              clear H'
              try clear c1
              try clear c2
              try clear p2
              try clear c4
              try clear c5
              try clear c9
              try clear c10
              try clear c10b0
              try clear c10b1
              try clear c10b2
              try clear c11
              try clear c14
              try clear c14b0
              try clear c14b1
              try clear c15
              try clear c16
              try clear c19
              try clear c22
              try clear c23
              try clear hcz20_0
              try clear hcz20_1
              try clear hcz20_2
              try clear hcz24_0
              try clear hcz24_1
              try clear hcz24_2
              try clear hfz20_0
              try clear hfz20_1
              try clear hfz20_2
              try clear hfz24_0
              try clear hfz24_1
              try clear hfz24_2
              try clear p2
              obtain ⟨x40_2, x229000_2, x229001_2, x229002_2, rfl, HA, HK2, HO_38, BK218, BK219, BK228, HB⟩ := hrel
              cases gk with
              | zero => exact absurd HA.out (by simp [swarflaw44_CycleEnds.l0])
              | succ k2 =>
                have H := HA.out
                clear HA
                simp only [swarflaw44_CycleEnds.l0] at H
                by_cases c26 : x40_2 < (t224.length : Int)
                · rw [if_pos c26] at H
                  have c26b0 : decide (x40_2 < (t224.length : Int)) = true := decide_eq_true c26
                  clear c26
                  by_cases c27 : 0 ≤ x40_2
                  · rw [if_pos c27] at H
                    have c27b0 : decide (0 ≤ x40_2) = true := decide_eq_true c27
                    clear c27
                    by_cases c28 : x40_2 < (t224.length : Int)
                    · rw [if_pos c28] at H
                      have c28b0 : decide (x40_2 < (t224.length : Int)) = true := decide_eq_true c28
                      clear c28
                      by_cases c29 : (((rd_T45 t224 x40_2).f1.f0) == x229000_2 && (((rd_T45 t224 x40_2).f1.f1) == x229001_2 && (((rd_T45 t224 x40_2).f1.f2) == x229002_2))) = true
                      · rw [if_pos c29] at H
                        have c29b0 : (((rd_T45 t224 x40_2).f1.f0) == x229000_2 && (((rd_T45 t224 x40_2).f1.f1) == x229001_2 && (((rd_T45 t224 x40_2).f1.f2) == x229002_2))) = true := c29
                        (try (have c29b1 : decide (((rd_T45 t224 x40_2).f1.f0) = x229000_2 && (((rd_T45 t224 x40_2).f1.f1) == x229001_2 && (((rd_T45 t224 x40_2).f1.f2) == x229002_2))) = true := by simpa using c29))
                        (try (have c29b2 : (((rd_T45 t224 x40_2).f1.f0) == x229000_2 && (((rd_T45 t224 x40_2).f1.f1) == x229001_2 && (((rd_T45 t224 x40_2).f1.f2) == x229002_2))) = true := by simpa using c29))
                        clear c29
                        exact absurd (HRT.out.symm.trans (Option.some.inj H).symm) (by decide)
                      · rw [if_neg c29] at H
                        have c29b0 : (((rd_T45 t224 x40_2).f1.f0) == x229000_2 && (((rd_T45 t224 x40_2).f1.f1) == x229001_2 && (((rd_T45 t224 x40_2).f1.f2) == x229002_2))) = false := by simpa using c29
                        (try (have c29b1 : decide (((rd_T45 t224 x40_2).f1.f0) = x229000_2 && (((rd_T45 t224 x40_2).f1.f1) == x229001_2 && (((rd_T45 t224 x40_2).f1.f2) == x229002_2))) = false := by simpa using c29))
                        (try (have c29b2 : (((rd_T45 t224 x40_2).f1.f0) == x229000_2 && (((rd_T45 t224 x40_2).f1.f1) == x229001_2 && (((rd_T45 t224 x40_2).f1.f2) == x229002_2))) = false := by simpa using c29))
                        (try (have c29b3 : ¬ (((rd_T45 t224 x40_2).f1.f0) = x229000_2 && (((rd_T45 t224 x40_2).f1.f1) == x229001_2 && (((rd_T45 t224 x40_2).f1.f2) == x229002_2))) := by simpa using c29))
                        clear c29
                        obtain ⟨ji38, hji38⟩ : ∃ j_ : Int, (mn a0_2 a1_2) = j_ := ⟨_, rfl⟩
                        replace H : (if ((rd_T45 t224 x40_2).f1.f2) < (ji38) then (some false) else (if ((rd_T45 t224 x40_2).f0) = 2 then (if ((rd_T45 t224 x40_2).f1.f0) = x229000_2 then (if ((rd_T45 t224 x40_2).f1.f1) = x229001_2 then (if ((rd_T45 t224 x40_2).f1.f2) ≥ x229002_2 then (some false) else (if ((rd_T45 t224 x40_2).f3) = a0_4 then (swarflaw44_CycleEnds.l0 k2 l2 t224 (t224.length : Int) (wrap64 (x40_2 + 1)) a0_0 a0_1 a0_2 a0_3 a0_4 a0_5 a0_6 a1_0 a1_1 a1_2 ((rd_T45 t224 x40_2).f1.f0) ((rd_T45 t224 x40_2).f1.f1) ((rd_T45 t224 x40_2).f1.f2)) else (some false))) else (some false)) else (some false)) else (if ((rd_T45 t224 x40_2).f0) = 1 then (if ((rd_T45 t224 x40_2).f3) = 0 then (swarflaw44_CycleEnds.l0 k2 l2 t224 (t224.length : Int) (wrap64 (x40_2 + 1)) a0_0 a0_1 a0_2 a0_3 a0_4 a0_5 a0_6 a1_0 a1_1 a1_2 ((rd_T45 t224 x40_2).f1.f0) ((rd_T45 t224 x40_2).f1.f1) ((rd_T45 t224 x40_2).f1.f2)) else (some false)) else (some false)))) = some r := by first | (rw [hji38] at H; exact H) | (simp only [hji38] at H ⊢; exact H)
                        have hji38_ : (if a1_2 < a0_2 then a1_2 else a0_2) = ji38 := hji38
                        by_cases c39 : ((rd_T45 t224 x40_2).f1.f2) < (ji38)
                        · rw [if_pos c39] at H
                          have c39b0 : decide (((rd_T45 t224 x40_2).f1.f2) < (ji38)) = true := decide_eq_true c39
                          clear c39
                          exact absurd (HRT.out.symm.trans (Option.some.inj H).symm) (by decide)
                        · rw [if_neg c39] at H
                          have c39b0 : decide (((rd_T45 t224 x40_2).f1.f2) < (ji38)) = false := decide_eq_false c39
                          clear c39
                          by_cases c51 : ((rd_T45 t224 x40_2).f0) = 2
                          · rw [if_pos c51] at H
                            have c51b0 : (((rd_T45 t224 x40_2).f0) == 2) = true := beq_iff_eq.mpr c51
                            have c51b1 : (((rd_T45 t224 x40_2).f0) != 2) = false := bne_eq_false_iff_eq.mpr c51
                            clear c51
                            by_cases c52 : ((rd_T45 t224 x40_2).f1.f0) = x229000_2
                            · rw [if_pos c52] at H
                              have c52b0 : (((rd_T45 t224 x40_2).f1.f0) == x229000_2) = true := beq_iff_eq.mpr c52
                              have c52b1 : (((rd_T45 t224 x40_2).f1.f0) != x229000_2) = false := bne_eq_false_iff_eq.mpr c52
                              clear c52
                              by_cases c53 : ((rd_T45 t224 x40_2).f1.f1) = x229001_2
                              · rw [if_pos c53] at H
                                have c53b0 : (((rd_T45 t224 x40_2).f1.f1) == x229001_2) = true := beq_iff_eq.mpr c53
                                have c53b1 : (((rd_T45 t224 x40_2).f1.f1) != x229001_2) = false := bne_eq_false_iff_eq.mpr c53
                                clear c53
                                by_cases c54 : ((rd_T45 t224 x40_2).f1.f2) ≥ x229002_2
                                · rw [if_pos c54] at H
                                  have c54b0 : decide (x229002_2 ≤ ((rd_T45 t224 x40_2).f1.f2)) = true := decide_eq_true c54
                                  clear c54
                                  exact absurd (HRT.out.symm.trans (Option.some.inj H).symm) (by decide)
                                · rw [if_neg c54] at H
                                  have c54b0 : decide (x229002_2 ≤ ((rd_T45 t224 x40_2).f1.f2)) = false := decide_eq_false c54
                                  clear c54
                                  by_cases c66 : ((rd_T45 t224 x40_2).f3) = a0_4
                                  · rw [if_pos c66] at H
                                    have c66b0 : (((rd_T45 t224 x40_2).f3) == a0_4) = true := beq_iff_eq.mpr c66
                                    have c66b1 : (((rd_T45 t224 x40_2).f3) != a0_4) = false := bne_eq_false_iff_eq.mpr c66
                                    clear c66
                                    have H' := Aside0.mk H
                                    clear H
                                    have p229 : 0 ≤ (x40_2 : Int) := of_decide_eq_true (by first | (with_reducible assumption) | assumption)
                                    have q229 : x40_2 < (t224.length : Int) := of_decide_eq_true (by first | (with_reducible assumption) | assumption)
                                    obtain ⟨ad229, e229, hx229_0, hx229_1, hx229_2, hx229_3, hx229_4, hx229_5, hx229_6⟩ := at_T45 (Kd.R_reads' HO_38.out).2.2 x40_2 p229 q229
                                    cases e229
                                    replace p229 := eq_true p229
                                    replace q229 := eq_true q229
                                    have c29b9 : (((rd_T45 t224 x40_2).f1.f2) == x229002_2) = false := beq_eq_false_iff_ne.mpr (fun h_ => absurd c54b0 (by rw [h_]; simp))
                                    clear c29b0 c29b1 c29b2 c29b3
                                    go_upto_region 12 with (first | ((with_reducible refine gate_dst (N := 11) rfl ?_); (try (refine gate_guard (by rfl) ?_; dsimp only)); refine box_event ?hg (N := 11) ?hd (cs := #[.int .i64 0, .int .i64 0, .int .i64 0, .int .i64 0, .int .i64 0, .int .i64 0, .int .i64 0]) (t := 45) ?hr ?_; (case hd => rfl); (case hg => rfl); (case hr => first | (go_simp; done) | (go_simp; rfl)); intro gb230 hg w67 hbox hb; have n0_ := Aside0.mk (Kd.R_below (Kd.R_elderB (by (with_reducible repeat (first | apply Kd.R_alloc | apply Kd.R_drewN | apply Kd.R_drew)); exact HO_38.out) gb230 (Nat.le_of_eq hg.symm)) hb); have n1_ := Aside0.mk (blk_below (g := gb218) (o := .cells #[.int .i64 a0_0, .int .i64 a0_1, .int .i64 a0_2, .int .i64 a0_3, .int .i64 a0_4, .int .i64 a0_5, .bool a0_6] 23 (0, 0)) (by (with_reducible repeat (first | refine blk_drewN ?_ _ | refine blk_drew ?_ | refine blk_alloc ?_ _)); exact BK218.out) hb); have n2_ := Aside0.mk (blk_below (g := gb219) (o := .cells #[.int .i64 a1_0, .int .i64 a1_1, .int .i64 a1_2] 36 (0, 0)) (by (with_reducible repeat (first | refine blk_drewN ?_ _ | refine blk_drew ?_ | refine blk_alloc ?_ _)); exact BK219.out) hb); have n3_ := Aside0.mk (blk_below (g := gb228) (o := .cells #[.int .i64 x229000_2, .int .i64 x229001_2, .int .i64 x229002_2] 36 (0, 0)) (by (with_reducible repeat (first | refine blk_drewN ?_ _ | refine blk_drew ?_ | refine blk_alloc ?_ _)); exact BK228.out) hb); have n4_ := Aside0.mk (below_step (by repeat (first | (with_reducible first | exact HB.out | apply below_alloc | apply pw_below_drewN | apply below_drew1 | refine below_set ?_ GE218.out | refine below_set ?_ GE219.out | refine below_set ?_ GE228.out) | exact HB.out)) hb); have n5_ := Aside0.mk (hbox); have n6_ := Aside0.mk ((by rw [hg]; exact (below_size (by repeat (first | (with_reducible first | exact HB.out | apply below_alloc | apply pw_below_drewN | apply below_drew1 | refine below_set ?_ GE218.out | refine below_set ?_ GE219.out | refine below_set ?_ GE228.out) | exact HB.out))) : w.heap.size ≤ gb230)); have n7_ := Aside0.mk ((by rw [hg]; exact (below_size (by repeat (first | (with_reducible first | exact HB.out | apply below_alloc | apply pw_below_drewN | apply below_drew1 | refine below_set ?_ GE218.out | refine below_set ?_ GE219.out | refine below_set ?_ GE228.out) | exact HB.out))) : w.heap.size ≤ gb230)); have n8_ := Aside0.mk ((by rw [hg]; exact Nat.ne_of_lt (blk_lt (g := gb218) (o := .cells #[.int .i64 a0_0, .int .i64 a0_1, .int .i64 a0_2, .int .i64 a0_3, .int .i64 a0_4, .int .i64 a0_5, .bool a0_6] 23 (0, 0)) (by (with_reducible repeat (first | refine blk_drewN ?_ _ | refine blk_drew ?_ | refine blk_alloc ?_ _)); exact BK218.out)) : gb218 ≠ gb230)); have n9_ := Aside0.mk ((by rw [hg]; exact Nat.ne_of_gt (blk_lt (g := gb218) (o := .cells #[.int .i64 a0_0, .int .i64 a0_1, .int .i64 a0_2, .int .i64 a0_3, .int .i64 a0_4, .int .i64 a0_5, .bool a0_6] 23 (0, 0)) (by (with_reducible repeat (first | refine blk_drewN ?_ _ | refine blk_drew ?_ | refine blk_alloc ?_ _)); exact BK218.out)) : gb230 ≠ gb218)); have n10_ := Aside0.mk ((by rw [hg]; exact Nat.ne_of_lt (blk_lt (g := gb219) (o := .cells #[.int .i64 a1_0, .int .i64 a1_1, .int .i64 a1_2] 36 (0, 0)) (by (with_reducible repeat (first | refine blk_drewN ?_ _ | refine blk_drew ?_ | refine blk_alloc ?_ _)); exact BK219.out)) : gb219 ≠ gb230)); have n11_ := Aside0.mk ((by rw [hg]; exact Nat.ne_of_gt (blk_lt (g := gb219) (o := .cells #[.int .i64 a1_0, .int .i64 a1_1, .int .i64 a1_2] 36 (0, 0)) (by (with_reducible repeat (first | refine blk_drewN ?_ _ | refine blk_drew ?_ | refine blk_alloc ?_ _)); exact BK219.out)) : gb230 ≠ gb219)); have n12_ := Aside0.mk ((by rw [hg]; exact Nat.ne_of_lt (blk_lt (g := gb228) (o := .cells #[.int .i64 x229000_2, .int .i64 x229001_2, .int .i64 x229002_2] 36 (0, 0)) (by (with_reducible repeat (first | refine blk_drewN ?_ _ | refine blk_drew ?_ | refine blk_alloc ?_ _)); exact BK228.out)) : gb228 ≠ gb230)); have n13_ := Aside0.mk ((by rw [hg]; exact Nat.ne_of_gt (blk_lt (g := gb228) (o := .cells #[.int .i64 x229000_2, .int .i64 x229001_2, .int .i64 x229002_2] 36 (0, 0)) (by (with_reducible repeat (first | refine blk_drewN ?_ _ | refine blk_drew ?_ | refine blk_alloc ?_ _)); exact BK228.out)) : gb230 ≠ gb228)); clear HO_38; clear BK218; clear BK219; clear BK228; clear HB; have HO_38 := n0_; have BK218 := n1_; have BK219 := n2_; have BK228 := n3_; have HB := n4_; have BK230 := n5_; have GW230 := n6_; have GE230 := n7_; have NB218_230 := n8_; have NB230_218 := n9_; have NB219_230 := n10_; have NB230_219 := n11_; have NB228_230 := n12_; have NB230_228 := n13_; clear n0_ n1_ n2_ n3_ n4_ n5_ n6_ n7_ n8_ n9_ n10_ n11_ n12_ n13_; clear hb hbox hg; have hc_0 : w67.cell? ⟨gb230, 0, none⟩ = some (.int .i64 0) := (blk_cell BK230.out 0).trans rfl; have hf_0 := blk_frozen BK230.out 0; have hc_1 : w67.cell? ⟨gb230, 1, none⟩ = some (.int .i64 0) := (blk_cell BK230.out 1).trans rfl; have hf_1 := blk_frozen BK230.out 1; have hc_2 : w67.cell? ⟨gb230, 2, none⟩ = some (.int .i64 0) := (blk_cell BK230.out 2).trans rfl; have hf_2 := blk_frozen BK230.out 2; have hc_3 : w67.cell? ⟨gb230, 3, none⟩ = some (.int .i64 0) := (blk_cell BK230.out 3).trans rfl; have hf_3 := blk_frozen BK230.out 3; have hc_4 : w67.cell? ⟨gb230, 4, none⟩ = some (.int .i64 0) := (blk_cell BK230.out 4).trans rfl; have hf_4 := blk_frozen BK230.out 4; have hc_5 : w67.cell? ⟨gb230, 5, none⟩ = some (.int .i64 0) := (blk_cell BK230.out 5).trans rfl; have hf_5 := blk_frozen BK230.out 5; have hc_6 : w67.cell? ⟨gb230, 6, none⟩ = some (.int .i64 0) := (blk_cell BK230.out 6).trans rfl; have hf_6 := blk_frozen BK230.out 6; refine store_event (w1 := (((((((w67.setCell ⟨gb230, 0, none⟩ (.int .i64 ((rd_T45 t224 x40_2).f0))).setCell ⟨gb230, 1, none⟩ (.int .i64 ((rd_T45 t224 x40_2).f1.f0))).setCell ⟨gb230, 2, none⟩ (.int .i64 ((rd_T45 t224 x40_2).f1.f1))).setCell ⟨gb230, 3, none⟩ (.int .i64 ((rd_T45 t224 x40_2).f1.f2))).setCell ⟨gb230, 4, none⟩ (.int .i64 ((rd_T45 t224 x40_2).f2.f0))).setCell ⟨gb230, 5, none⟩ (.int .i64 ((rd_T45 t224 x40_2).f2.f1))).setCell ⟨gb230, 6, none⟩ (.int .i64 ((rd_T45 t224 x40_2).f3)))) rfl (t := 45) (p := 11) rfl rfl ?hst ?_; (case hst => first | (go_simp; done) | (go_simp; rfl)); intro ws hws; have m0_ : Aside0 (Kd.R k45 45 ws w.heap.size (fun k_ => True ∧ k_ ≠ gb230) (.slice (some ad229) t224.length co25) t224) := ⟨by rw [hws]; exact (Kd.R_far (p := ⟨gb230, 6, none⟩) (Kd.R_far (p := ⟨gb230, 5, none⟩) (Kd.R_far (p := ⟨gb230, 4, none⟩) (Kd.R_far (p := ⟨gb230, 3, none⟩) (Kd.R_far (p := ⟨gb230, 2, none⟩) (Kd.R_far (p := ⟨gb230, 1, none⟩) (Kd.R_far (p := ⟨gb230, 0, none⟩) HO_38.out (fun _ hk => hk.2) (.int .i64 ((rd_T45 t224 x40_2).f0))) (fun _ hk => hk.2) (.int .i64 ((rd_T45 t224 x40_2).f1.f0))) (fun _ hk => hk.2) (.int .i64 ((rd_T45 t224 x40_2).f1.f1))) (fun _ hk => hk.2) (.int .i64 ((rd_T45 t224 x40_2).f1.f2))) (fun _ hk => hk.2) (.int .i64 ((rd_T45 t224 x40_2).f2.f0))) (fun _ hk => hk.2) (.int .i64 ((rd_T45 t224 x40_2).f2.f1))) (fun _ hk => hk.2) (.int .i64 ((rd_T45 t224 x40_2).f3)))⟩; have m1_ : Aside0 (ws.heap[gb218]? = some (.cells #[.int .i64 a0_0, .int .i64 a0_1, .int .i64 a0_2, .int .i64 a0_3, .int .i64 a0_4, .int .i64 a0_5, .bool a0_6] 23 (0, 0))) := ⟨by rw [hws]; refine blk_far ?_ NB218_230.out _; refine blk_far ?_ NB218_230.out _; refine blk_far ?_ NB218_230.out _; refine blk_far ?_ NB218_230.out _; refine blk_far ?_ NB218_230.out _; refine blk_far ?_ NB218_230.out _; refine blk_far ?_ NB218_230.out _; exact BK218.out⟩; have m2_ : Aside0 (ws.heap[gb219]? = some (.cells #[.int .i64 a1_0, .int .i64 a1_1, .int .i64 a1_2] 36 (0, 0))) := ⟨by rw [hws]; refine blk_far ?_ NB219_230.out _; refine blk_far ?_ NB219_230.out _; refine blk_far ?_ NB219_230.out _; refine blk_far ?_ NB219_230.out _; refine blk_far ?_ NB219_230.out _; refine blk_far ?_ NB219_230.out _; refine blk_far ?_ NB219_230.out _; exact BK219.out⟩; have m3_ : Aside0 (ws.heap[gb228]? = some (.cells #[.int .i64 x229000_2, .int .i64 x229001_2, .int .i64 x229002_2] 36 (0, 0))) := ⟨by rw [hws]; refine blk_far ?_ NB228_230.out _; refine blk_far ?_ NB228_230.out _; refine blk_far ?_ NB228_230.out _; refine blk_far ?_ NB228_230.out _; refine blk_far ?_ NB228_230.out _; refine blk_far ?_ NB228_230.out _; refine blk_far ?_ NB228_230.out _; exact BK228.out⟩; have m4_ : Aside0 (ws.heap[gb230]? = some (.cells #[.int .i64 ((rd_T45 t224 x40_2).f0), .int .i64 ((rd_T45 t224 x40_2).f1.f0), .int .i64 ((rd_T45 t224 x40_2).f1.f1), .int .i64 ((rd_T45 t224 x40_2).f1.f2), .int .i64 ((rd_T45 t224 x40_2).f2.f0), .int .i64 ((rd_T45 t224 x40_2).f2.f1), .int .i64 ((rd_T45 t224 x40_2).f3)] 45 (0, 0))) := ⟨by rw [hws]; refine blk_put (cs := #[.int .i64 ((rd_T45 t224 x40_2).f0), .int .i64 ((rd_T45 t224 x40_2).f1.f0), .int .i64 ((rd_T45 t224 x40_2).f1.f1), .int .i64 ((rd_T45 t224 x40_2).f1.f2), .int .i64 ((rd_T45 t224 x40_2).f2.f0), .int .i64 ((rd_T45 t224 x40_2).f2.f1), .int .i64 0]) ?_ 6 _ rfl; refine blk_put (cs := #[.int .i64 ((rd_T45 t224 x40_2).f0), .int .i64 ((rd_T45 t224 x40_2).f1.f0), .int .i64 ((rd_T45 t224 x40_2).f1.f1), .int .i64 ((rd_T45 t224 x40_2).f1.f2), .int .i64 ((rd_T45 t224 x40_2).f2.f0), .int .i64 0, .int .i64 0]) ?_ 5 _ rfl; refine blk_put (cs := #[.int .i64 ((rd_T45 t224 x40_2).f0), .int .i64 ((rd_T45 t224 x40_2).f1.f0), .int .i64 ((rd_T45 t224 x40_2).f1.f1), .int .i64 ((rd_T45 t224 x40_2).f1.f2), .int .i64 0, .int .i64 0, .int .i64 0]) ?_ 4 _ rfl; refine blk_put (cs := #[.int .i64 ((rd_T45 t224 x40_2).f0), .int .i64 ((rd_T45 t224 x40_2).f1.f0), .int .i64 ((rd_T45 t224 x40_2).f1.f1), .int .i64 0, .int .i64 0, .int .i64 0, .int .i64 0]) ?_ 3 _ rfl; refine blk_put (cs := #[.int .i64 ((rd_T45 t224 x40_2).f0), .int .i64 ((rd_T45 t224 x40_2).f1.f0), .int .i64 0, .int .i64 0, .int .i64 0, .int .i64 0, .int .i64 0]) ?_ 2 _ rfl; refine blk_put (cs := #[.int .i64 ((rd_T45 t224 x40_2).f0), .int .i64 0, .int .i64 0, .int .i64 0, .int .i64 0, .int .i64 0, .int .i64 0]) ?_ 1 _ rfl; refine blk_put (cs := #[.int .i64 0, .int .i64 0, .int .i64 0, .int .i64 0, .int .i64 0, .int .i64 0, .int .i64 0]) ?_ 0 _ rfl; exact BK230.out⟩; have m5_ : Aside0 (Below w.heap.size w ws) := ⟨by rw [hws]; refine below_set ?_ GE230.out; refine below_set ?_ GE230.out; refine below_set ?_ GE230.out; refine below_set ?_ GE230.out; refine below_set ?_ GE230.out; refine below_set ?_ GE230.out; refine below_set ?_ GE230.out; exact HB.out⟩; clear hws hc_0 hf_0 hc_1 hf_1 hc_2 hf_2 hc_3 hf_3 hc_4 hf_4 hc_5 hf_5 hc_6 hf_6; clear HO_38 BK218 BK219 BK228 BK230 HB; have HO_38 := m0_; have BK218 := m1_; have BK219 := m2_; have BK228 := m3_; have BK230 := m4_; have HB := m5_; clear m0_ m1_ m2_ m3_ m4_ m5_; have hnb68 := NB230_218.out; have hnc68 := NB218_230.out; have hnb69 := NB230_219.out; have hnc69 := NB219_230.out; have hnb70 := NB230_228.out; have hnc70 := NB228_230.out; have hnb72 := NB228_218.out; have hnc72 := NB218_228.out; have hnb73 := NB228_219.out; have hnc73 := NB219_228.out; have hnb75 := NB218_219.out; have hnc75 := NB219_218.out; have h230_0 : ws.cell? ⟨gb230, 0, none⟩ = some (.int .i64 ((rd_T45 t224 x40_2).f0)) := (blk_cell BK230.out 0).trans rfl; have h230f_0 := blk_frozen BK230.out 0; have h230_1 : ws.cell? ⟨gb230, 1, none⟩ = some (.int .i64 ((rd_T45 t224 x40_2).f1.f0)) := (blk_cell BK230.out 1).trans rfl; have h230f_1 := blk_frozen BK230.out 1; have h230_2 : ws.cell? ⟨gb230, 2, none⟩ = some (.int .i64 ((rd_T45 t224 x40_2).f1.f1)) := (blk_cell BK230.out 2).trans rfl; have h230f_2 := blk_frozen BK230.out 2; have h230_3 : ws.cell? ⟨gb230, 3, none⟩ = some (.int .i64 ((rd_T45 t224 x40_2).f1.f2)) := (blk_cell BK230.out 3).trans rfl; have h230f_3 := blk_frozen BK230.out 3; have h230_4 : ws.cell? ⟨gb230, 4, none⟩ = some (.int .i64 ((rd_T45 t224 x40_2).f2.f0)) := (blk_cell BK230.out 4).trans rfl; have h230f_4 := blk_frozen BK230.out 4; have h230_5 : ws.cell? ⟨gb230, 5, none⟩ = some (.int .i64 ((rd_T45 t224 x40_2).f2.f1)) := (blk_cell BK230.out 5).trans rfl; have h230f_5 := blk_frozen BK230.out 5; have h230_6 : ws.cell? ⟨gb230, 6, none⟩ = some (.int .i64 ((rd_T45 t224 x40_2).f3)) := (blk_cell BK230.out 6).trans rfl; have h230f_6 := blk_frozen BK230.out 6; have h228_0 : ws.cell? ⟨gb228, 0, none⟩ = some (.int .i64 x229000_2) := (blk_cell BK228.out 0).trans rfl; have h228f_0 := blk_frozen BK228.out 0; have h228_1 : ws.cell? ⟨gb228, 1, none⟩ = some (.int .i64 x229001_2) := (blk_cell BK228.out 1).trans rfl; have h228f_1 := blk_frozen BK228.out 1; have h228_2 : ws.cell? ⟨gb228, 2, none⟩ = some (.int .i64 x229002_2) := (blk_cell BK228.out 2).trans rfl; have h228f_2 := blk_frozen BK228.out 2; have h218_0 : ws.cell? ⟨gb218, 0, none⟩ = some (.int .i64 a0_0) := (blk_cell BK218.out 0).trans rfl; have h218f_0 := blk_frozen BK218.out 0; have h218_1 : ws.cell? ⟨gb218, 1, none⟩ = some (.int .i64 a0_1) := (blk_cell BK218.out 1).trans rfl; have h218f_1 := blk_frozen BK218.out 1; have h218_2 : ws.cell? ⟨gb218, 2, none⟩ = some (.int .i64 a0_2) := (blk_cell BK218.out 2).trans rfl; have h218f_2 := blk_frozen BK218.out 2; have h218_3 : ws.cell? ⟨gb218, 3, none⟩ = some (.int .i64 a0_3) := (blk_cell BK218.out 3).trans rfl; have h218f_3 := blk_frozen BK218.out 3; have h218_4 : ws.cell? ⟨gb218, 4, none⟩ = some (.int .i64 a0_4) := (blk_cell BK218.out 4).trans rfl; have h218f_4 := blk_frozen BK218.out 4; have h218_5 : ws.cell? ⟨gb218, 5, none⟩ = some (.int .i64 a0_5) := (blk_cell BK218.out 5).trans rfl; have h218f_5 := blk_frozen BK218.out 5; have h218_6 : ws.cell? ⟨gb218, 6, none⟩ = some (.bool a0_6) := (blk_cell BK218.out 6).trans rfl; have h218f_6 := blk_frozen BK218.out 6; have h219_0 : ws.cell? ⟨gb219, 0, none⟩ = some (.int .i64 a1_0) := (blk_cell BK219.out 0).trans rfl; have h219f_0 := blk_frozen BK219.out 0; have h219_1 : ws.cell? ⟨gb219, 1, none⟩ = some (.int .i64 a1_1) := (blk_cell BK219.out 1).trans rfl; have h219f_1 := blk_frozen BK219.out 1; have h219_2 : ws.cell? ⟨gb219, 2, none⟩ = some (.int .i64 a1_2) := (blk_cell BK219.out 2).trans rfl; have h219f_2 := blk_frozen BK219.out 2))
                                    simp only [List.append_eq, List.cons_append, List.nil_append]
                                    go_wp2_with fail
                                    go_roundg k2
                                    case measure => have := HJ5.out; have := HK2.out; omega
                                    case rel => exact ⟨(wrap64 (x40_2 + 1)), ((rd_T45 t224 x40_2).f1.f0), ((rd_T45 t224 x40_2).f1.f1), ((rd_T45 t224 x40_2).f1.f2), (by first | rfl | (simp; done) | (simp [*]; done)), H', ⟨by have := HJ5.out; have := HK2.out; omega⟩, ⟨by (with_reducible repeat (first | apply Kd.R_alloc | apply Kd.R_drewN | apply Kd.R_drew)); exact Kd.R_mono (Kd.R_far (p := ⟨gb228, 2, none⟩) (Kd.R_far (p := ⟨gb228, 1, none⟩) (Kd.R_far (p := ⟨gb228, 0, none⟩) (Kd.R_types HO_38.out BK228.out (by decide)) (fun _ hk => hk.2) (.int .i64 ((rd_T45 t224 x40_2).f1.f0))) (fun _ hk => hk.2) (.int .i64 ((rd_T45 t224 x40_2).f1.f1))) (fun _ hk => hk.2) (.int .i64 ((rd_T45 t224 x40_2).f1.f2))) (fun _ hk => trivial)⟩, ⟨by (with_reducible repeat (first | refine blk_drewN ?_ _ | refine blk_drew ?_ | refine blk_alloc ?_ _)); refine blk_far ?_ NB218_228.out _; (with_reducible repeat (first | refine blk_drewN ?_ _ | refine blk_drew ?_ | refine blk_alloc ?_ _)); refine blk_far ?_ NB218_228.out _; (with_reducible repeat (first | refine blk_drewN ?_ _ | refine blk_drew ?_ | refine blk_alloc ?_ _)); refine blk_far ?_ NB218_228.out _; (with_reducible repeat (first | refine blk_drewN ?_ _ | refine blk_drew ?_ | refine blk_alloc ?_ _)); exact BK218.out⟩, ⟨by (with_reducible repeat (first | refine blk_drewN ?_ _ | refine blk_drew ?_ | refine blk_alloc ?_ _)); refine blk_far ?_ NB219_228.out _; (with_reducible repeat (first | refine blk_drewN ?_ _ | refine blk_drew ?_ | refine blk_alloc ?_ _)); refine blk_far ?_ NB219_228.out _; (with_reducible repeat (first | refine blk_drewN ?_ _ | refine blk_drew ?_ | refine blk_alloc ?_ _)); refine blk_far ?_ NB219_228.out _; (with_reducible repeat (first | refine blk_drewN ?_ _ | refine blk_drew ?_ | refine blk_alloc ?_ _)); exact BK219.out⟩, ⟨by (with_reducible repeat (first | refine blk_drewN ?_ _ | refine blk_drew ?_ | refine blk_alloc ?_ _)); refine blk_put (cs := #[.int .i64 ((rd_T45 t224 x40_2).f1.f0), .int .i64 ((rd_T45 t224 x40_2).f1.f1), .int .i64 x229002_2]) ?_ 2 _ rfl; (with_reducible repeat (first | refine blk_drewN ?_ _ | refine blk_drew ?_ | refine blk_alloc ?_ _)); refine blk_put (cs := #[.int .i64 ((rd_T45 t224 x40_2).f1.f0), .int .i64 x229001_2, .int .i64 x229002_2]) ?_ 1 _ rfl; (with_reducible repeat (first | refine blk_drewN ?_ _ | refine blk_drew ?_ | refine blk_alloc ?_ _)); refine blk_put (cs := #[.int .i64 x229000_2, .int .i64 x229001_2, .int .i64 x229002_2]) ?_ 0 _ rfl; (with_reducible repeat (first | refine blk_drewN ?_ _ | refine blk_drew ?_ | refine blk_alloc ?_ _)); exact BK228.out⟩, ⟨by repeat (first | (with_reducible first | exact HB.out | apply below_alloc | apply pw_below_drewN | apply below_drew1 | refine below_set ?_ GE218.out | refine below_set ?_ GE219.out | refine below_set ?_ GE228.out | refine below_set ?_ GE230.out) | exact HB.out)⟩⟩
                                  · rw [if_neg c66] at H
                                    have c66b0 : (((rd_T45 t224 x40_2).f3) == a0_4) = false := beq_eq_false_iff_ne.mpr c66
                                    have c66b1 : (((rd_T45 t224 x40_2).f3) != a0_4) = true := bne_iff_ne.mpr c66
                                    exact absurd (HRT.out.symm.trans (Option.some.inj H).symm) (by decide)
                              · rw [if_neg c53] at H
                                have c53b0 : (((rd_T45 t224 x40_2).f1.f1) == x229001_2) = false := beq_eq_false_iff_ne.mpr c53
                                have c53b1 : (((rd_T45 t224 x40_2).f1.f1) != x229001_2) = true := bne_iff_ne.mpr c53
                                exact absurd (HRT.out.symm.trans (Option.some.inj H).symm) (by decide)
                            · rw [if_neg c52] at H
                              have c52b0 : (((rd_T45 t224 x40_2).f1.f0) == x229000_2) = false := beq_eq_false_iff_ne.mpr c52
                              have c52b1 : (((rd_T45 t224 x40_2).f1.f0) != x229000_2) = true := bne_iff_ne.mpr c52
                              exact absurd (HRT.out.symm.trans (Option.some.inj H).symm) (by decide)
                          · rw [if_neg c51] at H
                            have c51b0 : (((rd_T45 t224 x40_2).f0) == 2) = false := beq_eq_false_iff_ne.mpr c51
                            have c51b1 : (((rd_T45 t224 x40_2).f0) != 2) = true := bne_iff_ne.mpr c51
                            by_cases c111 : ((rd_T45 t224 x40_2).f0) = 1
                            · rw [if_pos c111] at H
                              have c111b0 : (((rd_T45 t224 x40_2).f0) == 1) = true := beq_iff_eq.mpr c111
                              have c111b1 : (((rd_T45 t224 x40_2).f0) != 1) = false := bne_eq_false_iff_eq.mpr c111
                              clear c111
                              by_cases c112 : ((rd_T45 t224 x40_2).f3) = 0
                              · rw [if_pos c112] at H
                                have c112b0 : (((rd_T45 t224 x40_2).f3) == 0) = true := beq_iff_eq.mpr c112
                                have c112b1 : (((rd_T45 t224 x40_2).f3) != 0) = false := bne_eq_false_iff_eq.mpr c112
                                clear c112
                                have H' := Aside0.mk H
                                clear H
                                have p229 : 0 ≤ (x40_2 : Int) := of_decide_eq_true (by first | (with_reducible assumption) | assumption)
                                have q229 : x40_2 < (t224.length : Int) := of_decide_eq_true (by first | (with_reducible assumption) | assumption)
                                obtain ⟨ad229, e229, hx229_0, hx229_1, hx229_2, hx229_3, hx229_4, hx229_5, hx229_6⟩ := at_T45 (Kd.R_reads' HO_38.out).2.2 x40_2 p229 q229
                                cases e229
                                replace p229 := eq_true p229
                                replace q229 := eq_true q229
                                go_upto_region 12 with (first | ((with_reducible refine gate_dst (N := 11) rfl ?_); (try (refine gate_guard (by rfl) ?_; dsimp only)); refine box_event ?hg (N := 11) ?hd (cs := #[.int .i64 0, .int .i64 0, .int .i64 0, .int .i64 0, .int .i64 0, .int .i64 0, .int .i64 0]) (t := 45) ?hr ?_; (case hd => rfl); (case hg => rfl); (case hr => first | (go_simp; done) | (go_simp; rfl)); intro gb230 hg w113 hbox hb; have n0_ := Aside0.mk (Kd.R_below (Kd.R_elderB (by (with_reducible repeat (first | apply Kd.R_alloc | apply Kd.R_drewN | apply Kd.R_drew)); exact HO_38.out) gb230 (Nat.le_of_eq hg.symm)) hb); have n1_ := Aside0.mk (blk_below (g := gb218) (o := .cells #[.int .i64 a0_0, .int .i64 a0_1, .int .i64 a0_2, .int .i64 a0_3, .int .i64 a0_4, .int .i64 a0_5, .bool a0_6] 23 (0, 0)) (by (with_reducible repeat (first | refine blk_drewN ?_ _ | refine blk_drew ?_ | refine blk_alloc ?_ _)); exact BK218.out) hb); have n2_ := Aside0.mk (blk_below (g := gb219) (o := .cells #[.int .i64 a1_0, .int .i64 a1_1, .int .i64 a1_2] 36 (0, 0)) (by (with_reducible repeat (first | refine blk_drewN ?_ _ | refine blk_drew ?_ | refine blk_alloc ?_ _)); exact BK219.out) hb); have n3_ := Aside0.mk (blk_below (g := gb228) (o := .cells #[.int .i64 x229000_2, .int .i64 x229001_2, .int .i64 x229002_2] 36 (0, 0)) (by (with_reducible repeat (first | refine blk_drewN ?_ _ | refine blk_drew ?_ | refine blk_alloc ?_ _)); exact BK228.out) hb); have n4_ := Aside0.mk (below_step (by repeat (first | (with_reducible first | exact HB.out | apply below_alloc | apply pw_below_drewN | apply below_drew1 | refine below_set ?_ GE218.out | refine below_set ?_ GE219.out | refine below_set ?_ GE228.out) | exact HB.out)) hb); have n5_ := Aside0.mk (hbox); have n6_ := Aside0.mk ((by rw [hg]; exact (below_size (by repeat (first | (with_reducible first | exact HB.out | apply below_alloc | apply pw_below_drewN | apply below_drew1 | refine below_set ?_ GE218.out | refine below_set ?_ GE219.out | refine below_set ?_ GE228.out) | exact HB.out))) : w.heap.size ≤ gb230)); have n7_ := Aside0.mk ((by rw [hg]; exact (below_size (by repeat (first | (with_reducible first | exact HB.out | apply below_alloc | apply pw_below_drewN | apply below_drew1 | refine below_set ?_ GE218.out | refine below_set ?_ GE219.out | refine below_set ?_ GE228.out) | exact HB.out))) : w.heap.size ≤ gb230)); have n8_ := Aside0.mk ((by rw [hg]; exact Nat.ne_of_lt (blk_lt (g := gb218) (o := .cells #[.int .i64 a0_0, .int .i64 a0_1, .int .i64 a0_2, .int .i64 a0_3, .int .i64 a0_4, .int .i64 a0_5, .bool a0_6] 23 (0, 0)) (by (with_reducible repeat (first | refine blk_drewN ?_ _ | refine blk_drew ?_ | refine blk_alloc ?_ _)); exact BK218.out)) : gb218 ≠ gb230)); have n9_ := Aside0.mk ((by rw [hg]; exact Nat.ne_of_gt (blk_lt (g := gb218) (o := .cells #[.int .i64 a0_0, .int .i64 a0_1, .int .i64 a0_2, .int .i64 a0_3, .int .i64 a0_4, .int .i64 a0_5, .bool a0_6] 23 (0, 0)) (by (with_reducible repeat (first | refine blk_drewN ?_ _ | refine blk_drew ?_ | refine blk_alloc ?_ _)); exact BK218.out)) : gb230 ≠ gb218)); have n10_ := Aside0.mk ((by rw [hg]; exact Nat.ne_of_lt (blk_lt (g := gb219) (o := .cells #[.int .i64 a1_0, .int .i64 a1_1, .int .i64 a1_2] 36 (0, 0)) (by (with_reducible repeat (first | refine blk_drewN ?_ _ | refine blk_drew ?_ | refine blk_alloc ?_ _)); exact BK219.out)) : gb219 ≠ gb230)); have n11_ := Aside0.mk ((by rw [hg]; exact Nat.ne_of_gt (blk_lt (g := gb219) (o := .cells #[.int .i64 a1_0, .int .i64 a1_1, .int .i64 a1_2] 36 (0, 0)) (by (with_reducible repeat (first | refine blk_drewN ?_ _ | refine blk_drew ?_ | refine blk_alloc ?_ _)); exact BK219.out)) : gb230 ≠ gb219)); have n12_ := Aside0.mk ((by rw [hg]; exact Nat.ne_of_lt (blk_lt (g := gb228) (o := .cells #[.int .i64 x229000_2, .int .i64 x229001_2, .int .i64 x229002_2] 36 (0, 0)) (by (with_reducible repeat (first | refine blk_drewN ?_ _ | refine blk_drew ?_ | refine blk_alloc ?_ _)); exact BK228.out)) : gb228 ≠ gb230)); have n13_ := Aside0.mk ((by rw [hg]; exact Nat.ne_of_gt (blk_lt (g := gb228) (o := .cells #[.int .i64 x229000_2, .int .i64 x229001_2, .int .i64 x229002_2] 36 (0, 0)) (by (with_reducible repeat (first | refine blk_drewN ?_ _ | refine blk_drew ?_ | refine blk_alloc ?_ _)); exact BK228.out)) : gb230 ≠ gb228)); clear HO_38; clear BK218; clear BK219; clear BK228; clear HB; have HO_38 := n0_; have BK218 := n1_; have BK219 := n2_; have BK228 := n3_; have HB := n4_; have BK230 := n5_; have GW230 := n6_; have GE230 := n7_; have NB218_230 := n8_; have NB230_218 := n9_; have NB219_230 := n10_; have NB230_219 := n11_; have NB228_230 := n12_; have NB230_228 := n13_; clear n0_ n1_ n2_ n3_ n4_ n5_ n6_ n7_ n8_ n9_ n10_ n11_ n12_ n13_; clear hb hbox hg; have hc_0 : w113.cell? ⟨gb230, 0, none⟩ = some (.int .i64 0) := (blk_cell BK230.out 0).trans rfl; have hf_0 := blk_frozen BK230.out 0; have hc_1 : w113.cell? ⟨gb230, 1, none⟩ = some (.int .i64 0) := (blk_cell BK230.out 1).trans rfl; have hf_1 := blk_frozen BK230.out 1; have hc_2 : w113.cell? ⟨gb230, 2, none⟩ = some (.int .i64 0) := (blk_cell BK230.out 2).trans rfl; have hf_2 := blk_frozen BK230.out 2; have hc_3 : w113.cell? ⟨gb230, 3, none⟩ = some (.int .i64 0) := (blk_cell BK230.out 3).trans rfl; have hf_3 := blk_frozen BK230.out 3; have hc_4 : w113.cell? ⟨gb230, 4, none⟩ = some (.int .i64 0) := (blk_cell BK230.out 4).trans rfl; have hf_4 := blk_frozen BK230.out 4; have hc_5 : w113.cell? ⟨gb230, 5, none⟩ = some (.int .i64 0) := (blk_cell BK230.out 5).trans rfl; have hf_5 := blk_frozen BK230.out 5; have hc_6 : w113.cell? ⟨gb230, 6, none⟩ = some (.int .i64 0) := (blk_cell BK230.out 6).trans rfl; have hf_6 := blk_frozen BK230.out 6; refine store_event (w1 := (((((((w113.setCell ⟨gb230, 0, none⟩ (.int .i64 ((rd_T45 t224 x40_2).f0))).setCell ⟨gb230, 1, none⟩ (.int .i64 ((rd_T45 t224 x40_2).f1.f0))).setCell ⟨gb230, 2, none⟩ (.int .i64 ((rd_T45 t224 x40_2).f1.f1))).setCell ⟨gb230, 3, none⟩ (.int .i64 ((rd_T45 t224 x40_2).f1.f2))).setCell ⟨gb230, 4, none⟩ (.int .i64 ((rd_T45 t224 x40_2).f2.f0))).setCell ⟨gb230, 5, none⟩ (.int .i64 ((rd_T45 t224 x40_2).f2.f1))).setCell ⟨gb230, 6, none⟩ (.int .i64 ((rd_T45 t224 x40_2).f3)))) rfl (t := 45) (p := 11) rfl rfl ?hst ?_; (case hst => first | (go_simp; done) | (go_simp; rfl)); intro ws hws; have m0_ : Aside0 (Kd.R k45 45 ws w.heap.size (fun k_ => True ∧ k_ ≠ gb230) (.slice (some ad229) t224.length co25) t224) := ⟨by rw [hws]; exact (Kd.R_far (p := ⟨gb230, 6, none⟩) (Kd.R_far (p := ⟨gb230, 5, none⟩) (Kd.R_far (p := ⟨gb230, 4, none⟩) (Kd.R_far (p := ⟨gb230, 3, none⟩) (Kd.R_far (p := ⟨gb230, 2, none⟩) (Kd.R_far (p := ⟨gb230, 1, none⟩) (Kd.R_far (p := ⟨gb230, 0, none⟩) HO_38.out (fun _ hk => hk.2) (.int .i64 ((rd_T45 t224 x40_2).f0))) (fun _ hk => hk.2) (.int .i64 ((rd_T45 t224 x40_2).f1.f0))) (fun _ hk => hk.2) (.int .i64 ((rd_T45 t224 x40_2).f1.f1))) (fun _ hk => hk.2) (.int .i64 ((rd_T45 t224 x40_2).f1.f2))) (fun _ hk => hk.2) (.int .i64 ((rd_T45 t224 x40_2).f2.f0))) (fun _ hk => hk.2) (.int .i64 ((rd_T45 t224 x40_2).f2.f1))) (fun _ hk => hk.2) (.int .i64 ((rd_T45 t224 x40_2).f3)))⟩; have m1_ : Aside0 (ws.heap[gb218]? = some (.cells #[.int .i64 a0_0, .int .i64 a0_1, .int .i64 a0_2, .int .i64 a0_3, .int .i64 a0_4, .int .i64 a0_5, .bool a0_6] 23 (0, 0))) := ⟨by rw [hws]; refine blk_far ?_ NB218_230.out _; refine blk_far ?_ NB218_230.out _; refine blk_far ?_ NB218_230.out _; refine blk_far ?_ NB218_230.out _; refine blk_far ?_ NB218_230.out _; refine blk_far ?_ NB218_230.out _; refine blk_far ?_ NB218_230.out _; exact BK218.out⟩; have m2_ : Aside0 (ws.heap[gb219]? = some (.cells #[.int .i64 a1_0, .int .i64 a1_1, .int .i64 a1_2] 36 (0, 0))) := ⟨by rw [hws]; refine blk_far ?_ NB219_230.out _; refine blk_far ?_ NB219_230.out _; refine blk_far ?_ NB219_230.out _; refine blk_far ?_ NB219_230.out _; refine blk_far ?_ NB219_230.out _; refine blk_far ?_ NB219_230.out _; refine blk_far ?_ NB219_230.out _; exact BK219.out⟩; have m3_ : Aside0 (ws.heap[gb228]? = some (.cells #[.int .i64 x229000_2, .int .i64 x229001_2, .int .i64 x229002_2] 36 (0, 0))) := ⟨by rw [hws]; refine blk_far ?_ NB228_230.out _; refine blk_far ?_ NB228_230.out _; refine blk_far ?_ NB228_230.out _; refine blk_far ?_ NB228_230.out _; refine blk_far ?_ NB228_230.out _; refine blk_far ?_ NB228_230.out _; refine blk_far ?_ NB228_230.out _; exact BK228.out⟩; have m4_ : Aside0 (ws.heap[gb230]? = some (.cells #[.int .i64 ((rd_T45 t224 x40_2).f0), .int .i64 ((rd_T45 t224 x40_2).f1.f0), .int .i64 ((rd_T45 t224 x40_2).f1.f1), .int .i64 ((rd_T45 t224 x40_2).f1.f2), .int .i64 ((rd_T45 t224 x40_2).f2.f0), .int .i64 ((rd_T45 t224 x40_2).f2.f1), .int .i64 ((rd_T45 t224 x40_2).f3)] 45 (0, 0))) := ⟨by rw [hws]; refine blk_put (cs := #[.int .i64 ((rd_T45 t224 x40_2).f0), .int .i64 ((rd_T45 t224 x40_2).f1.f0), .int .i64 ((rd_T45 t224 x40_2).f1.f1), .int .i64 ((rd_T45 t224 x40_2).f1.f2), .int .i64 ((rd_T45 t224 x40_2).f2.f0), .int .i64 ((rd_T45 t224 x40_2).f2.f1), .int .i64 0]) ?_ 6 _ rfl; refine blk_put (cs := #[.int .i64 ((rd_T45 t224 x40_2).f0), .int .i64 ((rd_T45 t224 x40_2).f1.f0), .int .i64 ((rd_T45 t224 x40_2).f1.f1), .int .i64 ((rd_T45 t224 x40_2).f1.f2), .int .i64 ((rd_T45 t224 x40_2).f2.f0), .int .i64 0, .int .i64 0]) ?_ 5 _ rfl; refine blk_put (cs := #[.int .i64 ((rd_T45 t224 x40_2).f0), .int .i64 ((rd_T45 t224 x40_2).f1.f0), .int .i64 ((rd_T45 t224 x40_2).f1.f1), .int .i64 ((rd_T45 t224 x40_2).f1.f2), .int .i64 0, .int .i64 0, .int .i64 0]) ?_ 4 _ rfl; refine blk_put (cs := #[.int .i64 ((rd_T45 t224 x40_2).f0), .int .i64 ((rd_T45 t224 x40_2).f1.f0), .int .i64 ((rd_T45 t224 x40_2).f1.f1), .int .i64 0, .int .i64 0, .int .i64 0, .int .i64 0]) ?_ 3 _ rfl; refine blk_put (cs := #[.int .i64 ((rd_T45 t224 x40_2).f0), .int .i64 ((rd_T45 t224 x40_2).f1.f0), .int .i64 0, .int .i64 0, .int .i64 0, .int .i64 0, .int .i64 0]) ?_ 2 _ rfl; refine blk_put (cs := #[.int .i64 ((rd_T45 t224 x40_2).f0), .int .i64 0, .int .i64 0, .int .i64 0, .int .i64 0, .int .i64 0, .int .i64 0]) ?_ 1 _ rfl; refine blk_put (cs := #[.int .i64 0, .int .i64 0, .int .i64 0, .int .i64 0, .int .i64 0, .int .i64 0, .int .i64 0]) ?_ 0 _ rfl; exact BK230.out⟩; have m5_ : Aside0 (Below w.heap.size w ws) := ⟨by rw [hws]; refine below_set ?_ GE230.out; refine below_set ?_ GE230.out; refine below_set ?_ GE230.out; refine below_set ?_ GE230.out; refine below_set ?_ GE230.out; refine below_set ?_ GE230.out; refine below_set ?_ GE230.out; exact HB.out⟩; clear hws hc_0 hf_0 hc_1 hf_1 hc_2 hf_2 hc_3 hf_3 hc_4 hf_4 hc_5 hf_5 hc_6 hf_6; clear HO_38 BK218 BK219 BK228 BK230 HB; have HO_38 := m0_; have BK218 := m1_; have BK219 := m2_; have BK228 := m3_; have BK230 := m4_; have HB := m5_; clear m0_ m1_ m2_ m3_ m4_ m5_; have hnb114 := NB230_218.out; have hnc114 := NB218_230.out; have hnb115 := NB230_219.out; have hnc115 := NB219_230.out; have hnb116 := NB230_228.out; have hnc116 := NB228_230.out; have hnb118 := NB228_218.out; have hnc118 := NB218_228.out; have hnb119 := NB228_219.out; have hnc119 := NB219_228.out; have hnb121 := NB218_219.out; have hnc121 := NB219_218.out; have h230_0 : ws.cell? ⟨gb230, 0, none⟩ = some (.int .i64 ((rd_T45 t224 x40_2).f0)) := (blk_cell BK230.out 0).trans rfl; have h230f_0 := blk_frozen BK230.out 0; have h230_1 : ws.cell? ⟨gb230, 1, none⟩ = some (.int .i64 ((rd_T45 t224 x40_2).f1.f0)) := (blk_cell BK230.out 1).trans rfl; have h230f_1 := blk_frozen BK230.out 1; have h230_2 : ws.cell? ⟨gb230, 2, none⟩ = some (.int .i64 ((rd_T45 t224 x40_2).f1.f1)) := (blk_cell BK230.out 2).trans rfl; have h230f_2 := blk_frozen BK230.out 2; have h230_3 : ws.cell? ⟨gb230, 3, none⟩ = some (.int .i64 ((rd_T45 t224 x40_2).f1.f2)) := (blk_cell BK230.out 3).trans rfl; have h230f_3 := blk_frozen BK230.out 3; have h230_4 : ws.cell? ⟨gb230, 4, none⟩ = some (.int .i64 ((rd_T45 t224 x40_2).f2.f0)) := (blk_cell BK230.out 4).trans rfl; have h230f_4 := blk_frozen BK230.out 4; have h230_5 : ws.cell? ⟨gb230, 5, none⟩ = some (.int .i64 ((rd_T45 t224 x40_2).f2.f1)) := (blk_cell BK230.out 5).trans rfl; have h230f_5 := blk_frozen BK230.out 5; have h230_6 : ws.cell? ⟨gb230, 6, none⟩ = some (.int .i64 ((rd_T45 t224 x40_2).f3)) := (blk_cell BK230.out 6).trans rfl; have h230f_6 := blk_frozen BK230.out 6; have h228_0 : ws.cell? ⟨gb228, 0, none⟩ = some (.int .i64 x229000_2) := (blk_cell BK228.out 0).trans rfl; have h228f_0 := blk_frozen BK228.out 0; have h228_1 : ws.cell? ⟨gb228, 1, none⟩ = some (.int .i64 x229001_2) := (blk_cell BK228.out 1).trans rfl; have h228f_1 := blk_frozen BK228.out 1; have h228_2 : ws.cell? ⟨gb228, 2, none⟩ = some (.int .i64 x229002_2) := (blk_cell BK228.out 2).trans rfl; have h228f_2 := blk_frozen BK228.out 2; have h218_0 : ws.cell? ⟨gb218, 0, none⟩ = some (.int .i64 a0_0) := (blk_cell BK218.out 0).trans rfl; have h218f_0 := blk_frozen BK218.out 0; have h218_1 : ws.cell? ⟨gb218, 1, none⟩ = some (.int .i64 a0_1) := (blk_cell BK218.out 1).trans rfl; have h218f_1 := blk_frozen BK218.out 1; have h218_2 : ws.cell? ⟨gb218, 2, none⟩ = some (.int .i64 a0_2) := (blk_cell BK218.out 2).trans rfl; have h218f_2 := blk_frozen BK218.out 2; have h218_3 : ws.cell? ⟨gb218, 3, none⟩ = some (.int .i64 a0_3) := (blk_cell BK218.out 3).trans rfl; have h218f_3 := blk_frozen BK218.out 3; have h218_4 : ws.cell? ⟨gb218, 4, none⟩ = some (.int .i64 a0_4) := (blk_cell BK218.out 4).trans rfl; have h218f_4 := blk_frozen BK218.out 4; have h218_5 : ws.cell? ⟨gb218, 5, none⟩ = some (.int .i64 a0_5) := (blk_cell BK218.out 5).trans rfl; have h218f_5 := blk_frozen BK218.out 5; have h218_6 : ws.cell? ⟨gb218, 6, none⟩ = some (.bool a0_6) := (blk_cell BK218.out 6).trans rfl; have h218f_6 := blk_frozen BK218.out 6; have h219_0 : ws.cell? ⟨gb219, 0, none⟩ = some (.int .i64 a1_0) := (blk_cell BK219.out 0).trans rfl; have h219f_0 := blk_frozen BK219.out 0; have h219_1 : ws.cell? ⟨gb219, 1, none⟩ = some (.int .i64 a1_1) := (blk_cell BK219.out 1).trans rfl; have h219f_1 := blk_frozen BK219.out 1; have h219_2 : ws.cell? ⟨gb219, 2, none⟩ = some (.int .i64 a1_2) := (blk_cell BK219.out 2).trans rfl; have h219f_2 := blk_frozen BK219.out 2))
                                simp only [List.append_eq, List.cons_append, List.nil_append]
                                go_wp2_with fail
                                go_roundg k2
                                case measure => have := HJ5.out; have := HK2.out; omega
                                case rel => exact ⟨(wrap64 (x40_2 + 1)), ((rd_T45 t224 x40_2).f1.f0), ((rd_T45 t224 x40_2).f1.f1), ((rd_T45 t224 x40_2).f1.f2), (by first | rfl | (simp; done) | (simp [*]; done)), H', ⟨by have := HJ5.out; have := HK2.out; omega⟩, ⟨by (with_reducible repeat (first | apply Kd.R_alloc | apply Kd.R_drewN | apply Kd.R_drew)); exact Kd.R_mono (Kd.R_far (p := ⟨gb228, 2, none⟩) (Kd.R_far (p := ⟨gb228, 1, none⟩) (Kd.R_far (p := ⟨gb228, 0, none⟩) (Kd.R_types HO_38.out BK228.out (by decide)) (fun _ hk => hk.2) (.int .i64 ((rd_T45 t224 x40_2).f1.f0))) (fun _ hk => hk.2) (.int .i64 ((rd_T45 t224 x40_2).f1.f1))) (fun _ hk => hk.2) (.int .i64 ((rd_T45 t224 x40_2).f1.f2))) (fun _ hk => trivial)⟩, ⟨by (with_reducible repeat (first | refine blk_drewN ?_ _ | refine blk_drew ?_ | refine blk_alloc ?_ _)); refine blk_far ?_ NB218_228.out _; (with_reducible repeat (first | refine blk_drewN ?_ _ | refine blk_drew ?_ | refine blk_alloc ?_ _)); refine blk_far ?_ NB218_228.out _; (with_reducible repeat (first | refine blk_drewN ?_ _ | refine blk_drew ?_ | refine blk_alloc ?_ _)); refine blk_far ?_ NB218_228.out _; (with_reducible repeat (first | refine blk_drewN ?_ _ | refine blk_drew ?_ | refine blk_alloc ?_ _)); exact BK218.out⟩, ⟨by (with_reducible repeat (first | refine blk_drewN ?_ _ | refine blk_drew ?_ | refine blk_alloc ?_ _)); refine blk_far ?_ NB219_228.out _; (with_reducible repeat (first | refine blk_drewN ?_ _ | refine blk_drew ?_ | refine blk_alloc ?_ _)); refine blk_far ?_ NB219_228.out _; (with_reducible repeat (first | refine blk_drewN ?_ _ | refine blk_drew ?_ | refine blk_alloc ?_ _)); refine blk_far ?_ NB219_228.out _; (with_reducible repeat (first | refine blk_drewN ?_ _ | refine blk_drew ?_ | refine blk_alloc ?_ _)); exact BK219.out⟩, ⟨by (with_reducible repeat (first | refine blk_drewN ?_ _ | refine blk_drew ?_ | refine blk_alloc ?_ _)); refine blk_put (cs := #[.int .i64 ((rd_T45 t224 x40_2).f1.f0), .int .i64 ((rd_T45 t224 x40_2).f1.f1), .int .i64 x229002_2]) ?_ 2 _ rfl; (with_reducible repeat (first | refine blk_drewN ?_ _ | refine blk_drew ?_ | refine blk_alloc ?_ _)); refine blk_put (cs := #[.int .i64 ((rd_T45 t224 x40_2).f1.f0), .int .i64 x229001_2, .int .i64 x229002_2]) ?_ 1 _ rfl; (with_reducible repeat (first | refine blk_drewN ?_ _ | refine blk_drew ?_ | refine blk_alloc ?_ _)); refine blk_put (cs := #[.int .i64 x229000_2, .int .i64 x229001_2, .int .i64 x229002_2]) ?_ 0 _ rfl; (with_reducible repeat (first | refine blk_drewN ?_ _ | refine blk_drew ?_ | refine blk_alloc ?_ _)); exact BK228.out⟩, ⟨by repeat (first | (with_reducible first | exact HB.out | apply below_alloc | apply pw_below_drewN | apply below_drew1 | refine below_set ?_ GE218.out | refine below_set ?_ GE219.out | refine below_set ?_ GE228.out | refine below_set ?_ GE230.out) | exact HB.out)⟩⟩
                              · rw [if_neg c112] at H
                                have c112b0 : (((rd_T45 t224 x40_2).f3) == 0) = false := beq_eq_false_iff_ne.mpr c112
                                have c112b1 : (((rd_T45 t224 x40_2).f3) != 0) = true := bne_iff_ne.mpr c112
                                exact absurd (HRT.out.symm.trans (Option.some.inj H).symm) (by decide)
                            · rw [if_neg c111] at H
                              have c111b0 : (((rd_T45 t224 x40_2).f0) == 1) = false := beq_eq_false_iff_ne.mpr c111
                              have c111b1 : (((rd_T45 t224 x40_2).f0) != 1) = true := bne_iff_ne.mpr c111
                              exact absurd (HRT.out.symm.trans (Option.some.inj H).symm) (by decide)
                    · rw [if_neg c28] at H
                      exact absurd H (by simp)
                  · rw [if_neg c27] at H
                    exact absurd H (by simp)
                · rw [if_neg c26] at H
                  have c26b0 : decide (x40_2 < (t224.length : Int)) = false := decide_eq_false c26
                  clear c26
                  by_cases c146 : a0_6 = true
                  · subst c146
                    have H1 : (if 0 ≤ (wrap64 ((l2.length : Int) - 1)) then (if (wrap64 ((l2.length : Int) - 1)) < (l2.length : Int) then (some (x229000_2 == ((rd_T43 l2 (wrap64 ((l2.length : Int) - 1))).f0) && (x229001_2 == ((rd_T43 l2 (wrap64 ((l2.length : Int) - 1))).f1) && (x229002_2 == a0_5)))) else (none)) else (none)) = some r := by rw [if_pos rfl] at H; exact H
                    clear H
                    have H := H1
                    clear H1
                    obtain ⟨ji147, hji147⟩ : ∃ j_ : Int, (wrap64 ((l2.length : Int) - 1)) = j_ := ⟨_, rfl⟩
                    replace H : (if 0 ≤ (ji147) then (if (ji147) < (l2.length : Int) then (some (x229000_2 == ((rd_T43 l2 (ji147)).f0) && (x229001_2 == ((rd_T43 l2 (ji147)).f1) && (x229002_2 == a0_5)))) else (none)) else (none)) = some r := by first | (rw [hji147] at H; exact H) | (simp only [hji147] at H ⊢; exact H)
                    have hji147w : (IntKind.i64.wrap ((l2.length : Int) - 1)) = ji147 := (i64_w _).trans hji147
                    by_cases c148 : 0 ≤ (ji147)
                    · rw [if_pos c148] at H
                      have c148b0 : decide (0 ≤ (ji147)) = true := decide_eq_true c148
                      clear c148
                      by_cases c149 : (ji147) < (l2.length : Int)
                      · rw [if_pos c149] at H
                        have c149b0 : decide ((ji147) < (l2.length : Int)) = true := decide_eq_true c149
                        clear c149
                        obtain rfl := Option.some.inj H
                        have hnb150 := NB218_219.out
                        have hnc150 := NB219_218.out
                        have hnb151 := NB218_228.out
                        have hnc151 := NB228_218.out
                        have hcz152_0 : wr.cell? ⟨gb218, 0, none⟩ = some (.int .i64 a0_0) := (blk_cell BK218.out 0).trans rfl
                        have hcz152_1 : wr.cell? ⟨gb218, 1, none⟩ = some (.int .i64 a0_1) := (blk_cell BK218.out 1).trans rfl
                        have hcz152_2 : wr.cell? ⟨gb218, 2, none⟩ = some (.int .i64 a0_2) := (blk_cell BK218.out 2).trans rfl
                        have hcz152_3 : wr.cell? ⟨gb218, 3, none⟩ = some (.int .i64 a0_3) := (blk_cell BK218.out 3).trans rfl
                        have hcz152_4 : wr.cell? ⟨gb218, 4, none⟩ = some (.int .i64 a0_4) := (blk_cell BK218.out 4).trans rfl
                        have hcz152_5 : wr.cell? ⟨gb218, 5, none⟩ = some (.int .i64 a0_5) := (blk_cell BK218.out 5).trans rfl
                        have hcz152_6 : wr.cell? ⟨gb218, 6, none⟩ = some (.bool true) := (blk_cell BK218.out 6).trans rfl
                        have hfz152_0 := blk_frozen BK218.out 0
                        have hfz152_1 := blk_frozen BK218.out 1
                        have hfz152_2 := blk_frozen BK218.out 2
                        have hfz152_3 := blk_frozen BK218.out 3
                        have hfz152_4 := blk_frozen BK218.out 4
                        have hfz152_5 := blk_frozen BK218.out 5
                        have hfz152_6 := blk_frozen BK218.out 6
                        have p231 : 0 ≤ ((ji147) : Int) := of_decide_eq_true (by first | (with_reducible assumption) | assumption)
                        have q231 : (ji147) < (l2.length : Int) := of_decide_eq_true (by first | (with_reducible assumption) | assumption)
                        obtain ⟨ad231, e231, hx231_0, hx231_1⟩ := at_T43 HR2.out (ji147) p231 q231
                        cases e231
                        replace hx231_0 := (HB.out.cell (World.block_lt_of_cell? w _ hx231_0)).trans hx231_0
                        replace hx231_1 := (HB.out.cell (World.block_lt_of_cell? w _ hx231_1)).trans hx231_1
                        replace p231 := eq_true p231
                        replace q231 := eq_true q231
                        go_wp2_with (first | ((with_reducible refine gate_dst (N := 13) rfl ?_); (try (refine gate_guard (by rfl) ?_; dsimp only)); refine box_event ?hg (N := 13) ?hd (cs := #[.int .i64 0, .int .i64 0]) (t := 43) ?hr ?_; (case hd => rfl); (case hg => rfl); (case hr => first | (go_simp; done) | (go_simp; rfl)); intro gb232 hg w153 hbox hb; have n0_ := Aside0.mk (Kd.R_below (by (with_reducible repeat (first | apply Kd.R_alloc | apply Kd.R_drewN | apply Kd.R_drew)); exact HO_38.out) hb); have n1_ := Aside0.mk (blk_below (g := gb218) (o := .cells #[.int .i64 a0_0, .int .i64 a0_1, .int .i64 a0_2, .int .i64 a0_3, .int .i64 a0_4, .int .i64 a0_5, .bool true] 23 (0, 0)) (by (with_reducible repeat (first | refine blk_drewN ?_ _ | refine blk_drew ?_ | refine blk_alloc ?_ _)); exact BK218.out) hb); have n2_ := Aside0.mk (blk_below (g := gb219) (o := .cells #[.int .i64 a1_0, .int .i64 a1_1, .int .i64 a1_2] 36 (0, 0)) (by (with_reducible repeat (first | refine blk_drewN ?_ _ | refine blk_drew ?_ | refine blk_alloc ?_ _)); exact BK219.out) hb); have n3_ := Aside0.mk (blk_below (g := gb228) (o := .cells #[.int .i64 x229000_2, .int .i64 x229001_2, .int .i64 x229002_2] 36 (0, 0)) (by (with_reducible repeat (first | refine blk_drewN ?_ _ | refine blk_drew ?_ | refine blk_alloc ?_ _)); exact BK228.out) hb); have n4_ := Aside0.mk (below_step (by repeat (first | (with_reducible first | exact HB.out | apply below_alloc | apply pw_below_drewN | apply below_drew1 | refine below_set ?_ GE218.out | refine below_set ?_ GE219.out | refine below_set ?_ GE228.out) | exact HB.out)) hb); have n5_ := Aside0.mk (hbox); have n6_ := Aside0.mk ((by rw [hg]; exact (below_size (by repeat (first | (with_reducible first | exact HB.out | apply below_alloc | apply pw_below_drewN | apply below_drew1 | refine below_set ?_ GE218.out | refine below_set ?_ GE219.out | refine below_set ?_ GE228.out) | exact HB.out))) : w.heap.size ≤ gb232)); have n7_ := Aside0.mk ((by rw [hg]; exact (below_size (by repeat (first | (with_reducible first | exact HB.out | apply below_alloc | apply pw_below_drewN | apply below_drew1 | refine below_set ?_ GE218.out | refine below_set ?_ GE219.out | refine below_set ?_ GE228.out) | exact HB.out))) : w.heap.size ≤ gb232)); have n8_ := Aside0.mk ((by rw [hg]; exact Nat.ne_of_lt (blk_lt (g := gb218) (o := .cells #[.int .i64 a0_0, .int .i64 a0_1, .int .i64 a0_2, .int .i64 a0_3, .int .i64 a0_4, .int .i64 a0_5, .bool true] 23 (0, 0)) (by (with_reducible repeat (first | refine blk_drewN ?_ _ | refine blk_drew ?_ | refine blk_alloc ?_ _)); exact BK218.out)) : gb218 ≠ gb232)); have n9_ := Aside0.mk ((by rw [hg]; exact Nat.ne_of_gt (blk_lt (g := gb218) (o := .cells #[.int .i64 a0_0, .int .i64 a0_1, .int .i64 a0_2, .int .i64 a0_3, .int .i64 a0_4, .int .i64 a0_5, .bool true] 23 (0, 0)) (by (with_reducible repeat (first | refine blk_drewN ?_ _ | refine blk_drew ?_ | refine blk_alloc ?_ _)); exact BK218.out)) : gb232 ≠ gb218)); have n10_ := Aside0.mk ((by rw [hg]; exact Nat.ne_of_lt (blk_lt (g := gb219) (o := .cells #[.int .i64 a1_0, .int .i64 a1_1, .int .i64 a1_2] 36 (0, 0)) (by (with_reducible repeat (first | refine blk_drewN ?_ _ | refine blk_drew ?_ | refine blk_alloc ?_ _)); exact BK219.out)) : gb219 ≠ gb232)); have n11_ := Aside0.mk ((by rw [hg]; exact Nat.ne_of_gt (blk_lt (g := gb219) (o := .cells #[.int .i64 a1_0, .int .i64 a1_1, .int .i64 a1_2] 36 (0, 0)) (by (with_reducible repeat (first | refine blk_drewN ?_ _ | refine blk_drew ?_ | refine blk_alloc ?_ _)); exact BK219.out)) : gb232 ≠ gb219)); have n12_ := Aside0.mk ((by rw [hg]; exact Nat.ne_of_lt (blk_lt (g := gb228) (o := .cells #[.int .i64 x229000_2, .int .i64 x229001_2, .int .i64 x229002_2] 36 (0, 0)) (by (with_reducible repeat (first | refine blk_drewN ?_ _ | refine blk_drew ?_ | refine blk_alloc ?_ _)); exact BK228.out)) : gb228 ≠ gb232)); have n13_ := Aside0.mk ((by rw [hg]; exact Nat.ne_of_gt (blk_lt (g := gb228) (o := .cells #[.int .i64 x229000_2, .int .i64 x229001_2, .int .i64 x229002_2] 36 (0, 0)) (by (with_reducible repeat (first | refine blk_drewN ?_ _ | refine blk_drew ?_ | refine blk_alloc ?_ _)); exact BK228.out)) : gb232 ≠ gb228)); clear HO_38; clear BK218; clear BK219; clear BK228; clear HB; have HO_38 := n0_; have BK218 := n1_; have BK219 := n2_; have BK228 := n3_; have HB := n4_; have BK232 := n5_; have GW232 := n6_; have GE232 := n7_; have NB218_232 := n8_; have NB232_218 := n9_; have NB219_232 := n10_; have NB232_219 := n11_; have NB228_232 := n12_; have NB232_228 := n13_; clear n0_ n1_ n2_ n3_ n4_ n5_ n6_ n7_ n8_ n9_ n10_ n11_ n12_ n13_; clear hb hbox hg; have hnb154 := NB232_218.out; have hnc154 := NB218_232.out; have hnb155 := NB232_219.out; have hnc155 := NB219_232.out; have hnb156 := NB232_228.out; have hnc156 := NB228_232.out; have hcz157_0 : w153.cell? ⟨gb232, 0, none⟩ = some (.int .i64 0) := (blk_cell BK232.out 0).trans rfl; have hcz157_1 : w153.cell? ⟨gb232, 1, none⟩ = some (.int .i64 0) := (blk_cell BK232.out 1).trans rfl; have hfz157_0 := blk_frozen BK232.out 0; have hfz157_1 := blk_frozen BK232.out 1; have hnb158 := NB228_219.out; have hnc158 := NB219_228.out; have hcz159_0 : w153.cell? ⟨gb228, 0, none⟩ = some (.int .i64 x229000_2) := (blk_cell BK228.out 0).trans rfl; have hcz159_1 : w153.cell? ⟨gb228, 1, none⟩ = some (.int .i64 x229001_2) := (blk_cell BK228.out 1).trans rfl; have hcz159_2 : w153.cell? ⟨gb228, 2, none⟩ = some (.int .i64 x229002_2) := (blk_cell BK228.out 2).trans rfl; have hfz159_0 := blk_frozen BK228.out 0; have hfz159_1 := blk_frozen BK228.out 1; have hfz159_2 := blk_frozen BK228.out 2))
                        go_ret
                        exact ⟨by first | rfl | (simp [errW_none, errW_some] <;> rfl) | (simp only [← hji147]; first | rfl | (simp [errW_none, errW_some] <;> rfl)) | (simp [*, errW_none, errW_some] <;> rfl), by repeat (first | (with_reducible first | exact HB.out | apply below_alloc | apply pw_below_drewN | apply below_drew1 | refine below_set ?_ GE218.out | refine below_set ?_ GE219.out | refine below_set ?_ GE228.out | refine below_set ?_ GE232.out) | exact HB.out)⟩
                      · rw [if_neg c149] at H
                        exact absurd H (by simp)
                    · rw [if_neg c148] at H
                      exact absurd H (by simp)
                  · replace c146 := Bool.eq_false_iff.mpr c146
                    subst c146
                    have H1 : (if 0 ≤ (wrap64 ((l2.length : Int) - 1)) then (if (wrap64 ((l2.length : Int) - 1)) < (l2.length : Int) then (some (x229000_2 == ((rd_T43 l2 (wrap64 ((l2.length : Int) - 1))).f0) && (x229001_2 == ((rd_T43 l2 (wrap64 ((l2.length : Int) - 1))).f1) && (x229002_2 == a0_1)))) else (none)) else (none)) = some r := by rw [if_neg (show ¬ (false = true) by decide)] at H; exact H
                    clear H
                    have H := H1
                    clear H1
                    obtain ⟨ji160, hji160⟩ : ∃ j_ : Int, (wrap64 ((l2.length : Int) - 1)) = j_ := ⟨_, rfl⟩
                    replace H : (if 0 ≤ (ji160) then (if (ji160) < (l2.length : Int) then (some (x229000_2 == ((rd_T43 l2 (ji160)).f0) && (x229001_2 == ((rd_T43 l2 (ji160)).f1) && (x229002_2 == a0_1)))) else (none)) else (none)) = some r := by first | (rw [hji160] at H; exact H) | (simp only [hji160] at H ⊢; exact H)
                    have hji160w : (IntKind.i64.wrap ((l2.length : Int) - 1)) = ji160 := (i64_w _).trans hji160
                    by_cases c161 : 0 ≤ (ji160)
                    · rw [if_pos c161] at H
                      have c161b0 : decide (0 ≤ (ji160)) = true := decide_eq_true c161
                      clear c161
                      by_cases c162 : (ji160) < (l2.length : Int)
                      · rw [if_pos c162] at H
                        have c162b0 : decide ((ji160) < (l2.length : Int)) = true := decide_eq_true c162
                        clear c162
                        obtain rfl := Option.some.inj H
                        have hnb163 := NB218_219.out
                        have hnc163 := NB219_218.out
                        have hnb164 := NB218_228.out
                        have hnc164 := NB228_218.out
                        have hcz165_0 : wr.cell? ⟨gb218, 0, none⟩ = some (.int .i64 a0_0) := (blk_cell BK218.out 0).trans rfl
                        have hcz165_1 : wr.cell? ⟨gb218, 1, none⟩ = some (.int .i64 a0_1) := (blk_cell BK218.out 1).trans rfl
                        have hcz165_2 : wr.cell? ⟨gb218, 2, none⟩ = some (.int .i64 a0_2) := (blk_cell BK218.out 2).trans rfl
                        have hcz165_3 : wr.cell? ⟨gb218, 3, none⟩ = some (.int .i64 a0_3) := (blk_cell BK218.out 3).trans rfl
                        have hcz165_4 : wr.cell? ⟨gb218, 4, none⟩ = some (.int .i64 a0_4) := (blk_cell BK218.out 4).trans rfl
                        have hcz165_5 : wr.cell? ⟨gb218, 5, none⟩ = some (.int .i64 a0_5) := (blk_cell BK218.out 5).trans rfl
                        have hcz165_6 : wr.cell? ⟨gb218, 6, none⟩ = some (.bool false) := (blk_cell BK218.out 6).trans rfl
                        have hfz165_0 := blk_frozen BK218.out 0
                        have hfz165_1 := blk_frozen BK218.out 1
                        have hfz165_2 := blk_frozen BK218.out 2
                        have hfz165_3 := blk_frozen BK218.out 3
                        have hfz165_4 := blk_frozen BK218.out 4
                        have hfz165_5 := blk_frozen BK218.out 5
                        have hfz165_6 := blk_frozen BK218.out 6
                        have p233 : 0 ≤ ((ji160) : Int) := of_decide_eq_true (by first | (with_reducible assumption) | assumption)
                        have q233 : (ji160) < (l2.length : Int) := of_decide_eq_true (by first | (with_reducible assumption) | assumption)
                        obtain ⟨ad233, e233, hx233_0, hx233_1⟩ := at_T43 HR2.out (ji160) p233 q233
                        cases e233
                        replace hx233_0 := (HB.out.cell (World.block_lt_of_cell? w _ hx233_0)).trans hx233_0
                        replace hx233_1 := (HB.out.cell (World.block_lt_of_cell? w _ hx233_1)).trans hx233_1
                        replace p233 := eq_true p233
                        replace q233 := eq_true q233
                        go_wp2_with (first | ((with_reducible refine gate_dst (N := 13) rfl ?_); (try (refine gate_guard (by rfl) ?_; dsimp only)); refine box_event ?hg (N := 13) ?hd (cs := #[.int .i64 0, .int .i64 0]) (t := 43) ?hr ?_; (case hd => rfl); (case hg => rfl); (case hr => first | (go_simp; done) | (go_simp; rfl)); intro gb234 hg w166 hbox hb; have n0_ := Aside0.mk (Kd.R_below (by (with_reducible repeat (first | apply Kd.R_alloc | apply Kd.R_drewN | apply Kd.R_drew)); exact HO_38.out) hb); have n1_ := Aside0.mk (blk_below (g := gb218) (o := .cells #[.int .i64 a0_0, .int .i64 a0_1, .int .i64 a0_2, .int .i64 a0_3, .int .i64 a0_4, .int .i64 a0_5, .bool false] 23 (0, 0)) (by (with_reducible repeat (first | refine blk_drewN ?_ _ | refine blk_drew ?_ | refine blk_alloc ?_ _)); exact BK218.out) hb); have n2_ := Aside0.mk (blk_below (g := gb219) (o := .cells #[.int .i64 a1_0, .int .i64 a1_1, .int .i64 a1_2] 36 (0, 0)) (by (with_reducible repeat (first | refine blk_drewN ?_ _ | refine blk_drew ?_ | refine blk_alloc ?_ _)); exact BK219.out) hb); have n3_ := Aside0.mk (blk_below (g := gb228) (o := .cells #[.int .i64 x229000_2, .int .i64 x229001_2, .int .i64 x229002_2] 36 (0, 0)) (by (with_reducible repeat (first | refine blk_drewN ?_ _ | refine blk_drew ?_ | refine blk_alloc ?_ _)); exact BK228.out) hb); have n4_ := Aside0.mk (below_step (by repeat (first | (with_reducible first | exact HB.out | apply below_alloc | apply pw_below_drewN | apply below_drew1 | refine below_set ?_ GE218.out | refine below_set ?_ GE219.out | refine below_set ?_ GE228.out) | exact HB.out)) hb); have n5_ := Aside0.mk (hbox); have n6_ := Aside0.mk ((by rw [hg]; exact (below_size (by repeat (first | (with_reducible first | exact HB.out | apply below_alloc | apply pw_below_drewN | apply below_drew1 | refine below_set ?_ GE218.out | refine below_set ?_ GE219.out | refine below_set ?_ GE228.out) | exact HB.out))) : w.heap.size ≤ gb234)); have n7_ := Aside0.mk ((by rw [hg]; exact (below_size (by repeat (first | (with_reducible first | exact HB.out | apply below_alloc | apply pw_below_drewN | apply below_drew1 | refine below_set ?_ GE218.out | refine below_set ?_ GE219.out | refine below_set ?_ GE228.out) | exact HB.out))) : w.heap.size ≤ gb234)); have n8_ := Aside0.mk ((by rw [hg]; exact Nat.ne_of_lt (blk_lt (g := gb218) (o := .cells #[.int .i64 a0_0, .int .i64 a0_1, .int .i64 a0_2, .int .i64 a0_3, .int .i64 a0_4, .int .i64 a0_5, .bool false] 23 (0, 0)) (by (with_reducible repeat (first | refine blk_drewN ?_ _ | refine blk_drew ?_ | refine blk_alloc ?_ _)); exact BK218.out)) : gb218 ≠ gb234)); have n9_ := Aside0.mk ((by rw [hg]; exact Nat.ne_of_gt (blk_lt (g := gb218) (o := .cells #[.int .i64 a0_0, .int .i64 a0_1, .int .i64 a0_2, .int .i64 a0_3, .int .i64 a0_4, .int .i64 a0_5, .bool false] 23 (0, 0)) (by (with_reducible repeat (first | refine blk_drewN ?_ _ | refine blk_drew ?_ | refine blk_alloc ?_ _)); exact BK218.out)) : gb234 ≠ gb218)); have n10_ := Aside0.mk ((by rw [hg]; exact Nat.ne_of_lt (blk_lt (g := gb219) (o := .cells #[.int .i64 a1_0, .int .i64 a1_1, .int .i64 a1_2] 36 (0, 0)) (by (with_reducible repeat (first | refine blk_drewN ?_ _ | refine blk_drew ?_ | refine blk_alloc ?_ _)); exact BK219.out)) : gb219 ≠ gb234)); have n11_ := Aside0.mk ((by rw [hg]; exact Nat.ne_of_gt (blk_lt (g := gb219) (o := .cells #[.int .i64 a1_0, .int .i64 a1_1, .int .i64 a1_2] 36 (0, 0)) (by (with_reducible repeat (first | refine blk_drewN ?_ _ | refine blk_drew ?_ | refine blk_alloc ?_ _)); exact BK219.out)) : gb234 ≠ gb219)); have n12_ := Aside0.mk ((by rw [hg]; exact Nat.ne_of_lt (blk_lt (g := gb228) (o := .cells #[.int .i64 x229000_2, .int .i64 x229001_2, .int .i64 x229002_2] 36 (0, 0)) (by (with_reducible repeat (first | refine blk_drewN ?_ _ | refine blk_drew ?_ | refine blk_alloc ?_ _)); exact BK228.out)) : gb228 ≠ gb234)); have n13_ := Aside0.mk ((by rw [hg]; exact Nat.ne_of_gt (blk_lt (g := gb228) (o := .cells #[.int .i64 x229000_2, .int .i64 x229001_2, .int .i64 x229002_2] 36 (0, 0)) (by (with_reducible repeat (first | refine blk_drewN ?_ _ | refine blk_drew ?_ | refine blk_alloc ?_ _)); exact BK228.out)) : gb234 ≠ gb228)); clear HO_38; clear BK218; clear BK219; clear BK228; clear HB; have HO_38 := n0_; have BK218 := n1_; have BK219 := n2_; have BK228 := n3_; have HB := n4_; have BK234 := n5_; have GW234 := n6_; have GE234 := n7_; have NB218_234 := n8_; have NB234_218 := n9_; have NB219_234 := n10_; have NB234_219 := n11_; have NB228_234 := n12_; have NB234_228 := n13_; clear n0_ n1_ n2_ n3_ n4_ n5_ n6_ n7_ n8_ n9_ n10_ n11_ n12_ n13_; clear hb hbox hg; have hnb167 := NB234_218.out; have hnc167 := NB218_234.out; have hnb168 := NB234_219.out; have hnc168 := NB219_234.out; have hnb169 := NB234_228.out; have hnc169 := NB228_234.out; have hcz170_0 : w166.cell? ⟨gb234, 0, none⟩ = some (.int .i64 0) := (blk_cell BK234.out 0).trans rfl; have hcz170_1 : w166.cell? ⟨gb234, 1, none⟩ = some (.int .i64 0) := (blk_cell BK234.out 1).trans rfl; have hfz170_0 := blk_frozen BK234.out 0; have hfz170_1 := blk_frozen BK234.out 1; have hnb171 := NB228_219.out; have hnc171 := NB219_228.out; have hcz172_0 : w166.cell? ⟨gb228, 0, none⟩ = some (.int .i64 x229000_2) := (blk_cell BK228.out 0).trans rfl; have hcz172_1 : w166.cell? ⟨gb228, 1, none⟩ = some (.int .i64 x229001_2) := (blk_cell BK228.out 1).trans rfl; have hcz172_2 : w166.cell? ⟨gb228, 2, none⟩ = some (.int .i64 x229002_2) := (blk_cell BK228.out 2).trans rfl; have hfz172_0 := blk_frozen BK228.out 0; have hfz172_1 := blk_frozen BK228.out 1; have hfz172_2 := blk_frozen BK228.out 2))
                        go_ret
                        exact ⟨by first | rfl | (simp [errW_none, errW_some] <;> rfl) | (simp only [← hji160]; first | rfl | (simp [errW_none, errW_some] <;> rfl)) | (simp [*, errW_none, errW_some] <;> rfl), by repeat (first | (with_reducible first | exact HB.out | apply below_alloc | apply pw_below_drewN | apply below_drew1 | refine below_set ?_ GE218.out | refine below_set ?_ GE219.out | refine below_set ?_ GE228.out | refine below_set ?_ GE234.out) | exact HB.out)⟩
                      · rw [if_neg c162] at H
                        exact absurd H (by simp)
                    · rw [if_neg c161] at H
                      exact absurd H (by simp)
          · rw [if_neg c14] at H
            have c14b0 : (t227 == 0) = false := beq_eq_false_iff_ne.mpr c14
            have c14b1 : (t227 != 0) = true := bne_iff_ne.mpr c14
            obtain rfl := Option.some.inj H
            try go_wp2
            have n0_ := Aside0.mk (blk_drew BK218.out)
            have n1_ := Aside0.mk (blk_drew BK219.out)
            have n2_ := Aside0.mk (below_drew1 HB.out)
            clear BK218
            clear BK219
            clear HB
            have BK218 := n0_
            have BK219 := n1_
            have HB := n2_
            clear n0_ n1_ n2_
            refine start_ (n := 10) (S := fun w' => w'.cell? ⟨gb218, 0, none⟩ = some (.int .i64 a0_0) ∧ w'.cell? ⟨gb218, 1, none⟩ = some (.int .i64 a0_1) ∧ w'.cell? ⟨gb218, 2, none⟩ = some (.int .i64 a0_2) ∧ w'.cell? ⟨gb218, 3, none⟩ = some (.int .i64 a0_3) ∧ w'.cell? ⟨gb218, 4, none⟩ = some (.int .i64 a0_4) ∧ w'.cell? ⟨gb218, 5, none⟩ = some (.int .i64 a0_5) ∧ w'.cell? ⟨gb218, 6, none⟩ = some (.bool a0_6) ∧ w'.cell? ⟨gb219, 0, none⟩ = some (.int .i64 a1_0) ∧ w'.cell? ⟨gb219, 1, none⟩ = some (.int .i64 a1_1) ∧ w'.cell? ⟨gb219, 2, none⟩ = some (.int .i64 a1_2)) (ds := []) #[false, false, false, false, false, false, false, false, false, false] (by kernel_rfl) rfl rfl ⟨(blk_cell BK218.out 0).trans rfl, (blk_cell BK218.out 1).trans rfl, (blk_cell BK218.out 2).trans rfl, (blk_cell BK218.out 3).trans rfl, (blk_cell BK218.out 4).trans rfl, (blk_cell BK218.out 5).trans rfl, (blk_cell BK218.out 6).trans rfl, (blk_cell BK219.out 0).trans rfl, (blk_cell BK219.out 1).trans rfl, (blk_cell BK219.out 2).trans rfl⟩ (fun hHeld => ?_); refine with_tabW swarflaw44_CycleEnds.tab5 swarflaw44_CycleEnds.bits5 (fun HT_ HW_ => ?_)
            generalize wc.drew = w173 at BK218 BK219 HB hHeld ⊢
            refine pure_ (i := 2) (N := some 27) (v := ?_) (a' := ?_) #[false, false, true, false, false, false, false, false, false, false] rfl rfl (any_of HT_.out (by kernel_rfl)) (fun _ _ _ h => h) (Or.inl ⟨by rfl, ?_⟩) ?_ ?_
            rotate_left
            · intro w'
              go_simp
              with_reducible rfl
            rotate_left
            · simp only [Act.put, List.setIfInBounds_toArray, List.set_cons_zero, List.set_cons_succ, i64_w, i32_w]
              rfl
            refine take_ (i := 0) (N := some 25) (v := ?_) (a' := ?_) #[true, false, true, false, false, false, false, false, false, false] rfl rfl (take_ofW HT_.out HW_.out (by kernel_rfl)) (fun _ _ _ h => h) (Or.inl ⟨by rfl, ?_⟩) hHeld ?_ ?_
            rotate_left
            · rintro w' ⟨s0, s1, s2, s3, s4, s5, s6, s7, s8, s9⟩
              go_simp
              with_reducible rfl
            rotate_left
            · simp only [Act.put, List.setIfInBounds_toArray, List.set_cons_zero, List.set_cons_succ, i64_w, i32_w]
              rfl
            refine take_ (i := 1) (N := some 26) (v := ?_) (a' := ?_) #[true, true, true, false, false, false, false, false, false, false] rfl rfl (take_ofW HT_.out HW_.out (by kernel_rfl)) (fun _ _ _ h => h) (Or.inl ⟨by rfl, ?_⟩) hHeld ?_ ?_
            rotate_left
            · rintro w' ⟨s0, s1, s2, s3, s4, s5, s6, s7, s8, s9⟩
              go_simp
              with_reducible rfl
            rotate_left
            · simp only [Act.put, List.setIfInBounds_toArray, List.set_cons_zero, List.set_cons_succ, i64_w, i32_w]
              rfl
            refine one_ (i := 3) (N := some 28) #[true, true, true, true, false, false, false, false, false, false] rfl rfl (one_of HT_.out (by kernel_rfl)) (by decide) (fun K hK => ?_)
            refine goes_ Try.func16 (by kernel_rfl) rfl #[.slice A2 l2.length c2] (by rfl) rfl rfl (by (try simp only [List.map_toArray, List.map_cons, List.map_nil]); first | done | rfl | (simp only [List.length_drop, List.length_take]; rfl)) ?_
            with_reducible refine (api_Grid2.calls _ _ l2 t221 _ ?side1 ?side2 A12.out).mono ?_
            (case side1 => repeat (first | exact (Kd.C_below HR2.out HB.out) | (with_reducible refine Kd.C_alloc ?_ _) | (with_reducible refine Kd.C_drewN ?_ _) | (with_reducible refine Kd.C_drew ?_)))
            (case side2 => exact HC2.out)
            rintro e w174 ⟨v222, rfl, ho0, hb⟩
            refine ⟨_, rfl, ?_⟩
            have n0_ := Aside0.mk (Kd.R_lower ho0 (below_size (by repeat (first | (with_reducible first | exact HB.out | apply below_alloc | apply pw_below_drewN | apply below_drew1 | refine below_set ?_ GE218.out | refine below_set ?_ GE219.out) | exact HB.out))))
            have n1_ := Aside0.mk (blk_below (g := gb218) (o := .cells #[.int .i64 a0_0, .int .i64 a0_1, .int .i64 a0_2, .int .i64 a0_3, .int .i64 a0_4, .int .i64 a0_5, .bool a0_6] 23 (0, 0)) (by (with_reducible repeat (first | refine blk_drewN ?_ _ | refine blk_drew ?_ | refine blk_alloc ?_ _)); exact BK218.out) hb)
            have n2_ := Aside0.mk (blk_below (g := gb219) (o := .cells #[.int .i64 a1_0, .int .i64 a1_1, .int .i64 a1_2] 36 (0, 0)) (by (with_reducible repeat (first | refine blk_drewN ?_ _ | refine blk_drew ?_ | refine blk_alloc ?_ _)); exact BK219.out) hb)
            have n3_ := Aside0.mk (below_step (by repeat (first | (with_reducible first | exact HB.out | apply below_alloc | apply pw_below_drewN | apply below_drew1 | refine below_set ?_ GE218.out | refine below_set ?_ GE219.out) | exact HB.out)) hb)
            clear BK218
            clear BK219
            clear HB
            have HO223 := n0_
            have BK218 := n1_
            have BK219 := n2_
            have HB := n3_
            clear n0_ n1_ n2_ n3_
            (try clear hb)
            (try clear hb2)
            (try clear hk)
            (try clear hi)
            (try clear ho0)
            obtain ⟨Ao175, co175, eo175⟩ := Kd.R_slice HO223.out
            (first | subst eo175 | (injection eo175 with f1_ f2_ f3_; have f4_ := f1_.symm; have f5_ := f3_.symm; clear f1_ f2_ f3_; subst f4_; subst f5_))
            refine hK.out _ _ ⟨(blk_cell BK218.out 0).trans rfl, (blk_cell BK218.out 1).trans rfl, (blk_cell BK218.out 2).trans rfl, (blk_cell BK218.out 3).trans rfl, (blk_cell BK218.out 4).trans rfl, (blk_cell BK218.out 5).trans rfl, (blk_cell BK218.out 6).trans rfl, (blk_cell BK219.out 0).trans rfl, (blk_cell BK219.out 1).trans rfl, (blk_cell BK219.out 2).trans rfl⟩ (fun hHeld => ?_)
            clear hK K
            refine norm_ (a' := ?_) ?_ ?_
            rotate_left
            · show Act.put _ (some 28) _ = _
              simp only [Act.put, List.setIfInBounds_toArray, List.set_cons_zero, List.set_cons_succ, i64_w, i32_w]
              rfl
            refine one_ (i := 4) (N := some 29) #[true, true, true, true, true, false, false, false, false, false] rfl rfl (one_of HT_.out (by kernel_rfl)) (by decide) (fun K hK => ?_)
            refine goes_ Try.func15 (by kernel_rfl) rfl #[.agg #[.int .i64 a0_0, .int .i64 a0_1, .int .i64 a0_2, .int .i64 a0_3, .int .i64 a0_4, .int .i64 a0_5, .bool a0_6], .agg #[.int .i64 a1_0, .int .i64 a1_1, .int .i64 a1_2], .slice Ao175 t221.length co175] (by rfl) rfl rfl (by (try simp only [List.map_toArray, List.map_cons, List.map_nil]); first | done | rfl | (simp only [List.length_drop, List.length_take]; rfl)) ?_
            with_reducible refine (cycle_Expand.calls kj5 a0_0 a0_1 a0_2 a0_3 a0_4 a0_5 a0_6 a1_0 a1_1 a1_2 _ _ t221 t224 t227 _ ?side1 ?side2 A13.out).mono ?_
            (case side1 => repeat (first | exact (Kd.R_reads' HO223.out).2.2 | (with_reducible refine Kd.C_alloc ?_ _) | (with_reducible refine Kd.C_drewN ?_ _) | (with_reducible refine Kd.C_drew ?_)))
            (case side2 => exact (Kd.R_reads' HO223.out).2.1)
            rintro e w176 ⟨v225, rfl, ho0, hb⟩
            refine ⟨_, rfl, ?_⟩
            have n0_ := Aside0.mk (Kd.R_below (by (with_reducible repeat (first | apply Kd.R_alloc | apply Kd.R_drewN | apply Kd.R_drew)); exact HO223.out) hb)
            have n1_ := Aside0.mk (Kd.R_lower ho0 (below_size (by repeat (first | (with_reducible first | exact HB.out | apply below_alloc | apply pw_below_drewN | apply below_drew1 | refine below_set ?_ GE218.out | refine below_set ?_ GE219.out) | exact HB.out))))
            have n2_ := Aside0.mk (blk_below (g := gb218) (o := .cells #[.int .i64 a0_0, .int .i64 a0_1, .int .i64 a0_2, .int .i64 a0_3, .int .i64 a0_4, .int .i64 a0_5, .bool a0_6] 23 (0, 0)) (by (with_reducible repeat (first | refine blk_drewN ?_ _ | refine blk_drew ?_ | refine blk_alloc ?_ _)); exact BK218.out) hb)
            have n3_ := Aside0.mk (blk_below (g := gb219) (o := .cells #[.int .i64 a1_0, .int .i64 a1_1, .int .i64 a1_2] 36 (0, 0)) (by (with_reducible repeat (first | refine blk_drewN ?_ _ | refine blk_drew ?_ | refine blk_alloc ?_ _)); exact BK219.out) hb)
            have n4_ := Aside0.mk (below_step (by repeat (first | (with_reducible first | exact HB.out | apply below_alloc | apply pw_below_drewN | apply below_drew1 | refine below_set ?_ GE218.out | refine below_set ?_ GE219.out) | exact HB.out)) hb)
            clear HO223
            clear BK218
            clear BK219
            clear HB
            have HO223 := n0_
            have HO226 := n1_
            have BK218 := n2_
            have BK219 := n3_
            have HB := n4_
            clear n0_ n1_ n2_ n3_ n4_
            (try clear hb)
            (try clear hb2)
            (try clear hk)
            (try clear hi)
            (try clear ho0)
            refine hK.out _ _ ⟨(blk_cell BK218.out 0).trans rfl, (blk_cell BK218.out 1).trans rfl, (blk_cell BK218.out 2).trans rfl, (blk_cell BK218.out 3).trans rfl, (blk_cell BK218.out 4).trans rfl, (blk_cell BK218.out 5).trans rfl, (blk_cell BK218.out 6).trans rfl, (blk_cell BK219.out 0).trans rfl, (blk_cell BK219.out 1).trans rfl, (blk_cell BK219.out 2).trans rfl⟩ (fun hHeld => ?_)
            clear hK K
            refine norm_ (a' := ?_) ?_ ?_
            rotate_left
            · show Act.put _ (some 29) _ = _
              simp only [Act.put, List.setIfInBounds_toArray, List.set_cons_zero, List.set_cons_succ, i64_w, i32_w]
              rfl
            refine pure_ (i := 5) (N := some 24) (v := ?_) (a' := ?_) #[true, true, true, true, true, true, false, false, false, false] rfl rfl (any_of HT_.out (by kernel_rfl)) (fun _ _ _ h => h) (Or.inl ⟨by rfl, ?_⟩) ?_ ?_
            rotate_left
            · intro w'
              go_simp
              with_reducible rfl
            rotate_left
            · simp only [Act.put, List.setIfInBounds_toArray, List.set_cons_zero, List.set_cons_succ, i64_w, i32_w]
              rfl
            refine pure_ (i := 6) (N := some 30) (v := ?_) (a' := ?_) #[true, true, true, true, true, true, true, false, false, false] rfl rfl (any_of HT_.out (by kernel_rfl)) (fun _ _ _ h => h) (Or.inl ⟨by rfl, ?_⟩) ?_ ?_
            rotate_left
            · intro w'
              go_simp
              with_reducible rfl
            rotate_left
            · simp only [Act.put, List.setIfInBounds_toArray, List.set_cons_zero, List.set_cons_succ, i64_w, i32_w]
              rfl
            refine pure_ (i := 7) (N := some 31) (v := ?_) (a' := ?_) #[true, true, true, true, true, true, true, true, false, false] rfl rfl (any_of HT_.out (by kernel_rfl)) (fun _ _ _ h => h) (Or.inl ⟨by rfl, ?_⟩) ?_ ?_
            rotate_left
            · intro w'
              go_simp
              with_reducible rfl
            rotate_left
            · simp only [Act.put, List.setIfInBounds_toArray, List.set_cons_zero, List.set_cons_succ, i64_w, i32_w]
              rfl
            refine pure_ (i := 8) (N := some 7) (v := ?_) (a' := ?_) #[true, true, true, true, true, true, true, true, true, false] rfl rfl (any_of HT_.out (by kernel_rfl)) (fun _ _ _ h => h) (Or.inl ⟨by rfl, ?_⟩) ?_ ?_
            rotate_left
            · intro w'
              go_simp
              with_reducible rfl
            rotate_left
            · simp only [Act.put, List.setIfInBounds_toArray, List.set_cons_zero, List.set_cons_succ, i64_w, i32_w]
              rfl
            refine pure_ (i := 9) (N := some 8) (v := ?_) (a' := ?_) #[true, true, true, true, true, true, true, true, true, true] rfl rfl (any_of HT_.out (by kernel_rfl)) (fun _ _ _ h => h) (Or.inl ⟨by rfl, ?_⟩) ?_ ?_
            rotate_left
            · intro w'
              go_simp
              with_reducible rfl
            rotate_left
            · simp only [Act.put, List.setIfInBounds_toArray, List.set_cons_zero, List.set_cons_succ, i64_w, i32_w]
              rfl
            refine done_ (done_of HT_.out (by kernel_rfl)) ?_
            obtain ⟨Ao177, co177, eo177⟩ := Kd.R_slice HO226.out
            subst eo177
            try go_wp2
            go_ret
            exact ⟨by first | rfl | (simp [errW_none, errW_some] <;> rfl) | (simp [*, errW_none, errW_some] <;> rfl), by repeat (first | (with_reducible first | exact HB.out | apply below_alloc | apply pw_below_drewN | apply below_drew1 | refine below_set ?_ GE218.out | refine below_set ?_ GE219.out) | exact HB.out)⟩
  · replace c5 := Bool.eq_false_iff.mpr c5
    subst c5
    have H1 : (some false) = some r := by rw [if_neg (show ¬ (false = true) by decide)] at H; exact H
    clear H
    have H := H1
    clear H1
    obtain rfl := Option.some.inj H
    go_enter Try.func4, Try.ntmps4
    go_wp2_with (first | ((with_reducible refine gate_dst (N := 3) rfl ?_); (try (refine gate_guard (by rfl) ?_; dsimp only)); refine box_event ?hg (N := 3) ?hd (cs := #[.int .i64 a0_0, .int .i64 a0_1, .int .i64 a0_2, .int .i64 a0_3, .int .i64 a0_4, .int .i64 a0_5, .bool a0_6]) (t := 23) ?hr ?_; (case hd => rfl); (case hg => rfl); (case hr => first | (go_simp; done) | (go_simp; rfl)); intro gb218 hg w178 hbox hb; have n0_ := Aside0.mk (below_step (by repeat (first | (with_reducible first | exact HB.out | apply below_alloc | apply pw_below_drewN | apply below_drew1) | exact HB.out)) hb); have n1_ := Aside0.mk (hbox); have n2_ := Aside0.mk ((by rw [hg]; exact (below_size (by repeat (first | (with_reducible first | exact HB.out | apply below_alloc | apply pw_below_drewN | apply below_drew1) | exact HB.out))) : w.heap.size ≤ gb218)); have n3_ := Aside0.mk ((by rw [hg]; exact (below_size (by repeat (first | (with_reducible first | exact HB.out | apply below_alloc | apply pw_below_drewN | apply below_drew1) | exact HB.out))) : w.heap.size ≤ gb218)); clear HB; have HB := n0_; have BK218 := n1_; have GW218 := n2_; have GE218 := n3_; clear n0_ n1_ n2_ n3_; clear hb hbox hg) | ((with_reducible refine gate_dst (N := 4) rfl ?_); (try (refine gate_guard (by rfl) ?_; dsimp only)); refine box_event ?hg (N := 4) ?hd (cs := #[.int .i64 a1_0, .int .i64 a1_1, .int .i64 a1_2]) (t := 36) ?hr ?_; (case hd => rfl); (case hg => rfl); (case hr => first | (go_simp; done) | (go_simp; rfl)); intro gb219 hg w179 hbox hb; have n0_ := Aside0.mk (blk_below (g := gb218) (o := .cells #[.int .i64 a0_0, .int .i64 a0_1, .int .i64 a0_2, .int .i64 a0_3, .int .i64 a0_4, .int .i64 a0_5, .bool a0_6] 23 (0, 0)) (by (with_reducible repeat (first | refine blk_drewN ?_ _ | refine blk_drew ?_ | refine blk_alloc ?_ _)); exact BK218.out) hb); have n1_ := Aside0.mk (below_step (by repeat (first | (with_reducible first | exact HB.out | apply below_alloc | apply pw_below_drewN | apply below_drew1 | refine below_set ?_ GE218.out) | exact HB.out)) hb); have n2_ := Aside0.mk (hbox); have n3_ := Aside0.mk ((by rw [hg]; exact (below_size (by repeat (first | (with_reducible first | exact HB.out | apply below_alloc | apply pw_below_drewN | apply below_drew1 | refine below_set ?_ GE218.out) | exact HB.out))) : w.heap.size ≤ gb219)); have n4_ := Aside0.mk ((by rw [hg]; exact (below_size (by repeat (first | (with_reducible first | exact HB.out | apply below_alloc | apply pw_below_drewN | apply below_drew1 | refine below_set ?_ GE218.out) | exact HB.out))) : w.heap.size ≤ gb219)); have n5_ := Aside0.mk ((by rw [hg]; exact Nat.ne_of_lt (blk_lt (g := gb218) (o := .cells #[.int .i64 a0_0, .int .i64 a0_1, .int .i64 a0_2, .int .i64 a0_3, .int .i64 a0_4, .int .i64 a0_5, .bool a0_6] 23 (0, 0)) (by (with_reducible repeat (first | refine blk_drewN ?_ _ | refine blk_drew ?_ | refine blk_alloc ?_ _)); exact BK218.out)) : gb218 ≠ gb219)); have n6_ := Aside0.mk ((by rw [hg]; exact Nat.ne_of_gt (blk_lt (g := gb218) (o := .cells #[.int .i64 a0_0, .int .i64 a0_1, .int .i64 a0_2, .int .i64 a0_3, .int .i64 a0_4, .int .i64 a0_5, .bool a0_6] 23 (0, 0)) (by (with_reducible repeat (first | refine blk_drewN ?_ _ | refine blk_drew ?_ | refine blk_alloc ?_ _)); exact BK218.out)) : gb219 ≠ gb218)); clear BK218; clear HB; have BK218 := n0_; have HB := n1_; have BK219 := n2_; have GW219 := n3_; have GE219 := n4_; have NB218_219 := n5_; have NB219_218 := n6_; clear n0_ n1_ n2_ n3_ n4_ n5_ n6_; clear hb hbox hg) | ((with_reducible refine gate_callee (f := 9) rfl ?_); refine goesL_ (some 14) rfl rfl Try.func9 (by kernel_rfl) rfl #[] rfl (by (try simp only [List.map_toArray, List.map_cons, List.map_nil]); first | done | rfl | (simp only [List.length_drop, List.length_take]; rfl)) ?_; (with_reducible refine (swarflaw44_awake.calls k  false _ A4.out).mono ?_); rintro e w180 ⟨rfl, hb⟩; refine ⟨_, rfl, ?_⟩; have n0_ := Aside0.mk (blk_below (g := gb218) (o := .cells #[.int .i64 a0_0, .int .i64 a0_1, .int .i64 a0_2, .int .i64 a0_3, .int .i64 a0_4, .int .i64 a0_5, .bool a0_6] 23 (0, 0)) (by (with_reducible repeat (first | refine blk_drewN ?_ _ | refine blk_drew ?_ | refine blk_alloc ?_ _)); exact BK218.out) hb); have n1_ := Aside0.mk (blk_below (g := gb219) (o := .cells #[.int .i64 a1_0, .int .i64 a1_1, .int .i64 a1_2] 36 (0, 0)) (by (with_reducible repeat (first | refine blk_drewN ?_ _ | refine blk_drew ?_ | refine blk_alloc ?_ _)); exact BK219.out) hb); have n2_ := Aside0.mk (below_step (by repeat (first | (with_reducible first | exact HB.out | apply below_alloc | apply pw_below_drewN | apply below_drew1 | refine below_set ?_ GE218.out | refine below_set ?_ GE219.out) | exact HB.out)) hb); clear BK218; clear BK219; clear HB; have BK218 := n0_; have BK219 := n1_; have HB := n2_; clear n0_ n1_ n2_; (try clear hb); (try clear hb2); (try clear hk); (try clear hi)))
    go_ret
    exact ⟨by first | rfl | (simp [errW_none, errW_some] <;> rfl) | (simp [*, errW_none, errW_some] <;> rfl), by repeat (first | (with_reducible first | exact HB.out | apply below_alloc | apply pw_below_drewN | apply below_drew1 | refine below_set ?_ GE218.out | refine below_set ?_ GE219.out) | exact HB.out)⟩

end Go.Proofs.Ytmaochcdjmnffaa.P
