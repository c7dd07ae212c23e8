-- PRINTED by print.py (a twelfth state) out of the translation. Not trusted: Lean checks it.
import Derived.Test.YtmaochcdjmnffaaT2Px0
import Derived.Test.YtmaochcdjmnffaaT2Px17
import Derived.Test.YtmaochcdjmnffaaT2Px18
import Derived.Test.YtmaochcdjmnffaaT2Px27
namespace Go.Proofs.Ytmaochcdjmnffaa.P
open Go.RowKit Go.Proofs.YtmaochcdjmnffaaW.PrintWords Go.Proofs.YtmaochcdjmnffaaW.PrintLast Go.Proofs.YtmaochcdjmnffaaW.PrintMore
attribute [local go_sem] max2_int min2_int max_two min_two max_three min_three max_four min_four   -- for this text's walks alone
set_option linter.unusedVariables false
set_option linter.unusedSimpArgs false

/-! ### swarfref44_Expand: function 19 -/
mutual
def swarfref44_Expand.j0 : Nat → List (S43) → Bool → Int → Int → Int → Int → Int → Int → Bool → Int → Int → Int → Option ((List (S45)) × Int)
  | 0, _, _, _, _, _, _, _, _, _, _, _, _ => none
  | k + 1, x2, x9, x319000, x319001, x319002, x319003, x319004, x319005, x319006, x320000, x320001, x320002 => swarfref44_Expand.l0 k x2 x9 0 x319000 x319001 x319002 x319003 x319004 x319005 x319006 x320000 x320001 x320002
def swarfref44_Expand.l0 : Nat → List (S43) → Bool → Int → Int → Int → Int → Int → Int → Int → Bool → Int → Int → Int → Option ((List (S45)) × Int)
  | 0, _, _, _, _, _, _, _, _, _, _, _, _, _ => none
  | k + 1, x2, x9, x10, x319000, x319001, x319002, x319003, x319004, x319005, x319006, x320000, x320001, x320002 => if x10 < (x2.length : Int) then (if x9 = true then (if 0 ≤ x10 then ((swarfref44_in.f ((rd_T43 x2 x10).f0)).bind fun t325 => (if t325 = true then ((swarfref44_in.f ((rd_T43 x2 x10).f1)).bind fun t327 => (swarfref44_Expand.l0 k x2 t327 (wrap64 (x10 + 1)) x319000 x319001 x319002 x319003 x319004 x319005 x319006 x320000 x320001 x320002)) else (swarfref44_Expand.l0 k x2 false (wrap64 (x10 + 1)) x319000 x319001 x319002 x319003 x319004 x319005 x319006 x320000 x320001 x320002))) else (none)) else (swarfref44_Expand.l0 k x2 false (wrap64 (x10 + 1)) x319000 x319001 x319002 x319003 x319004 x319005 x319006 x320000 x320001 x320002)) else (if x9 = true then (swarfref44_Expand.l1 k x2 0 x319000 x319001 x319002 x319003 x319004 x319005 x319006 x320000 x320001 x320002 ([] : List (S45))) else (some (([] : List (S45)), 11)))
def swarfref44_Expand.l1 : Nat → List (S43) → Int → Int → Int → Int → Int → Int → Int → Bool → Int → Int → Int → List (S45) → Option ((List (S45)) × Int)
  | 0, _, _, _, _, _, _, _, _, _, _, _, _, _ => none
  | k + 1, x2, x12, x319000, x319001, x319002, x319003, x319004, x319005, x319006, x329000, x329001, x329002, x329003 => if x12 < (x2.length : Int) then (if 0 ≤ x12 then ((swarfref44_one.f k x319000 x319001 x319002 x319003 x319004 x319005 x319006 x329000 x329001 x329002 x329003 ((rd_T43 x2 x12).f0) ((rd_T43 x2 x12).f1)).bind fun bt330 => (if (bt330.2.2.2.length : Int) > 20000 then (some (([] : List (S45)), 3)) else (swarfref44_Expand.l1 k x2 (wrap64 (x12 + 1)) x319000 x319001 x319002 x319003 x319004 x319005 x319006 bt330.1 bt330.2.1 bt330.2.2.1 bt330.2.2.2))) else (none)) else (some (x329003, 0))
end
def swarfref44_Expand.f (k : Nat) (a0_0 : Int) (a0_1 : Int) (a0_2 : Int) (a0_3 : Int) (a0_4 : Int) (a0_5 : Int) (a0_6 : Bool) (a1_0 : Int) (a1_1 : Int) (a1_2 : Int) (l2 : List (S43)) : Option ((List (S45)) × Int) := (swarfref44_Valid.f k a0_0 a0_1 a0_2 a0_3 a0_4 a0_5 a0_6).bind fun t320 => (if t320 = 0 then ((swarfref44_in.f a1_0).bind fun t321 => (if t321 = true then ((swarfref44_in.f a1_1).bind fun t322 => (if t322 = true then ((swarfref44_in.f a1_2).bind fun t323 => (swarfref44_Expand.j0 k l2 t323 a0_0 a0_1 a0_2 a0_3 a0_4 a0_5 a0_6 a1_0 a1_1 a1_2)) else (swarfref44_Expand.j0 k l2 false a0_0 a0_1 a0_2 a0_3 a0_4 a0_5 a0_6 a1_0 a1_1 a1_2))) else (swarfref44_Expand.j0 k l2 false a0_0 a0_1 a0_2 a0_3 a0_4 a0_5 a0_6 a1_0 a1_1 a1_2))) else (some (([] : List (S45)), t320)))
theorem swarfref44_Expand.mono_l : ∀ k, (∀ y0 y1 y2 y3 y4 y5 y6 y7 y8 y9 y10 y11, LeO (swarfref44_Expand.j0 k y0 y1 y2 y3 y4 y5 y6 y7 y8 y9 y10 y11) (swarfref44_Expand.j0 (k + 1) y0 y1 y2 y3 y4 y5 y6 y7 y8 y9 y10 y11)) ∧ (∀ y0 y1 y2 y3 y4 y5 y6 y7 y8 y9 y10 y11 y12, LeO (swarfref44_Expand.l0 k y0 y1 y2 y3 y4 y5 y6 y7 y8 y9 y10 y11 y12) (swarfref44_Expand.l0 (k + 1) y0 y1 y2 y3 y4 y5 y6 y7 y8 y9 y10 y11 y12)) ∧ (∀ y0 y1 y2 y3 y4 y5 y6 y7 y8 y9 y10 y11 y12, LeO (swarfref44_Expand.l1 k y0 y1 y2 y3 y4 y5 y6 y7 y8 y9 y10 y11 y12) (swarfref44_Expand.l1 (k + 1) y0 y1 y2 y3 y4 y5 y6 y7 y8 y9 y10 y11 y12))
  | 0 => ⟨fun _ _ _ _ _ _ _ _ _ _ _ _ r h => by simp [swarfref44_Expand.j0] at h, fun _ _ _ _ _ _ _ _ _ _ _ _ _ r h => by simp [swarfref44_Expand.l0] at h, fun _ _ _ _ _ _ _ _ _ _ _ _ _ r h => by simp [swarfref44_Expand.l1] at h⟩
  | k + 1 => by
    obtain ⟨ih0, ih1, ih2⟩ := swarfref44_Expand.mono_l k
    refine ⟨?_, ?_, ?_⟩
    · intro y0 y1 y2 y3 y4 y5 y6 y7 y8 y9 y10 y11
      unfold swarfref44_Expand.j0
      repeat' first
      | (with_reducible exact ih0 _ _ _ _ _ _ _ _ _ _ _ _)
      | (with_reducible exact ih1 _ _ _ _ _ _ _ _ _ _ _ _ _)
      | (with_reducible exact ih2 _ _ _ _ _ _ _ _ _ _ _ _ _)
      | (with_reducible exact swarfref44_Valid.mono _ _ _ _ _ _ _ _)
      | (with_reducible exact swarfref44_one.mono _ _ _ _ _ _ _ _ _ _ _ _ _ _)
      | (with_reducible exact LeO.refl _)
      | (with_reducible exact LeO.none _)
      | (with_reducible refine LeO.ite ?_ ?_)
      | (with_reducible refine LeO.bind ?_ (fun _ => ?_))
      | exact ih0 _ _ _ _ _ _ _ _ _ _ _ _
      | exact ih1 _ _ _ _ _ _ _ _ _ _ _ _ _
      | exact ih2 _ _ _ _ _ _ _ _ _ _ _ _ _
      | exact swarfref44_Valid.mono _ _ _ _ _ _ _ _
      | exact swarfref44_one.mono _ _ _ _ _ _ _ _ _ _ _ _ _ _
      | exact LeO.none _
      | refine LeO.ite ?_ ?_
      | refine LeO.bind ?_ (fun _ => ?_)
    · intro y0 y1 y2 y3 y4 y5 y6 y7 y8 y9 y10 y11 y12
      unfold swarfref44_Expand.l0
      repeat' first
      | (with_reducible exact ih0 _ _ _ _ _ _ _ _ _ _ _ _)
      | (with_reducible exact ih1 _ _ _ _ _ _ _ _ _ _ _ _ _)
      | (with_reducible exact ih2 _ _ _ _ _ _ _ _ _ _ _ _ _)
      | (with_reducible exact swarfref44_Valid.mono _ _ _ _ _ _ _ _)
      | (with_reducible exact swarfref44_one.mono _ _ _ _ _ _ _ _ _ _ _ _ _ _)
      | (with_reducible exact LeO.refl _)
      | (with_reducible exact LeO.none _)
      | (with_reducible refine LeO.ite ?_ ?_)
      | (with_reducible refine LeO.bind ?_ (fun _ => ?_))
      | exact ih0 _ _ _ _ _ _ _ _ _ _ _ _
      | exact ih1 _ _ _ _ _ _ _ _ _ _ _ _ _
      | exact ih2 _ _ _ _ _ _ _ _ _ _ _ _ _
      | exact swarfref44_Valid.mono _ _ _ _ _ _ _ _
      | exact swarfref44_one.mono _ _ _ _ _ _ _ _ _ _ _ _ _ _
      | exact LeO.none _
      | refine LeO.ite ?_ ?_
      | refine LeO.bind ?_ (fun _ => ?_)
    · intro y0 y1 y2 y3 y4 y5 y6 y7 y8 y9 y10 y11 y12
      unfold swarfref44_Expand.l1
      repeat' first
      | (with_reducible exact ih0 _ _ _ _ _ _ _ _ _ _ _ _)
      | (with_reducible exact ih1 _ _ _ _ _ _ _ _ _ _ _ _ _)
      | (with_reducible exact ih2 _ _ _ _ _ _ _ _ _ _ _ _ _)
      | (with_reducible exact swarfref44_Valid.mono _ _ _ _ _ _ _ _)
      | (with_reducible exact swarfref44_one.mono _ _ _ _ _ _ _ _ _ _ _ _ _ _)
      | (with_reducible exact LeO.refl _)
      | (with_reducible exact LeO.none _)
      | (with_reducible refine LeO.ite ?_ ?_)
      | (with_reducible refine LeO.bind ?_ (fun _ => ?_))
      | exact ih0 _ _ _ _ _ _ _ _ _ _ _ _
      | exact ih1 _ _ _ _ _ _ _ _ _ _ _ _ _
      | exact ih2 _ _ _ _ _ _ _ _ _ _ _ _ _
      | exact swarfref44_Valid.mono _ _ _ _ _ _ _ _
      | exact swarfref44_one.mono _ _ _ _ _ _ _ _ _ _ _ _ _ _
      | exact LeO.none _
      | refine LeO.ite ?_ ?_
      | refine LeO.bind ?_ (fun _ => ?_)
theorem swarfref44_Expand.mono : ∀ a0 a1 a2 a3 a4 a5 a6 a7 a8 a9 a10 k, LeO (swarfref44_Expand.f k a0 a1 a2 a3 a4 a5 a6 a7 a8 a9 a10) (swarfref44_Expand.f (k + 1) a0 a1 a2 a3 a4 a5 a6 a7 a8 a9 a10) := by
  intro a0 a1 a2 a3 a4 a5 a6 a7 a8 a9 a10 k
  obtain ⟨ih0, ih1, ih2⟩ := swarfref44_Expand.mono_l k
  unfold swarfref44_Expand.f
  repeat' first
      | (with_reducible exact ih0 _ _ _ _ _ _ _ _ _ _ _ _)
      | (with_reducible exact ih1 _ _ _ _ _ _ _ _ _ _ _ _ _)
      | (with_reducible exact ih2 _ _ _ _ _ _ _ _ _ _ _ _ _)
      | (with_reducible exact swarfref44_Valid.mono _ _ _ _ _ _ _ _)
      | (with_reducible exact swarfref44_one.mono _ _ _ _ _ _ _ _ _ _ _ _ _ _)
      | (with_reducible exact LeO.refl _)
      | (with_reducible exact LeO.none _)
      | (with_reducible refine LeO.ite ?_ ?_)
      | (with_reducible refine LeO.bind ?_ (fun _ => ?_))
      | exact ih0 _ _ _ _ _ _ _ _ _ _ _ _
      | exact ih1 _ _ _ _ _ _ _ _ _ _ _ _ _
      | exact ih2 _ _ _ _ _ _ _ _ _ _ _ _ _
      | exact swarfref44_Valid.mono _ _ _ _ _ _ _ _
      | exact swarfref44_one.mono _ _ _ _ _ _ _ _ _ _ _ _ _ _
      | exact LeO.none _
      | refine LeO.ite ?_ ?_
      | refine LeO.bind ?_ (fun _ => ?_)
def swarfref44_Expand.T15 : Bool × List (List Nat × List Nat) := (true, [([], []), ([], []), ([], []), ([], []), ([2, 3], [2, 3]), ([4], [4]), ([0, 1, 5], [0, 1, 5]), ([6, 6, 0, 1, 2, 3, 4, 5, 6], [6])])
def swarfref44_Expand.B15 : List Nat := [0, 0, 0, 0, 12, 28, 63, 127]
theorem swarfref44_Expand.tab15 : rtab .any (opsOf Try.f19 15) = swarfref44_Expand.T15 := by kernel_rfl
theorem swarfref44_Expand.bits15 : waitsOk swarfref44_Expand.T15.2 swarfref44_Expand.B15 = true := by kernel_rfl
set_option maxHeartbeats 8000000 in
set_option maxRecDepth 100000 in
theorem swarfref44_Expand.calls (k : Nat) (a0_0 : Int) (a0_1 : Int) (a0_2 : Int) (a0_3 : Int) (a0_4 : Int) (a0_5 : Int) (a0_6 : Bool) (a1_0 : Int) (a1_1 : Int) (a1_2 : Int) (A2 : Option Addr) (c2 : Nat) (l2 : List (S43)) (r1 : List (S45)) (r2 : Int) (w : World) (hr2 : Kd.C k43 w A2 l2.length l2) (hc2 : l2.length ≤ c2) (h : swarfref44_Expand.f k a0_0 a0_1 a0_2 a0_3 a0_4 a0_5 a0_6 a1_0 a1_1 a1_2 l2 = some (r1, r2)) :
    Calls Try.prog 19 #[.agg #[.int .i64 a0_0, .int .i64 a0_1, .int .i64 a0_2, .int .i64 a0_3, .int .i64 a0_4, .int .i64 a0_5, .bool a0_6], .agg #[.int .i64 a1_0, .int .i64 a1_1, .int .i64 a1_2], .slice A2 l2.length c2] w fun e w' => ∃ v0_ : Value, e = .returned (.tuple #[v0_, .int .i64 r2]) ∧ Kd.R k45 45 w' w.heap.size (fun _ => True) v0_ r1 ∧ Below w.heap.size w w' := by
  have hu23 := Try.underlying23
  have hu36 := Try.underlying36
  have hu73 := Try.underlying73
  have hu43 := Try.underlying43
  have HR2 := Aside0.mk hr2
  have HC2 := Aside0.mk hc2
  clear hr2 hc2
  have HB := Aside0.mk (Below.refl w.heap.size w)
  have H : ((swarfref44_Valid.f k a0_0 a0_1 a0_2 a0_3 a0_4 a0_5 a0_6).bind fun t320 => (if t320 = 0 then ((swarfref44_in.f a1_0).bind fun t321 => (if t321 = true then ((swarfref44_in.f a1_1).bind fun t322 => (if t322 = true then ((swarfref44_in.f a1_2).bind fun t323 => (swarfref44_Expand.j0 k l2 t323 a0_0 a0_1 a0_2 a0_3 a0_4 a0_5 a0_6 a1_0 a1_1 a1_2)) else (swarfref44_Expand.j0 k l2 false a0_0 a0_1 a0_2 a0_3 a0_4 a0_5 a0_6 a1_0 a1_1 a1_2))) else (swarfref44_Expand.j0 k l2 false a0_0 a0_1 a0_2 a0_3 a0_4 a0_5 a0_6 a1_0 a1_1 a1_2))) else (some (([] : List (S45)), t320)))) = some (r1, r2) := h
  clear h
  replace H := Option.bind_eq_some_iff.mp H
  obtain ⟨t320, A40, H⟩ := H
  replace H : (if t320 = 0 then ((swarfref44_in.f a1_0).bind fun t321 => (if t321 = true then ((swarfref44_in.f a1_1).bind fun t322 => (if t322 = true then ((swarfref44_in.f a1_2).bind fun t323 => (swarfref44_Expand.j0 k l2 t323 a0_0 a0_1 a0_2 a0_3 a0_4 a0_5 a0_6 a1_0 a1_1 a1_2)) else (swarfref44_Expand.j0 k l2 false a0_0 a0_1 a0_2 a0_3 a0_4 a0_5 a0_6 a1_0 a1_1 a1_2))) else (swarfref44_Expand.j0 k l2 false a0_0 a0_1 a0_2 a0_3 a0_4 a0_5 a0_6 a1_0 a1_1 a1_2))) else (some (([] : List (S45)), t320))) = some (r1, r2) := H
  have A4 := Aside0.mk A40
  clear A40
  by_cases c5 : t320 = 0
  · rw [if_pos c5] at H
    have c5b0 : (t320 == 0) = true := beq_iff_eq.mpr c5
    have c5b1 : (t320 != 0) = false := bne_eq_false_iff_eq.mpr c5
    clear c5
    have HC6 := Aside0.mk H
    clear H
    go_enter Try.func19, Try.ntmps19
    go_upto_region 4 with (first | ((with_reducible refine gate_dst (N := 3) rfl ?_); refine box_event ?hg (N := 3) ?hd (cs := #[.int .i64 a0_0, .int .i64 a0_1, .int .i64 a0_2, .int .i64 a0_3, .int .i64 a0_4, .int .i64 a0_5, .bool a0_6]) (t := 23) ?hr ?_; (case hd => rfl); (case hg => rfl); (case hr => first | (go_simp; done) | (go_simp; rfl)); intro gb318 hg w7 hbox hb; have n0_ := Aside0.mk (below_step (by repeat (first | (with_reducible first | exact HB.out | apply below_alloc | apply pw_below_drewN | apply below_drew1) | exact HB.out)) hb); have n1_ := Aside0.mk (hbox); have n2_ := Aside0.mk ((by rw [hg]; exact (below_size (by repeat (first | (with_reducible first | exact HB.out | apply below_alloc | apply pw_below_drewN | apply below_drew1) | exact HB.out))) : w.heap.size ≤ gb318)); have n3_ := Aside0.mk ((by rw [hg]; exact (below_size (by repeat (first | (with_reducible first | exact HB.out | apply below_alloc | apply pw_below_drewN | apply below_drew1) | exact HB.out))) : w.heap.size ≤ gb318)); clear HB; have HB := n0_; have BK318 := n1_; have GW318 := n2_; have GE318 := n3_; clear n0_ n1_ n2_ n3_; clear hb hbox hg) | ((with_reducible refine gate_dst (N := 4) rfl ?_); refine box_event ?hg (N := 4) ?hd (cs := #[.int .i64 a1_0, .int .i64 a1_1, .int .i64 a1_2]) (t := 36) ?hr ?_; (case hd => rfl); (case hg => rfl); (case hr => first | (go_simp; done) | (go_simp; rfl)); intro gb319 hg w8 hbox hb; have n0_ := Aside0.mk (blk_below (g := gb318) (o := .cells #[.int .i64 a0_0, .int .i64 a0_1, .int .i64 a0_2, .int .i64 a0_3, .int .i64 a0_4, .int .i64 a0_5, .bool a0_6] 23 (0, 0)) (by (with_reducible repeat (first | refine blk_drewN ?_ _ | refine blk_drew ?_ | refine blk_alloc ?_ _)); exact BK318.out) hb); have n1_ := Aside0.mk (below_step (by repeat (first | (with_reducible first | exact HB.out | apply below_alloc | apply pw_below_drewN | apply below_drew1 | refine below_set ?_ GE318.out) | exact HB.out)) hb); have n2_ := Aside0.mk (hbox); have n3_ := Aside0.mk ((by rw [hg]; exact (below_size (by repeat (first | (with_reducible first | exact HB.out | apply below_alloc | apply pw_below_drewN | apply below_drew1 | refine below_set ?_ GE318.out) | exact HB.out))) : w.heap.size ≤ gb319)); have n4_ := Aside0.mk ((by rw [hg]; exact (below_size (by repeat (first | (with_reducible first | exact HB.out | apply below_alloc | apply pw_below_drewN | apply below_drew1 | refine below_set ?_ GE318.out) | exact HB.out))) : w.heap.size ≤ gb319)); have n5_ := Aside0.mk ((by rw [hg]; exact Nat.ne_of_lt (blk_lt (g := gb318) (o := .cells #[.int .i64 a0_0, .int .i64 a0_1, .int .i64 a0_2, .int .i64 a0_3, .int .i64 a0_4, .int .i64 a0_5, .bool a0_6] 23 (0, 0)) (by (with_reducible repeat (first | refine blk_drewN ?_ _ | refine blk_drew ?_ | refine blk_alloc ?_ _)); exact BK318.out)) : gb318 ≠ gb319)); have n6_ := Aside0.mk ((by rw [hg]; exact Nat.ne_of_gt (blk_lt (g := gb318) (o := .cells #[.int .i64 a0_0, .int .i64 a0_1, .int .i64 a0_2, .int .i64 a0_3, .int .i64 a0_4, .int .i64 a0_5, .bool a0_6] 23 (0, 0)) (by (with_reducible repeat (first | refine blk_drewN ?_ _ | refine blk_drew ?_ | refine blk_alloc ?_ _)); exact BK318.out)) : gb319 ≠ gb318)); clear BK318; clear HB; have BK318 := n0_; have HB := n1_; have BK319 := n2_; have GW319 := n3_; have GE319 := n4_; have NB318_319 := n5_; have NB319_318 := n6_; clear n0_ n1_ n2_ n3_ n4_ n5_ n6_; clear hb hbox hg; have hnb9 := NB318_319.out; have hnc9 := NB319_318.out; have hcz10_0 : w8.cell? ⟨gb318, 0, none⟩ = some (.int .i64 a0_0) := (blk_cell BK318.out 0).trans rfl; have hcz10_1 : w8.cell? ⟨gb318, 1, none⟩ = some (.int .i64 a0_1) := (blk_cell BK318.out 1).trans rfl; have hcz10_2 : w8.cell? ⟨gb318, 2, none⟩ = some (.int .i64 a0_2) := (blk_cell BK318.out 2).trans rfl; have hcz10_3 : w8.cell? ⟨gb318, 3, none⟩ = some (.int .i64 a0_3) := (blk_cell BK318.out 3).trans rfl; have hcz10_4 : w8.cell? ⟨gb318, 4, none⟩ = some (.int .i64 a0_4) := (blk_cell BK318.out 4).trans rfl; have hcz10_5 : w8.cell? ⟨gb318, 5, none⟩ = some (.int .i64 a0_5) := (blk_cell BK318.out 5).trans rfl; have hcz10_6 : w8.cell? ⟨gb318, 6, none⟩ = some (.bool a0_6) := (blk_cell BK318.out 6).trans rfl; have hfz10_0 := blk_frozen BK318.out 0; have hfz10_1 := blk_frozen BK318.out 1; have hfz10_2 := blk_frozen BK318.out 2; have hfz10_3 := blk_frozen BK318.out 3; have hfz10_4 := blk_frozen BK318.out 4; have hfz10_5 := blk_frozen BK318.out 5; have hfz10_6 := blk_frozen BK318.out 6) | ((with_reducible refine gate_callee (f := 13) rfl ?_); refine goesL_ (some 14) rfl rfl Try.func13 (by kernel_rfl) rfl #[.agg #[.int .i64 a0_0, .int .i64 a0_1, .int .i64 a0_2, .int .i64 a0_3, .int .i64 a0_4, .int .i64 a0_5, .bool a0_6]] rfl (by (try simp only [List.map_toArray, List.map_cons, List.map_nil]); first | done | rfl | (simp only [List.length_drop, List.length_take]; rfl)) ?_; (with_reducible refine (swarfref44_Valid.calls k a0_0 a0_1 a0_2 a0_3 a0_4 a0_5 a0_6 t320 _ A4.out).mono ?_); rintro e w11 ⟨rfl, hb⟩; refine ⟨_, rfl, ?_⟩; have n0_ := Aside0.mk (blk_below (g := gb318) (o := .cells #[.int .i64 a0_0, .int .i64 a0_1, .int .i64 a0_2, .int .i64 a0_3, .int .i64 a0_4, .int .i64 a0_5, .bool a0_6] 23 (0, 0)) (by (with_reducible repeat (first | refine blk_drewN ?_ _ | refine blk_drew ?_ | refine blk_alloc ?_ _)); exact BK318.out) hb); have n1_ := Aside0.mk (blk_below (g := gb319) (o := .cells #[.int .i64 a1_0, .int .i64 a1_1, .int .i64 a1_2] 36 (0, 0)) (by (with_reducible repeat (first | refine blk_drewN ?_ _ | refine blk_drew ?_ | refine blk_alloc ?_ _)); exact BK319.out) hb); have n2_ := Aside0.mk (below_step (by repeat (first | (with_reducible first | exact HB.out | apply below_alloc | apply pw_below_drewN | apply below_drew1 | refine below_set ?_ GE318.out | refine below_set ?_ GE319.out) | exact HB.out)) hb); clear BK318; clear BK319; clear HB; have BK318 := n0_; have BK319 := n1_; have HB := n2_; clear n0_ n1_ n2_; (try clear hb); (try clear hb2); (try clear hk); (try clear hi)))
    (try simp only [Act.put, List.setIfInBounds_toArray, List.set_cons_zero, List.set_cons_succ])
    go_cut [9] (fun v9 wc => ∃ (kq : Nat) (x9_5 : Bool), v9 = .bool x9_5 ∧ Aside0 (swarfref44_Expand.j0 kq l2 x9_5 a0_0 a0_1 a0_2 a0_3 a0_4 a0_5 a0_6 a1_0 a1_1 a1_2 = some (r1, r2)) ∧ Aside0 (kq ≤ k) ∧ Aside0 (wc.heap[gb318]? = some (.cells #[.int .i64 a0_0, .int .i64 a0_1, .int .i64 a0_2, .int .i64 a0_3, .int .i64 a0_4, .int .i64 a0_5, .bool a0_6] 23 (0, 0))) ∧ Aside0 (wc.heap[gb319]? = some (.cells #[.int .i64 a1_0, .int .i64 a1_1, .int .i64 a1_2] 36 (0, 0))) ∧ Aside0 (Below w.heap.size w wc))
    case first =>
      have H := HC6.out
      clear HC6
      replace H := Option.bind_eq_some_iff.mp H
      obtain ⟨t321, A120, H⟩ := H
      replace H : (if t321 = true then ((swarfref44_in.f a1_1).bind fun t322 => (if t322 = true then ((swarfref44_in.f a1_2).bind fun t323 => (swarfref44_Expand.j0 k l2 t323 a0_0 a0_1 a0_2 a0_3 a0_4 a0_5 a0_6 a1_0 a1_1 a1_2)) else (swarfref44_Expand.j0 k l2 false a0_0 a0_1 a0_2 a0_3 a0_4 a0_5 a0_6 a1_0 a1_1 a1_2))) else (swarfref44_Expand.j0 k l2 false a0_0 a0_1 a0_2 a0_3 a0_4 a0_5 a0_6 a1_0 a1_1 a1_2)) = some (r1, r2) := H
      have A12 := Aside0.mk A120
      clear A120
      by_cases c13 : t321 = true
      · subst c13
        have H1 : ((swarfref44_in.f a1_1).bind fun t322 => (if t322 = true then ((swarfref44_in.f a1_2).bind fun t323 => (swarfref44_Expand.j0 k l2 t323 a0_0 a0_1 a0_2 a0_3 a0_4 a0_5 a0_6 a1_0 a1_1 a1_2)) else (swarfref44_Expand.j0 k l2 false a0_0 a0_1 a0_2 a0_3 a0_4 a0_5 a0_6 a1_0 a1_1 a1_2))) = some (r1, r2) := by rw [if_pos rfl] at H; exact H
        clear H
        have H := H1
        clear H1
        replace H := Option.bind_eq_some_iff.mp H
        obtain ⟨t322, A140, H⟩ := H
        replace H : (if t322 = true then ((swarfref44_in.f a1_2).bind fun t323 => (swarfref44_Expand.j0 k l2 t323 a0_0 a0_1 a0_2 a0_3 a0_4 a0_5 a0_6 a1_0 a1_1 a1_2)) else (swarfref44_Expand.j0 k l2 false a0_0 a0_1 a0_2 a0_3 a0_4 a0_5 a0_6 a1_0 a1_1 a1_2)) = some (r1, r2) := H
        have A14 := Aside0.mk A140
        clear A140
        by_cases c15 : t322 = true
        · subst c15
          have H1 : ((swarfref44_in.f a1_2).bind fun t323 => (swarfref44_Expand.j0 k l2 t323 a0_0 a0_1 a0_2 a0_3 a0_4 a0_5 a0_6 a1_0 a1_1 a1_2)) = some (r1, r2) := by rw [if_pos rfl] at H; exact H
          clear H
          have H := H1
          clear H1
          replace H := Option.bind_eq_some_iff.mp H
          obtain ⟨t323, A160, H⟩ := H
          replace H : (swarfref44_Expand.j0 k l2 t323 a0_0 a0_1 a0_2 a0_3 a0_4 a0_5 a0_6 a1_0 a1_1 a1_2) = some (r1, r2) := H
          have A16 := Aside0.mk A160
          clear A160
          have H' := Aside0.mk H
          clear H
          have hnb17 := NB319_318.out
          have hnc17 := NB318_319.out
          have hcz18_0 : w11.cell? ⟨gb319, 0, none⟩ = some (.int .i64 a1_0) := (blk_cell BK319.out 0).trans rfl
          have hcz18_1 : w11.cell? ⟨gb319, 1, none⟩ = some (.int .i64 a1_1) := (blk_cell BK319.out 1).trans rfl
          have hcz18_2 : w11.cell? ⟨gb319, 2, none⟩ = some (.int .i64 a1_2) := (blk_cell BK319.out 2).trans rfl
          have hfz18_0 := blk_frozen BK319.out 0
          have hfz18_1 := blk_frozen BK319.out 1
          have hfz18_2 := blk_frozen BK319.out 2
          go_wp2_with (first | ((with_reducible refine gate_callee (f := 27) rfl ?_); refine goesL_ (some 20) rfl rfl Try.func27 (by kernel_rfl) rfl #[.int .i64 a1_0] rfl (by (try simp only [List.map_toArray, List.map_cons, List.map_nil]); first | done | rfl | (simp only [List.length_drop, List.length_take]; rfl)) ?_; (with_reducible refine (swarfref44_in.calls a1_0 true _ A12.out).mono ?_); rintro e w' ⟨rfl, ⟨nd, rfl⟩⟩; refine ⟨_, rfl, ?_⟩) | (go_at_call 27; (with_reducible refine (swarfref44_in.calls a1_1 true _ A14.out).mono ?_); rintro e w' ⟨rfl, ⟨nd, rfl⟩⟩) | (go_at_call 27; (with_reducible refine (swarfref44_in.calls a1_2 t323 _ A16.out).mono ?_); rintro e w' ⟨rfl, ⟨nd, rfl⟩⟩))
          go_meet
          case rel => exact ⟨_, (t323), (by first | rfl | (simp; done) | (simp [*]; done)), H', ⟨by first | omega | exact Nat.le_refl _⟩, ⟨by (with_reducible repeat (first | refine blk_drewN ?_ _ | refine blk_drew ?_ | refine blk_alloc ?_ _)); exact BK318.out⟩, ⟨by (with_reducible repeat (first | refine blk_drewN ?_ _ | refine blk_drew ?_ | refine blk_alloc ?_ _)); exact BK319.out⟩, ⟨by repeat (first | (with_reducible first | exact HB.out | apply below_alloc | apply pw_below_drewN | apply below_drew1 | refine below_set ?_ GE318.out | refine below_set ?_ GE319.out) | exact HB.out)⟩⟩
        · replace c15 := Bool.eq_false_iff.mpr c15
          subst c15
          have H1 : (swarfref44_Expand.j0 k l2 false a0_0 a0_1 a0_2 a0_3 a0_4 a0_5 a0_6 a1_0 a1_1 a1_2) = some (r1, r2) := by rw [if_neg (show ¬ (false = true) by decide)] at H; exact H
          clear H
          have H := H1
          clear H1
          have H' := Aside0.mk H
          clear H
          have hnb19 := NB319_318.out
          have hnc19 := NB318_319.out
          have hcz20_0 : w11.cell? ⟨gb319, 0, none⟩ = some (.int .i64 a1_0) := (blk_cell BK319.out 0).trans rfl
          have hcz20_1 : w11.cell? ⟨gb319, 1, none⟩ = some (.int .i64 a1_1) := (blk_cell BK319.out 1).trans rfl
          have hcz20_2 : w11.cell? ⟨gb319, 2, none⟩ = some (.int .i64 a1_2) := (blk_cell BK319.out 2).trans rfl
          have hfz20_0 := blk_frozen BK319.out 0
          have hfz20_1 := blk_frozen BK319.out 1
          have hfz20_2 := blk_frozen BK319.out 2
          go_wp2_with (first | ((with_reducible refine gate_callee (f := 27) rfl ?_); refine goesL_ (some 20) rfl rfl Try.func27 (by kernel_rfl) rfl #[.int .i64 a1_0] rfl (by (try simp only [List.map_toArray, List.map_cons, List.map_nil]); first | done | rfl | (simp only [List.length_drop, List.length_take]; rfl)) ?_; (with_reducible refine (swarfref44_in.calls a1_0 true _ A12.out).mono ?_); rintro e w' ⟨rfl, ⟨nd, rfl⟩⟩; refine ⟨_, rfl, ?_⟩) | (go_at_call 27; (with_reducible refine (swarfref44_in.calls a1_1 false _ A14.out).mono ?_); rintro e w' ⟨rfl, ⟨nd, rfl⟩⟩))
          go_meet
          case rel => exact ⟨_, (false), (by first | rfl | (simp; done) | (simp [*]; done)), H', ⟨by first | omega | exact Nat.le_refl _⟩, ⟨by (with_reducible repeat (first | refine blk_drewN ?_ _ | refine blk_drew ?_ | refine blk_alloc ?_ _)); exact BK318.out⟩, ⟨by (with_reducible repeat (first | refine blk_drewN ?_ _ | refine blk_drew ?_ | refine blk_alloc ?_ _)); exact BK319.out⟩, ⟨by repeat (first | (with_reducible first | exact HB.out | apply below_alloc | apply pw_below_drewN | apply below_drew1 | refine below_set ?_ GE318.out | refine below_set ?_ GE319.out) | exact HB.out)⟩⟩
      · replace c13 := Bool.eq_false_iff.mpr c13
        subst c13
        have H1 : (swarfref44_Expand.j0 k l2 false a0_0 a0_1 a0_2 a0_3 a0_4 a0_5 a0_6 a1_0 a1_1 a1_2) = some (r1, r2) := by rw [if_neg (show ¬ (false = true) by decide)] at H; exact H
        clear H
        have H := H1
        clear H1
        have H' := Aside0.mk H
        clear H
        have hnb21 := NB319_318.out
        have hnc21 := NB318_319.out
        have hcz22_0 : w11.cell? ⟨gb319, 0, none⟩ = some (.int .i64 a1_0) := (blk_cell BK319.out 0).trans rfl
        have hcz22_1 : w11.cell? ⟨gb319, 1, none⟩ = some (.int .i64 a1_1) := (blk_cell BK319.out 1).trans rfl
        have hcz22_2 : w11.cell? ⟨gb319, 2, none⟩ = some (.int .i64 a1_2) := (blk_cell BK319.out 2).trans rfl
        have hfz22_0 := blk_frozen BK319.out 0
        have hfz22_1 := blk_frozen BK319.out 1
        have hfz22_2 := blk_frozen BK319.out 2
        go_wp2_with (first | ((with_reducible refine gate_callee (f := 27) rfl ?_); refine goesL_ (some 20) rfl rfl Try.func27 (by kernel_rfl) rfl #[.int .i64 a1_0] rfl (by (try simp only [List.map_toArray, List.map_cons, List.map_nil]); first | done | rfl | (simp only [List.length_drop, List.length_take]; rfl)) ?_; (with_reducible refine (swarfref44_in.calls a1_0 false _ A12.out).mono ?_); rintro e w' ⟨rfl, ⟨nd, rfl⟩⟩; refine ⟨_, rfl, ?_⟩))
        go_meet
        case rel => exact ⟨_, (false), (by first | rfl | (simp; done) | (simp [*]; done)), H', ⟨by first | omega | exact Nat.le_refl _⟩, ⟨by (with_reducible repeat (first | refine blk_drewN ?_ _ | refine blk_drew ?_ | refine blk_alloc ?_ _)); exact BK318.out⟩, ⟨by (with_reducible repeat (first | refine blk_drewN ?_ _ | refine blk_drew ?_ | refine blk_alloc ?_ _)); exact BK319.out⟩, ⟨by repeat (first | (with_reducible first | exact HB.out | apply below_alloc | apply pw_below_drewN | apply below_drew1 | refine below_set ?_ GE318.out | refine below_set ?_ GE319.out) | exact HB.out)⟩⟩
    case rest =>
      clear HC6
      try clear c1
      try clear c2
      try clear p2
      try clear c5
      try clear c5b0
      try clear c5b1
      try clear c9
      try clear c13
      try clear c15
      try clear c17
      try clear c19
      try clear c21
      try clear hcz10_0
      try clear hcz10_1
      try clear hcz10_2
      try clear hcz10_3
      try clear hcz10_4
      try clear hcz10_5
      try clear hcz10_6
      try clear hcz18_0
      try clear hcz18_1
      try clear hcz18_2
      try clear hcz20_0
      try clear hcz20_1
      try clear hcz20_2
      try clear hcz22_0
      try clear hcz22_1
      try clear hcz22_2
      try clear hfz10_0
      try clear hfz10_1
      try clear hfz10_2
      try clear hfz10_3
      try clear hfz10_4
      try clear hfz10_5
      try clear hfz10_6
      try clear hfz18_0
      try clear hfz18_1
      try clear hfz18_2
      try clear hfz20_0
      try clear hfz20_1
      try clear hfz20_2
      try clear hfz22_0
      try clear hfz22_1
      try clear hfz22_2
      obtain ⟨kq, x9_5, rfl, HA, HJ5, BK318, BK319, HB⟩ := hcut
      cases kq with
      | zero => exact absurd HA.out (by simp [swarfref44_Expand.j0])
      | succ kj5 =>
        have H := HA.out
        clear HA
        simp only [swarfref44_Expand.j0] at H
        have H' := Aside0.mk H
        clear H
        go_wp2
        go_loopg [9, 10] kj5 (fun kq v9 v10 w' => ∃ (x9_2 : Bool) (x10_2 : Int), v9 = .bool x9_2 ∧ v10 = .int .i64 x10_2 ∧ Aside0 (swarfref44_Expand.l0 kq l2 x9_2 x10_2 a0_0 a0_1 a0_2 a0_3 a0_4 a0_5 a0_6 a1_0 a1_1 a1_2 = some (r1, r2)) ∧ Aside0 (kq ≤ kj5) ∧ Aside0 (w'.heap[gb318]? = some (.cells #[.int .i64 a0_0, .int .i64 a0_1, .int .i64 a0_2, .int .i64 a0_3, .int .i64 a0_4, .int .i64 a0_5, .bool a0_6] 23 (0, 0))) ∧ Aside0 (w'.heap[gb319]? = some (.cells #[.int .i64 a1_0, .int .i64 a1_1, .int .i64 a1_2] 36 (0, 0))) ∧ Aside0 (Below w.heap.size w w'))
        case atStart => exact ⟨(x9_5), (0), (by first | rfl | (simp; done) | (simp [*]; done)), (by first | rfl | (simp; done) | (simp [*]; done)), H', ⟨Nat.le_refl _⟩, ⟨by (with_reducible repeat (first | refine blk_drewN ?_ _ | refine blk_drew ?_ | refine blk_alloc ?_ _)); exact BK318.out⟩, ⟨by (with_reducible repeat (first | refine blk_drewN ?_ _ | refine blk_drew ?_ | refine blk_alloc ?_ _)); exact BK319.out⟩, ⟨by repeat (first | (with_reducible first | exact HB.out | apply below_alloc | apply pw_below_drewN | apply below_drew1 | refine below_set ?_ GE318.out | refine below_set ?_ GE319.out) | exact HB.out)⟩⟩
        case round =>
          clear H'
          try clear c1
          try clear c2
          try clear p2
          try clear c5
          try clear c5b0
          try clear c5b1
          try clear c9
          try clear c13
          try clear c15
          try clear c17
          try clear c19
          try clear c21
          try clear hcz10_0
          try clear hcz10_1
          try clear hcz10_2
          try clear hcz10_3
          try clear hcz10_4
          try clear hcz10_5
          try clear hcz10_6
          try clear hcz18_0
          try clear hcz18_1
          try clear hcz18_2
          try clear hcz20_0
          try clear hcz20_1
          try clear hcz20_2
          try clear hcz22_0
          try clear hcz22_1
          try clear hcz22_2
          try clear hfz10_0
          try clear hfz10_1
          try clear hfz10_2
          try clear hfz10_3
          try clear hfz10_4
          try clear hfz10_5
          try clear hfz10_6
          try clear hfz18_0
          try clear hfz18_1
          try clear hfz18_2
          try clear hfz20_0
          try clear hfz20_1
          try clear hfz20_2
          try clear hfz22_0
          try clear hfz22_1
          try clear hfz22_2
          try clear p2
          obtain ⟨x9_2, x10_2, rfl, rfl, HA, HK2, BK318, BK319, HB⟩ := hrel
          cases gk with
          | zero => exact absurd HA.out (by simp [swarfref44_Expand.l0])
          | succ k2 =>
            have H := HA.out
            clear HA
            simp only [swarfref44_Expand.l0] at H
            by_cases c23 : x10_2 < (l2.length : Int)
            · rw [if_pos c23] at H
              have c23b0 : decide (x10_2 < (l2.length : Int)) = true := decide_eq_true c23
              clear c23
              by_cases c24 : x9_2 = true
              · subst c24
                have H1 : (if 0 ≤ x10_2 then ((swarfref44_in.f ((rd_T43 l2 x10_2).f0)).bind fun t325 => (if t325 = true then ((swarfref44_in.f ((rd_T43 l2 x10_2).f1)).bind fun t327 => (swarfref44_Expand.l0 k2 l2 t327 (wrap64 (x10_2 + 1)) a0_0 a0_1 a0_2 a0_3 a0_4 a0_5 a0_6 a1_0 a1_1 a1_2)) else (swarfref44_Expand.l0 k2 l2 false (wrap64 (x10_2 + 1)) a0_0 a0_1 a0_2 a0_3 a0_4 a0_5 a0_6 a1_0 a1_1 a1_2))) else (none)) = some (r1, r2) := by rw [if_pos rfl] at H; exact H
                clear H
                have H := H1
                clear H1
                by_cases c25 : 0 ≤ x10_2
                · rw [if_pos c25] at H
                  have c25b0 : decide (0 ≤ x10_2) = true := decide_eq_true c25
                  clear c25
                  replace H := Option.bind_eq_some_iff.mp H
                  obtain ⟨t325, A260, H⟩ := H
                  replace H : (if t325 = true then ((swarfref44_in.f ((rd_T43 l2 x10_2).f1)).bind fun t327 => (swarfref44_Expand.l0 k2 l2 t327 (wrap64 (x10_2 + 1)) a0_0 a0_1 a0_2 a0_3 a0_4 a0_5 a0_6 a1_0 a1_1 a1_2)) else (swarfref44_Expand.l0 k2 l2 false (wrap64 (x10_2 + 1)) a0_0 a0_1 a0_2 a0_3 a0_4 a0_5 a0_6 a1_0 a1_1 a1_2)) = some (r1, r2) := H
                  have A26 := Aside0.mk A260
                  clear A260
                  by_cases c27 : t325 = true
                  · subst c27
                    have H1 : ((swarfref44_in.f ((rd_T43 l2 x10_2).f1)).bind fun t327 => (swarfref44_Expand.l0 k2 l2 t327 (wrap64 (x10_2 + 1)) a0_0 a0_1 a0_2 a0_3 a0_4 a0_5 a0_6 a1_0 a1_1 a1_2)) = some (r1, r2) := by rw [if_pos rfl] at H; exact H
                    clear H
                    have H := H1
                    clear H1
                    replace H := Option.bind_eq_some_iff.mp H
                    obtain ⟨t327, A280, H⟩ := H
                    replace H : (swarfref44_Expand.l0 k2 l2 t327 (wrap64 (x10_2 + 1)) a0_0 a0_1 a0_2 a0_3 a0_4 a0_5 a0_6 a1_0 a1_1 a1_2) = some (r1, r2) := H
                    have A28 := Aside0.mk A280
                    clear A280
                    have H' := Aside0.mk H
                    clear H
                    have p324 : 0 ≤ (x10_2 : Int) := of_decide_eq_true (by first | (with_reducible assumption) | assumption)
                    have q324 : x10_2 < (l2.length : Int) := of_decide_eq_true (by first | (with_reducible assumption) | assumption)
                    obtain ⟨ad324, e324, hx324_0, hx324_1⟩ := at_T43 HR2.out x10_2 p324 q324
                    cases e324
                    replace hx324_0 := (HB.out.cell (World.block_lt_of_cell? w _ hx324_0)).trans hx324_0
                    replace hx324_1 := (HB.out.cell (World.block_lt_of_cell? w _ hx324_1)).trans hx324_1
                    replace p324 := eq_true p324
                    replace q324 := eq_true q324
                    go_wp2_with (first | (go_at_call 27; (with_reducible refine (swarfref44_in.calls ((rd_T43 l2 x10_2).f0) true _ A26.out).mono ?_); rintro e w' ⟨rfl, ⟨nd, rfl⟩⟩; have p326 : 0 ≤ (x10_2 : Int) := of_decide_eq_true (by first | (with_reducible assumption) | assumption); have q326 : x10_2 < (l2.length : Int) := of_decide_eq_true (by first | (with_reducible assumption) | assumption); obtain ⟨ad326, e326, hx326_0, hx326_1⟩ := at_T43 HR2.out x10_2 p326 q326; obtain rfl : ad324 = ad326 := (by injection e326); replace hx326_0 := (HB.out.cell (World.block_lt_of_cell? w _ hx326_0)).trans hx326_0; replace hx326_1 := (HB.out.cell (World.block_lt_of_cell? w _ hx326_1)).trans hx326_1; replace p326 := eq_true p326; replace q326 := eq_true q326) | (go_at_call 27; (with_reducible refine (swarfref44_in.calls ((rd_T43 l2 x10_2).f1) t327 _ A28.out).mono ?_); rintro e w' ⟨rfl, ⟨nd, rfl⟩⟩))
                    go_roundg k2
                    case measure => have := HJ5.out; have := HK2.out; omega
                    case rel => exact ⟨(t327), (wrap64 (x10_2 + 1)), (by first | rfl | (simp; done) | (simp [*]; done)), (by first | rfl | (simp; done) | (simp [*]; done)), H', ⟨by have := HJ5.out; have := HK2.out; omega⟩, ⟨by (with_reducible repeat (first | refine blk_drewN ?_ _ | refine blk_drew ?_ | refine blk_alloc ?_ _)); exact BK318.out⟩, ⟨by (with_reducible repeat (first | refine blk_drewN ?_ _ | refine blk_drew ?_ | refine blk_alloc ?_ _)); exact BK319.out⟩, ⟨by repeat (first | (with_reducible first | exact HB.out | apply below_alloc | apply pw_below_drewN | apply below_drew1 | refine below_set ?_ GE318.out | refine below_set ?_ GE319.out) | exact HB.out)⟩⟩
                  · replace c27 := Bool.eq_false_iff.mpr c27
                    subst c27
                    have H1 : (swarfref44_Expand.l0 k2 l2 false (wrap64 (x10_2 + 1)) a0_0 a0_1 a0_2 a0_3 a0_4 a0_5 a0_6 a1_0 a1_1 a1_2) = some (r1, r2) := by rw [if_neg (show ¬ (false = true) by decide)] at H; exact H
                    clear H
                    have H := H1
                    clear H1
                    have H' := Aside0.mk H
                    clear H
                    have p324 : 0 ≤ (x10_2 : Int) := of_decide_eq_true (by first | (with_reducible assumption) | assumption)
                    have q324 : x10_2 < (l2.length : Int) := of_decide_eq_true (by first | (with_reducible assumption) | assumption)
                    obtain ⟨ad324, e324, hx324_0, hx324_1⟩ := at_T43 HR2.out x10_2 p324 q324
                    cases e324
                    replace hx324_0 := (HB.out.cell (World.block_lt_of_cell? w _ hx324_0)).trans hx324_0
                    replace hx324_1 := (HB.out.cell (World.block_lt_of_cell? w _ hx324_1)).trans hx324_1
                    replace p324 := eq_true p324
                    replace q324 := eq_true q324
                    go_wp2_with (first | (go_at_call 27; (with_reducible refine (swarfref44_in.calls ((rd_T43 l2 x10_2).f0) false _ A26.out).mono ?_); rintro e w' ⟨rfl, ⟨nd, rfl⟩⟩))
                    go_roundg k2
                    case measure => have := HJ5.out; have := HK2.out; omega
                    case rel => exact ⟨(false), (wrap64 (x10_2 + 1)), (by first | rfl | (simp; done) | (simp [*]; done)), (by first | rfl | (simp; done) | (simp [*]; done)), H', ⟨by have := HJ5.out; have := HK2.out; omega⟩, ⟨by (with_reducible repeat (first | refine blk_drewN ?_ _ | refine blk_drew ?_ | refine blk_alloc ?_ _)); exact BK318.out⟩, ⟨by (with_reducible repeat (first | refine blk_drewN ?_ _ | refine blk_drew ?_ | refine blk_alloc ?_ _)); exact BK319.out⟩, ⟨by repeat (first | (with_reducible first | exact HB.out | apply below_alloc | apply pw_below_drewN | apply below_drew1 | refine below_set ?_ GE318.out | refine below_set ?_ GE319.out) | exact HB.out)⟩⟩
                · rw [if_neg c25] at H
                  exact absurd H (by simp)
              · replace c24 := Bool.eq_false_iff.mpr c24
                subst c24
                have H1 : (swarfref44_Expand.l0 k2 l2 false (wrap64 (x10_2 + 1)) a0_0 a0_1 a0_2 a0_3 a0_4 a0_5 a0_6 a1_0 a1_1 a1_2) = some (r1, r2) := by rw [if_neg (show ¬ (false = true) by decide)] at H; exact H
                clear H
                have H := H1
                clear H1
                have H' := Aside0.mk H
                clear H
                go_wp2
                go_roundg k2
                case measure => have := HJ5.out; have := HK2.out; omega
                case rel => exact ⟨(false), (wrap64 (x10_2 + 1)), (by first | rfl | (simp; done) | (simp [*]; done)), (by first | rfl | (simp; done) | (simp [*]; done)), H', ⟨by have := HJ5.out; have := HK2.out; omega⟩, ⟨by (with_reducible repeat (first | refine blk_drewN ?_ _ | refine blk_drew ?_ | refine blk_alloc ?_ _)); exact BK318.out⟩, ⟨by (with_reducible repeat (first | refine blk_drewN ?_ _ | refine blk_drew ?_ | refine blk_alloc ?_ _)); exact BK319.out⟩, ⟨by repeat (first | (with_reducible first | exact HB.out | apply below_alloc | apply pw_below_drewN | apply below_drew1 | refine below_set ?_ GE318.out | refine below_set ?_ GE319.out) | exact HB.out)⟩⟩
            · rw [if_neg c23] at H
              have c23b0 : decide (x10_2 < (l2.length : Int)) = false := decide_eq_false c23
              clear c23
              by_cases c29 : x9_2 = true
              · subst c29
                have H1 : (swarfref44_Expand.l1 k2 l2 0 a0_0 a0_1 a0_2 a0_3 a0_4 a0_5 a0_6 a1_0 a1_1 a1_2 ([] : List (S45))) = some (r1, r2) := by rw [if_pos rfl] at H; exact H
                clear H
                have H := H1
                clear H1
                have H' := Aside0.mk H
                clear H
                have hnb30 := NB319_318.out
                have hnc30 := NB318_319.out
                have hcz31_0 : wr.cell? ⟨gb319, 0, none⟩ = some (.int .i64 a1_0) := (blk_cell BK319.out 0).trans rfl
                have hcz31_1 : wr.cell? ⟨gb319, 1, none⟩ = some (.int .i64 a1_1) := (blk_cell BK319.out 1).trans rfl
                have hcz31_2 : wr.cell? ⟨gb319, 2, none⟩ = some (.int .i64 a1_2) := (blk_cell BK319.out 2).trans rfl
                have hfz31_0 := blk_frozen BK319.out 0
                have hfz31_1 := blk_frozen BK319.out 1
                have hfz31_2 := blk_frozen BK319.out 2
                go_wp2_with (first | ((with_reducible refine gate_dst (N := 11) rfl ?_); refine box_event ?hg (N := 11) ?hd (cs := #[.int .i64 0, .int .i64 0, .int .i64 0, .slice none 0 0]) (t := 73) ?hr ?_; (case hd => rfl); (case hg => rfl); (case hr => first | (go_simp; done) | (go_simp; rfl)); intro gb328 hg w32 hbox hb; have n0_ := Aside0.mk (blk_below (g := gb318) (o := .cells #[.int .i64 a0_0, .int .i64 a0_1, .int .i64 a0_2, .int .i64 a0_3, .int .i64 a0_4, .int .i64 a0_5, .bool a0_6] 23 (0, 0)) (by (with_reducible repeat (first | refine blk_drewN ?_ _ | refine blk_drew ?_ | refine blk_alloc ?_ _)); exact BK318.out) hb); have n1_ := Aside0.mk (blk_below (g := gb319) (o := .cells #[.int .i64 a1_0, .int .i64 a1_1, .int .i64 a1_2] 36 (0, 0)) (by (with_reducible repeat (first | refine blk_drewN ?_ _ | refine blk_drew ?_ | refine blk_alloc ?_ _)); exact BK319.out) hb); have n2_ := Aside0.mk (below_step (by repeat (first | (with_reducible first | exact HB.out | apply below_alloc | apply pw_below_drewN | apply below_drew1 | refine below_set ?_ GE318.out | refine below_set ?_ GE319.out) | exact HB.out)) hb); have n3_ := Aside0.mk (hbox); have n4_ := Aside0.mk ((by rw [hg]; exact (below_size (by repeat (first | (with_reducible first | exact HB.out | apply below_alloc | apply pw_below_drewN | apply below_drew1 | refine below_set ?_ GE318.out | refine below_set ?_ GE319.out) | exact HB.out))) : w.heap.size ≤ gb328)); have n5_ := Aside0.mk ((by rw [hg]; exact (below_size (by repeat (first | (with_reducible first | exact HB.out | apply below_alloc | apply pw_below_drewN | apply below_drew1 | refine below_set ?_ GE318.out | refine below_set ?_ GE319.out) | exact HB.out))) : w.heap.size ≤ gb328)); have n6_ := Aside0.mk ((by rw [hg]; exact Nat.ne_of_lt (blk_lt (g := gb318) (o := .cells #[.int .i64 a0_0, .int .i64 a0_1, .int .i64 a0_2, .int .i64 a0_3, .int .i64 a0_4, .int .i64 a0_5, .bool a0_6] 23 (0, 0)) (by (with_reducible repeat (first | refine blk_drewN ?_ _ | refine blk_drew ?_ | refine blk_alloc ?_ _)); exact BK318.out)) : gb318 ≠ gb328)); have n7_ := Aside0.mk ((by rw [hg]; exact Nat.ne_of_gt (blk_lt (g := gb318) (o := .cells #[.int .i64 a0_0, .int .i64 a0_1, .int .i64 a0_2, .int .i64 a0_3, .int .i64 a0_4, .int .i64 a0_5, .bool a0_6] 23 (0, 0)) (by (with_reducible repeat (first | refine blk_drewN ?_ _ | refine blk_drew ?_ | refine blk_alloc ?_ _)); exact BK318.out)) : gb328 ≠ gb318)); have n8_ := Aside0.mk ((by rw [hg]; exact Nat.ne_of_lt (blk_lt (g := gb319) (o := .cells #[.int .i64 a1_0, .int .i64 a1_1, .int .i64 a1_2] 36 (0, 0)) (by (with_reducible repeat (first | refine blk_drewN ?_ _ | refine blk_drew ?_ | refine blk_alloc ?_ _)); exact BK319.out)) : gb319 ≠ gb328)); have n9_ := Aside0.mk ((by rw [hg]; exact Nat.ne_of_gt (blk_lt (g := gb319) (o := .cells #[.int .i64 a1_0, .int .i64 a1_1, .int .i64 a1_2] 36 (0, 0)) (by (with_reducible repeat (first | refine blk_drewN ?_ _ | refine blk_drew ?_ | refine blk_alloc ?_ _)); exact BK319.out)) : gb328 ≠ gb319)); clear BK318; clear BK319; clear HB; have BK318 := n0_; have BK319 := n1_; have HB := n2_; have BK328 := n3_; have GW328 := n4_; have GE328 := n5_; have NB318_328 := n6_; have NB328_318 := n7_; have NB319_328 := n8_; have NB328_319 := n9_; clear n0_ n1_ n2_ n3_ n4_ n5_ n6_ n7_ n8_ n9_; clear hb hbox hg; have hnb33 := NB328_318.out; have hnc33 := NB318_328.out; have hnb34 := NB328_319.out; have hnc34 := NB319_328.out; have hcz35_0 : w32.cell? ⟨gb328, 0, none⟩ = some (.int .i64 0) := (blk_cell BK328.out 0).trans rfl; have hcz35_1 : w32.cell? ⟨gb328, 1, none⟩ = some (.int .i64 0) := (blk_cell BK328.out 1).trans rfl; have hcz35_2 : w32.cell? ⟨gb328, 2, none⟩ = some (.int .i64 0) := (blk_cell BK328.out 2).trans rfl; have hcz35_3 : w32.cell? ⟨gb328, 3, none⟩ = some (.slice none 0 0) := (blk_cell BK328.out 3).trans rfl; have hfz35_0 := blk_frozen BK328.out 0; have hfz35_1 := blk_frozen BK328.out 1; have hfz35_2 := blk_frozen BK328.out 2; have hfz35_3 := blk_frozen BK328.out 3))
                go_loopg [12] k2 (fun kq v12 w' => ∃ (x12_3 : Int) (x329000_3 : Int) (x329001_3 : Int) (x329002_3 : Int) (x329003_3 : List (S45)) (u329003 : Value), v12 = .int .i64 x12_3 ∧ Aside0 (swarfref44_Expand.l1 kq l2 x12_3 a0_0 a0_1 a0_2 a0_3 a0_4 a0_5 a0_6 x329000_3 x329001_3 x329002_3 x329003_3 = some (r1, r2)) ∧ Aside0 (kq ≤ k2) ∧ Aside0 (Kd.R k45 45 w' w.heap.size (fun _ => True) u329003 x329003_3) ∧ Aside0 (w'.heap[gb318]? = some (.cells #[.int .i64 a0_0, .int .i64 a0_1, .int .i64 a0_2, .int .i64 a0_3, .int .i64 a0_4, .int .i64 a0_5, .bool a0_6] 23 (0, 0))) ∧ Aside0 (w'.heap[gb319]? = some (.cells #[.int .i64 a1_0, .int .i64 a1_1, .int .i64 a1_2] 36 (0, 0))) ∧ Aside0 (w'.heap[gb328]? = some (.cells #[.int .i64 x329000_3, .int .i64 x329001_3, .int .i64 x329002_3, u329003] 73 (0, 0))) ∧ Aside0 (Below w.heap.size w w'))
                case atStart => exact ⟨(0), (a1_0), (a1_1), (a1_2), (([] : List (S45))), (.slice none 0 0), (by first | rfl | (simp; done) | (simp [*]; done)), H', ⟨Nat.le_refl _⟩, ⟨by first | exact Kd.R_nil _ _ _ _ _ | exact Kd.N_nil _ _ _ _ _ | exact Kd.V_nil _ _ _ _ _ | exact Kd.Q_nil _ _ _ _ _ | exact Kd.S_nil _ _ _ _ _⟩, ⟨by (with_reducible repeat (first | refine blk_drewN ?_ _ | refine blk_drew ?_ | refine blk_alloc ?_ _)); refine blk_far ?_ NB318_328.out _; (with_reducible repeat (first | refine blk_drewN ?_ _ | refine blk_drew ?_ | refine blk_alloc ?_ _)); refine blk_far ?_ NB318_328.out _; (with_reducible repeat (first | refine blk_drewN ?_ _ | refine blk_drew ?_ | refine blk_alloc ?_ _)); refine blk_far ?_ NB318_328.out _; (with_reducible repeat (first | refine blk_drewN ?_ _ | refine blk_drew ?_ | refine blk_alloc ?_ _)); refine blk_far ?_ NB318_328.out _; (with_reducible repeat (first | refine blk_drewN ?_ _ | refine blk_drew ?_ | refine blk_alloc ?_ _)); exact BK318.out⟩, ⟨by (with_reducible repeat (first | refine blk_drewN ?_ _ | refine blk_drew ?_ | refine blk_alloc ?_ _)); refine blk_far ?_ NB319_328.out _; (with_reducible repeat (first | refine blk_drewN ?_ _ | refine blk_drew ?_ | refine blk_alloc ?_ _)); refine blk_far ?_ NB319_328.out _; (with_reducible repeat (first | refine blk_drewN ?_ _ | refine blk_drew ?_ | refine blk_alloc ?_ _)); refine blk_far ?_ NB319_328.out _; (with_reducible repeat (first | refine blk_drewN ?_ _ | refine blk_drew ?_ | refine blk_alloc ?_ _)); refine blk_far ?_ NB319_328.out _; (with_reducible repeat (first | refine blk_drewN ?_ _ | refine blk_drew ?_ | refine blk_alloc ?_ _)); exact BK319.out⟩, ⟨by (with_reducible repeat (first | refine blk_drewN ?_ _ | refine blk_drew ?_ | refine blk_alloc ?_ _)); refine blk_put (cs := #[.int .i64 a1_0, .int .i64 a1_1, .int .i64 a1_2, .slice none 0 0]) ?_ 3 _ rfl; (with_reducible repeat (first | refine blk_drewN ?_ _ | refine blk_drew ?_ | refine blk_alloc ?_ _)); refine blk_put (cs := #[.int .i64 a1_0, .int .i64 a1_1, .int .i64 0, .slice none 0 0]) ?_ 2 _ rfl; (with_reducible repeat (first | refine blk_drewN ?_ _ | refine blk_drew ?_ | refine blk_alloc ?_ _)); refine blk_put (cs := #[.int .i64 a1_0, .int .i64 0, .int .i64 0, .slice none 0 0]) ?_ 1 _ rfl; (with_reducible repeat (first | refine blk_drewN ?_ _ | refine blk_drew ?_ | refine blk_alloc ?_ _)); refine blk_put (cs := #[.int .i64 0, .int .i64 0, .int .i64 0, .slice none 0 0]) ?_ 0 _ rfl; (with_reducible repeat (first | refine blk_drewN ?_ _ | refine blk_drew ?_ | refine blk_alloc ?_ _)); exact BK328.out⟩, ⟨by repeat (first | (with_reducible first | exact HB.out | apply below_alloc | apply pw_below_drewN | apply below_drew1 | refine below_set ?_ GE318.out | refine below_set ?_ GE319.out | refine below_set ?_ GE328.out) | exact HB.out)⟩⟩
                case round =>
                  clear H'
                  try clear c1
                  try clear c2
                  try clear p2
                  try clear c3
                  try clear p3
                  try clear q3
                  try clear hx3
                  try clear c5
                  try clear c5b0
                  try clear c5b1
                  try clear p6
                  try clear c9
                  try clear c13
                  try clear c15
                  try clear c17
                  try clear c19
                  try clear c21
                  try clear c23
                  try clear c23b0
                  try clear c24
                  try clear c25
                  try clear c25b0
                  try clear c27
                  try clear c29
                  try clear c30
                  try clear p32
                  try clear q32
                  try clear hx32
                  try clear c33
                  try clear c34
                  try clear hcz10_0
                  try clear hcz10_1
                  try clear hcz10_2
                  try clear hcz10_3
                  try clear hcz10_4
                  try clear hcz10_5
                  try clear hcz10_6
                  try clear hcz18_0
                  try clear hcz18_1
                  try clear hcz18_2
                  try clear hcz20_0
                  try clear hcz20_1
                  try clear hcz20_2
                  try clear hcz22_0
                  try clear hcz22_1
                  try clear hcz22_2
                  try clear hcz31_0
                  try clear hcz31_1
                  try clear hcz31_2
                  try clear hcz35_0
                  try clear hcz35_1
                  try clear hcz35_2
                  try clear hcz35_3
                  try clear hfz10_0
                  try clear hfz10_1
                  try clear hfz10_2
                  try clear hfz10_3
                  try clear hfz10_4
                  try clear hfz10_5
                  try clear hfz10_6
                  try clear hfz18_0
                  try clear hfz18_1
                  try clear hfz18_2
                  try clear hfz20_0
                  try clear hfz20_1
                  try clear hfz20_2
                  try clear hfz22_0
                  try clear hfz22_1
                  try clear hfz22_2
                  try clear hfz31_0
                  try clear hfz31_1
                  try clear hfz31_2
                  try clear hfz35_0
                  try clear hfz35_1
                  try clear hfz35_2
                  try clear hfz35_3
                  try clear hx324_0
                  try clear hx324_1
                  try clear hx326_0
                  try clear hx326_1
                  try clear p2
                  try clear p324
                  try clear p326
                  try clear q324
                  try clear q326
                  obtain ⟨x12_3, x329000_3, x329001_3, x329002_3, x329003_3, u329003, rfl, HA, HK3, HO_329003, BK318, BK319, BK328, HB⟩ := hrel
                  cases gk with
                  | zero => exact absurd HA.out (by simp [swarfref44_Expand.l1])
                  | succ k3 =>
                    have H := HA.out
                    clear HA
                    simp only [swarfref44_Expand.l1] at H
                    by_cases c36 : x12_3 < (l2.length : Int)
                    · rw [if_pos c36] at H
                      have c36b0 : decide (x12_3 < (l2.length : Int)) = true := decide_eq_true c36
                      clear c36
                      by_cases c37 : 0 ≤ x12_3
                      · rw [if_pos c37] at H
                        have c37b0 : decide (0 ≤ x12_3) = true := decide_eq_true c37
                        clear c37
                        replace H := Option.bind_eq_some_iff.mp H
                        obtain ⟨⟨t330, t331, t332, t333⟩, A380, H⟩ := H
                        replace H : (if (t333.length : Int) > 20000 then (some (([] : List (S45)), 3)) else (swarfref44_Expand.l1 k3 l2 (wrap64 (x12_3 + 1)) a0_0 a0_1 a0_2 a0_3 a0_4 a0_5 a0_6 t330 t331 t332 t333)) = some (r1, r2) := H
                        have A38 := Aside0.mk A380
                        clear A380
                        by_cases c39 : (t333.length : Int) > 20000
                        · rw [if_pos c39] at H
                          have c39b0 : decide (20000 < (t333.length : Int)) = true := decide_eq_true c39
                          have c39b1 : decide (20000 < t333.length) = true := decide_eq_true (by omega)
                          clear c39
                          simp only [Option.some.injEq, Prod.mk.injEq] at H
                          obtain ⟨rfl, rfl⟩ := H
                          try go_wp2
                          have n0_ := Aside0.mk (Kd.R_drew HO_329003.out)
                          have n1_ := Aside0.mk (blk_drew BK318.out)
                          have n2_ := Aside0.mk (blk_drew BK319.out)
                          have n3_ := Aside0.mk (blk_drew BK328.out)
                          have n4_ := Aside0.mk (below_drew1 HB.out)
                          clear HO_329003
                          clear BK318
                          clear BK319
                          clear BK328
                          clear HB
                          have HO_329003 := n0_
                          have BK318 := n1_
                          have BK319 := n2_
                          have BK328 := n3_
                          have HB := n4_
                          clear n0_ n1_ n2_ n3_ n4_
                          have p329 : 0 ≤ (x12_3 : Int) := of_decide_eq_true (by first | (with_reducible assumption) | assumption)
                          have q329 : x12_3 < (l2.length : Int) := of_decide_eq_true (by first | (with_reducible assumption) | assumption)
                          obtain ⟨ad329, e329, hx329_0, hx329_1⟩ := at_T43 HR2.out x12_3 p329 q329
                          have hw329_1 := hx329_1
                          have hw329_0 := hx329_0
                          cases e329
                          replace hx329_0 := (HB.out.cell (World.block_lt_of_cell? w _ hx329_0)).trans hx329_0
                          replace hx329_1 := (HB.out.cell (World.block_lt_of_cell? w _ hx329_1)).trans hx329_1
                          replace p329 := eq_true p329
                          replace q329 := eq_true q329
                          obtain ⟨Ao41, co41, eo41⟩ := Kd.R_slice HO_329003.out
                          (first | subst eo41 | (injection eo41 with f1_ f2_ f3_; have f4_ := f1_.symm; have f5_ := f3_.symm; clear f1_ f2_ f3_; subst f4_; subst f5_))
                          refine start_ (n := 8) (S := fun w' => w'.cell? ⟨gb318, 0, none⟩ = some (.int .i64 a0_0) ∧ w'.cell? ⟨gb318, 1, none⟩ = some (.int .i64 a0_1) ∧ w'.cell? ⟨gb318, 2, none⟩ = some (.int .i64 a0_2) ∧ w'.cell? ⟨gb318, 3, none⟩ = some (.int .i64 a0_3) ∧ w'.cell? ⟨gb318, 4, none⟩ = some (.int .i64 a0_4) ∧ w'.cell? ⟨gb318, 5, none⟩ = some (.int .i64 a0_5) ∧ w'.cell? ⟨gb318, 6, none⟩ = some (.bool a0_6) ∧ w'.cell? ⟨gb328, 0, none⟩ = some (.int .i64 x329000_3) ∧ w'.cell? ⟨gb328, 1, none⟩ = some (.int .i64 x329001_3) ∧ w'.cell? ⟨gb328, 2, none⟩ = some (.int .i64 x329002_3) ∧ w'.cell? ⟨gb328, 3, none⟩ = some (.slice Ao41 x329003_3.length co41) ∧ w'.cell? (ad329.add ((x12_3).toNat * 2)) = some (.int .i64 ((rd_T43 l2 x12_3).f0)) ∧ w'.cell? ⟨(ad329.add ((x12_3).toNat * 2)).block, (ad329.add ((x12_3).toNat * 2)).off + 1, none⟩ = some (.int .i64 ((rd_T43 l2 x12_3).f1))) (ds := [7]) #[false, false, false, false, false, false, false, false] (by kernel_rfl) rfl rfl ⟨(blk_cell BK318.out 0).trans rfl, (blk_cell BK318.out 1).trans rfl, (blk_cell BK318.out 2).trans rfl, (blk_cell BK318.out 3).trans rfl, (blk_cell BK318.out 4).trans rfl, (blk_cell BK318.out 5).trans rfl, (blk_cell BK318.out 6).trans rfl, (blk_cell BK328.out 0).trans rfl, (blk_cell BK328.out 1).trans rfl, (blk_cell BK328.out 2).trans rfl, (blk_cell BK328.out 3).trans rfl, ((HB.out.cell (World.block_lt_of_cell? w _ hw329_0)).trans hw329_0), ((HB.out.cell (World.block_lt_of_cell? w _ hw329_1)).trans hw329_1)⟩ (fun hHeld => ?_); refine with_tabW swarfref44_Expand.tab15 swarfref44_Expand.bits15 (fun HT_ HW_ => ?_)
                          generalize wr.drew = w40 at HO_329003 BK318 BK319 BK328 HB hx329_0 hx329_1 hHeld ⊢
                          refine pure_ (i := 2) (N := some 66) (v := ?_) (a' := ?_) #[false, false, true, false, false, false, false, false] rfl rfl (any_of HT_.out (by kernel_rfl)) (fun _ _ _ h => h) (Or.inl ⟨by rfl, ?_⟩) ?_ ?_
                          rotate_left
                          · intro w'
                            go_simp
                            with_reducible rfl
                          rotate_left
                          · simp only [Act.put, List.setIfInBounds_toArray, List.set_cons_zero, List.set_cons_succ, i64_w, i32_w]
                            rfl
                          refine pure_ (i := 3) (N := some 67) (v := ?_) (a' := ?_) #[false, false, true, true, false, false, false, false] rfl rfl (any_of HT_.out (by kernel_rfl)) (fun _ _ _ h => h) (Or.inl ⟨by rfl, ?_⟩) ?_ ?_
                          rotate_left
                          · intro w'
                            go_simp
                            with_reducible rfl
                          rotate_left
                          · simp only [Act.put, List.setIfInBounds_toArray, List.set_cons_zero, List.set_cons_succ, i64_w, i32_w]
                            rfl
                          refine pure_ (i := 4) (N := some 68) (v := ?_) (a' := ?_) #[false, false, true, true, true, false, false, false] rfl rfl (any_of HT_.out (by kernel_rfl)) (fun _ _ _ h => h) (Or.inl ⟨by rfl, ?_⟩) ?_ ?_
                          rotate_left
                          · intro w'
                            go_simp
                            with_reducible rfl
                          rotate_left
                          · simp only [Act.put, List.setIfInBounds_toArray, List.set_cons_zero, List.set_cons_succ, i64_w, i32_w]
                            rfl
                          refine take_ (i := 0) (N := some 64) (v := ?_) (a' := ?_) #[true, false, true, true, true, false, false, false] rfl rfl (take_ofW HT_.out HW_.out (by kernel_rfl)) (fun _ _ _ h => h) (Or.inl ⟨by rfl, ?_⟩) hHeld ?_ ?_
                          rotate_left
                          · rintro w' ⟨s0, s1, s2, s3, s4, s5, s6, s7, s8, s9, s10, s11, s12⟩
                            go_simp
                            with_reducible rfl
                          rotate_left
                          · simp only [Act.put, List.setIfInBounds_toArray, List.set_cons_zero, List.set_cons_succ, i64_w, i32_w]
                            rfl
                          refine take_ (i := 1) (N := some 65) (v := ?_) (a' := ?_) #[true, true, true, true, true, false, false, false] rfl rfl (take_ofW HT_.out HW_.out (by kernel_rfl)) (fun _ _ _ h => h) (Or.inl ⟨by rfl, ?_⟩) hHeld ?_ ?_
                          rotate_left
                          · rintro w' ⟨s0, s1, s2, s3, s4, s5, s6, s7, s8, s9, s10, s11, s12⟩
                            go_simp
                            with_reducible rfl
                          rotate_left
                          · simp only [Act.put, List.setIfInBounds_toArray, List.set_cons_zero, List.set_cons_succ, i64_w, i32_w]
                            rfl
                          refine take_ (i := 5) (N := some 69) (v := ?_) (a' := ?_) #[true, true, true, true, true, true, false, false] rfl rfl (take_ofW HT_.out HW_.out (by kernel_rfl)) (fun _ _ _ h => h) (Or.inl ⟨by rfl, ?_⟩) hHeld ?_ ?_
                          rotate_left
                          · rintro w' ⟨s0, s1, s2, s3, s4, s5, s6, s7, s8, s9, s10, s11, s12⟩
                            go_simp
                            with_reducible rfl
                          rotate_left
                          · simp only [Act.put, List.setIfInBounds_toArray, List.set_cons_zero, List.set_cons_succ, i64_w, i32_w]
                            rfl
                          refine one_ (i := 6) (N := some 70) #[true, true, true, true, true, true, true, false] rfl rfl (one_of HT_.out (by kernel_rfl)) (by decide) (fun K hK => ?_)
                          refine goes_ Try.func29 (by kernel_rfl) rfl #[.agg #[.int .i64 a0_0, .int .i64 a0_1, .int .i64 a0_2, .int .i64 a0_3, .int .i64 a0_4, .int .i64 a0_5, .bool a0_6], .agg #[.int .i64 x329000_3, .int .i64 x329001_3, .int .i64 x329002_3, .slice Ao41 x329003_3.length co41], .agg #[.int .i64 ((rd_T43 l2 x12_3).f0), .int .i64 ((rd_T43 l2 x12_3).f1)]] (by rfl) rfl rfl (by (try simp only [List.map_toArray, List.map_cons, List.map_nil]); first | done | rfl | (simp only [List.length_drop, List.length_take]; rfl)) ?_
                          with_reducible refine (swarfref44_one.calls k3 a0_0 a0_1 a0_2 a0_3 a0_4 a0_5 a0_6 x329000_3 x329001_3 x329002_3 (fun k_ => some k_ = (.slice Ao41 x329003_3.length co41 : Value).ownBlock) (.slice Ao41 x329003_3.length co41) x329003_3 ((rd_T43 l2 x12_3).f0) ((rd_T43 l2 x12_3).f1) t330 t331 t332 t333 w _ ?side1 ?side2 A38.out).mono ?_
                          (case side1 => repeat (first | (with_reducible first | exact HB.out | apply below_alloc | apply pw_below_drewN | apply below_drew1 | refine below_set ?_ GE318.out | refine below_set ?_ GE319.out | refine below_set ?_ GE328.out) | exact HB.out))
                          (case side2 => exact Kd.R_tight rfl HO_329003.out)
                          rintro e w42 ⟨v334, rfl, ho0, hb, hkp⟩
                          refine ⟨_, rfl, ?_⟩
                          have n0_ := Aside0.mk (blk_kept (by (with_reducible repeat (first | refine blk_drewN ?_ _ | refine blk_drew ?_ | refine blk_alloc ?_ _)); exact BK318.out) hkp (fun hs_ => (fun e_ => (Kd.R_ne HO_329003.out BK318.out (by decide)) e_) hs_))
                          have n1_ := Aside0.mk (blk_kept (by (with_reducible repeat (first | refine blk_drewN ?_ _ | refine blk_drew ?_ | refine blk_alloc ?_ _)); exact BK319.out) hkp (fun hs_ => (fun e_ => (Kd.R_ne HO_329003.out BK319.out (by decide)) e_) hs_))
                          have n2_ := Aside0.mk (blk_kept (by (with_reducible repeat (first | refine blk_drewN ?_ _ | refine blk_drew ?_ | refine blk_alloc ?_ _)); exact BK328.out) hkp (fun hs_ => (fun e_ => (Kd.R_ne HO_329003.out BK328.out (by decide)) e_) hs_))
                          have n3_ := Aside0.mk (Kd.R_mono (ok' := fun k_ => True) ho0 (fun k_ hk_ => trivial))
                          have n4_ := Aside0.mk (hb)
                          clear BK318
                          clear BK319
                          clear BK328
                          clear HB
                          clear HO_329003
                          have BK318 := n0_
                          have BK319 := n1_
                          have BK328 := n2_
                          have HO335 := n3_
                          have HB := n4_
                          clear n0_ n1_ n2_ n3_ n4_
                          (try clear hb)
                          (try clear hkp)
                          (try clear ho0)
                          obtain ⟨Ao46, co46, eo46⟩ := Kd.R_slice HO335.out
                          (first | subst eo46 | (injection eo46 with f1_ f2_ f3_; have f4_ := f1_.symm; have f5_ := f3_.symm; clear f1_ f2_ f3_; subst f4_; subst f5_))
                          refine hK.out _ _ ⟨(blk_cell BK318.out 0).trans rfl, (blk_cell BK318.out 1).trans rfl, (blk_cell BK318.out 2).trans rfl, (blk_cell BK318.out 3).trans rfl, (blk_cell BK318.out 4).trans rfl, (blk_cell BK318.out 5).trans rfl, (blk_cell BK318.out 6).trans rfl, (blk_cell BK328.out 0).trans rfl, (blk_cell BK328.out 1).trans rfl, (blk_cell BK328.out 2).trans rfl, (blk_cell BK328.out 3).trans rfl, ((HB.out.cell (World.block_lt_of_cell? w _ hw329_0)).trans hw329_0), ((HB.out.cell (World.block_lt_of_cell? w _ hw329_1)).trans hw329_1)⟩ (fun hHeld => ?_)
                          clear hK K
                          refine norm_ (a' := ?_) ?_ ?_
                          rotate_left
                          · show Act.put _ (some 70) _ = _
                            simp only [Act.put, List.setIfInBounds_toArray, List.set_cons_zero, List.set_cons_succ, i64_w, i32_w]
                            rfl
                          refine last_ (i := 7) (N := none) #[true, true, true, true, true, true, true, true] rfl rfl (one_of HT_.out (by kernel_rfl)) (by decide) (fun K hK => ?_)
                          have hs43 : w42.cell? ⟨gb328, 0, none⟩ = some (.int .i64 x329000_3) := (blk_cell BK328.out 0).trans rfl
                          have hfs43 := blk_frozen BK328.out 0
                          have hns43_0 := NB318_328.out
                          have hns43_1 := NB319_328.out
                          have hms43_0 := NB328_318.out
                          have hms43_1 := NB328_319.out
                          have hs44 : w42.cell? ⟨gb328, 1, none⟩ = some (.int .i64 x329001_3) := (blk_cell BK328.out 1).trans rfl
                          have hfs44 := blk_frozen BK328.out 1
                          have hns44_0 := NB318_328.out
                          have hns44_1 := NB319_328.out
                          have hms44_0 := NB328_318.out
                          have hms44_1 := NB328_319.out
                          have hs45 : w42.cell? ⟨gb328, 2, none⟩ = some (.int .i64 x329002_3) := (blk_cell BK328.out 2).trans rfl
                          have hfs45 := blk_frozen BK328.out 2
                          have hns45_0 := NB318_328.out
                          have hns45_1 := NB319_328.out
                          have hms45_0 := NB328_318.out
                          have hms45_1 := NB328_319.out
                          have hs47 : w42.cell? ⟨gb328, 3, none⟩ = some (.slice Ao41 x329003_3.length co41) := (blk_cell BK328.out 3).trans rfl
                          have hfs47 := blk_frozen BK328.out 3
                          have hns47_0 := NB318_328.out
                          have hns47_1 := NB319_328.out
                          have hms47_0 := NB328_318.out
                          have hms47_1 := NB328_319.out
                          refine skip_ (w1 := ?_) (by rfl) rfl ?_ ?_
                          rotate_left
                          · go_simp
                            rfl
                          refine hK.out _ _ ?_
                          clear hK K
                          refine done_ (done_of HT_.out (by kernel_rfl)) ?_
                          have hnb48 := NB328_318.out
                          have hnc48 := NB318_328.out
                          have hnb49 := NB328_319.out
                          have hnc49 := NB319_328.out
                          have hcz50_0 : w42.cell? ⟨gb328, 0, none⟩ = some (.int .i64 x329000_3) := (blk_cell BK328.out 0).trans rfl
                          have hcz50_1 : w42.cell? ⟨gb328, 1, none⟩ = some (.int .i64 x329001_3) := (blk_cell BK328.out 1).trans rfl
                          have hcz50_2 : w42.cell? ⟨gb328, 2, none⟩ = some (.int .i64 x329002_3) := (blk_cell BK328.out 2).trans rfl
                          have hcz50_3 : w42.cell? ⟨gb328, 3, none⟩ = some (.slice Ao41 x329003_3.length co41) := (blk_cell BK328.out 3).trans rfl
                          have hfz50_0 := blk_frozen BK328.out 0
                          have hfz50_1 := blk_frozen BK328.out 1
                          have hfz50_2 := blk_frozen BK328.out 2
                          have hfz50_3 := blk_frozen BK328.out 3
                          try go_wp2
                          go_ret2
                          exact ⟨_, by first | rfl | (simp [errW_none, errW_some] <;> rfl) | (simp [*, errW_none, errW_some] <;> rfl), by first | exact Kd.R_nil _ _ _ _ _ | exact Kd.N_nil _ _ _ _ _ | exact Kd.V_nil _ _ _ _ _ | exact Kd.Q_nil _ _ _ _ _ | exact Kd.S_nil _ _ _ _ _, by repeat (first | (with_reducible first | exact HB.out | apply below_alloc | apply pw_below_drewN | apply below_drew1 | refine below_set ?_ GE318.out | refine below_set ?_ GE319.out | refine below_set ?_ GE328.out) | exact HB.out)⟩
                        · rw [if_neg c39] at H
                          have c39b0 : decide (20000 < (t333.length : Int)) = false := decide_eq_false c39
                          have c39b1 : decide (20000 < t333.length) = false := decide_eq_false (by omega)
                          clear c39
                          have H' := Aside0.mk H
                          clear H
                          try go_wp2
                          have n0_ := Aside0.mk (Kd.R_drew HO_329003.out)
                          have n1_ := Aside0.mk (blk_drew BK318.out)
                          have n2_ := Aside0.mk (blk_drew BK319.out)
                          have n3_ := Aside0.mk (blk_drew BK328.out)
                          have n4_ := Aside0.mk (below_drew1 HB.out)
                          clear HO_329003
                          clear BK318
                          clear BK319
                          clear BK328
                          clear HB
                          have HO_329003 := n0_
                          have BK318 := n1_
                          have BK319 := n2_
                          have BK328 := n3_
                          have HB := n4_
                          clear n0_ n1_ n2_ n3_ n4_
                          have p329 : 0 ≤ (x12_3 : Int) := of_decide_eq_true (by first | (with_reducible assumption) | assumption)
                          have q329 : x12_3 < (l2.length : Int) := of_decide_eq_true (by first | (with_reducible assumption) | assumption)
                          obtain ⟨ad329, e329, hx329_0, hx329_1⟩ := at_T43 HR2.out x12_3 p329 q329
                          have hw329_1 := hx329_1
                          have hw329_0 := hx329_0
                          cases e329
                          replace hx329_0 := (HB.out.cell (World.block_lt_of_cell? w _ hx329_0)).trans hx329_0
                          replace hx329_1 := (HB.out.cell (World.block_lt_of_cell? w _ hx329_1)).trans hx329_1
                          replace p329 := eq_true p329
                          replace q329 := eq_true q329
                          obtain ⟨Ao52, co52, eo52⟩ := Kd.R_slice HO_329003.out
                          (first | subst eo52 | (injection eo52 with f1_ f2_ f3_; have f4_ := f1_.symm; have f5_ := f3_.symm; clear f1_ f2_ f3_; subst f4_; subst f5_))
                          refine start_ (n := 8) (S := fun w' => w'.cell? ⟨gb318, 0, none⟩ = some (.int .i64 a0_0) ∧ w'.cell? ⟨gb318, 1, none⟩ = some (.int .i64 a0_1) ∧ w'.cell? ⟨gb318, 2, none⟩ = some (.int .i64 a0_2) ∧ w'.cell? ⟨gb318, 3, none⟩ = some (.int .i64 a0_3) ∧ w'.cell? ⟨gb318, 4, none⟩ = some (.int .i64 a0_4) ∧ w'.cell? ⟨gb318, 5, none⟩ = some (.int .i64 a0_5) ∧ w'.cell? ⟨gb318, 6, none⟩ = some (.bool a0_6) ∧ w'.cell? ⟨gb328, 0, none⟩ = some (.int .i64 x329000_3) ∧ w'.cell? ⟨gb328, 1, none⟩ = some (.int .i64 x329001_3) ∧ w'.cell? ⟨gb328, 2, none⟩ = some (.int .i64 x329002_3) ∧ w'.cell? ⟨gb328, 3, none⟩ = some (.slice Ao52 x329003_3.length co52) ∧ w'.cell? (ad329.add ((x12_3).toNat * 2)) = some (.int .i64 ((rd_T43 l2 x12_3).f0)) ∧ w'.cell? ⟨(ad329.add ((x12_3).toNat * 2)).block, (ad329.add ((x12_3).toNat * 2)).off + 1, none⟩ = some (.int .i64 ((rd_T43 l2 x12_3).f1))) (ds := [7]) #[false, false, false, false, false, false, false, false] (by kernel_rfl) rfl rfl ⟨(blk_cell BK318.out 0).trans rfl, (blk_cell BK318.out 1).trans rfl, (blk_cell BK318.out 2).trans rfl, (blk_cell BK318.out 3).trans rfl, (blk_cell BK318.out 4).trans rfl, (blk_cell BK318.out 5).trans rfl, (blk_cell BK318.out 6).trans rfl, (blk_cell BK328.out 0).trans rfl, (blk_cell BK328.out 1).trans rfl, (blk_cell BK328.out 2).trans rfl, (blk_cell BK328.out 3).trans rfl, ((HB.out.cell (World.block_lt_of_cell? w _ hw329_0)).trans hw329_0), ((HB.out.cell (World.block_lt_of_cell? w _ hw329_1)).trans hw329_1)⟩ (fun hHeld => ?_); refine with_tabW swarfref44_Expand.tab15 swarfref44_Expand.bits15 (fun HT_ HW_ => ?_)
                          generalize wr.drew = w51 at HO_329003 BK318 BK319 BK328 HB hx329_0 hx329_1 hHeld ⊢
                          refine pure_ (i := 2) (N := some 66) (v := ?_) (a' := ?_) #[false, false, true, false, false, false, false, false] rfl rfl (any_of HT_.out (by kernel_rfl)) (fun _ _ _ h => h) (Or.inl ⟨by rfl, ?_⟩) ?_ ?_
                          rotate_left
                          · intro w'
                            go_simp
                            with_reducible rfl
                          rotate_left
                          · simp only [Act.put, List.setIfInBounds_toArray, List.set_cons_zero, List.set_cons_succ, i64_w, i32_w]
                            rfl
                          refine pure_ (i := 3) (N := some 67) (v := ?_) (a' := ?_) #[false, false, true, true, false, false, false, false] rfl rfl (any_of HT_.out (by kernel_rfl)) (fun _ _ _ h => h) (Or.inl ⟨by rfl, ?_⟩) ?_ ?_
                          rotate_left
                          · intro w'
                            go_simp
                            with_reducible rfl
                          rotate_left
                          · simp only [Act.put, List.setIfInBounds_toArray, List.set_cons_zero, List.set_cons_succ, i64_w, i32_w]
                            rfl
                          refine pure_ (i := 4) (N := some 68) (v := ?_) (a' := ?_) #[false, false, true, true, true, false, false, false] rfl rfl (any_of HT_.out (by kernel_rfl)) (fun _ _ _ h => h) (Or.inl ⟨by rfl, ?_⟩) ?_ ?_
                          rotate_left
                          · intro w'
                            go_simp
                            with_reducible rfl
                          rotate_left
                          · simp only [Act.put, List.setIfInBounds_toArray, List.set_cons_zero, List.set_cons_succ, i64_w, i32_w]
                            rfl
                          refine take_ (i := 0) (N := some 64) (v := ?_) (a' := ?_) #[true, false, true, true, true, false, false, false] rfl rfl (take_ofW HT_.out HW_.out (by kernel_rfl)) (fun _ _ _ h => h) (Or.inl ⟨by rfl, ?_⟩) hHeld ?_ ?_
                          rotate_left
                          · rintro w' ⟨s0, s1, s2, s3, s4, s5, s6, s7, s8, s9, s10, s11, s12⟩
                            go_simp
                            with_reducible rfl
                          rotate_left
                          · simp only [Act.put, List.setIfInBounds_toArray, List.set_cons_zero, List.set_cons_succ, i64_w, i32_w]
                            rfl
                          refine take_ (i := 1) (N := some 65) (v := ?_) (a' := ?_) #[true, true, true, true, true, false, false, false] rfl rfl (take_ofW HT_.out HW_.out (by kernel_rfl)) (fun _ _ _ h => h) (Or.inl ⟨by rfl, ?_⟩) hHeld ?_ ?_
                          rotate_left
                          · rintro w' ⟨s0, s1, s2, s3, s4, s5, s6, s7, s8, s9, s10, s11, s12⟩
                            go_simp
                            with_reducible rfl
                          rotate_left
                          · simp only [Act.put, List.setIfInBounds_toArray, List.set_cons_zero, List.set_cons_succ, i64_w, i32_w]
                            rfl
                          refine take_ (i := 5) (N := some 69) (v := ?_) (a' := ?_) #[true, true, true, true, true, true, false, false] rfl rfl (take_ofW HT_.out HW_.out (by kernel_rfl)) (fun _ _ _ h => h) (Or.inl ⟨by rfl, ?_⟩) hHeld ?_ ?_
                          rotate_left
                          · rintro w' ⟨s0, s1, s2, s3, s4, s5, s6, s7, s8, s9, s10, s11, s12⟩
                            go_simp
                            with_reducible rfl
                          rotate_left
                          · simp only [Act.put, List.setIfInBounds_toArray, List.set_cons_zero, List.set_cons_succ, i64_w, i32_w]
                            rfl
                          refine one_ (i := 6) (N := some 70) #[true, true, true, true, true, true, true, false] rfl rfl (one_of HT_.out (by kernel_rfl)) (by decide) (fun K hK => ?_)
                          refine goes_ Try.func29 (by kernel_rfl) rfl #[.agg #[.int .i64 a0_0, .int .i64 a0_1, .int .i64 a0_2, .int .i64 a0_3, .int .i64 a0_4, .int .i64 a0_5, .bool a0_6], .agg #[.int .i64 x329000_3, .int .i64 x329001_3, .int .i64 x329002_3, .slice Ao52 x329003_3.length co52], .agg #[.int .i64 ((rd_T43 l2 x12_3).f0), .int .i64 ((rd_T43 l2 x12_3).f1)]] (by rfl) rfl rfl (by (try simp only [List.map_toArray, List.map_cons, List.map_nil]); first | done | rfl | (simp only [List.length_drop, List.length_take]; rfl)) ?_
                          with_reducible refine (swarfref44_one.calls k3 a0_0 a0_1 a0_2 a0_3 a0_4 a0_5 a0_6 x329000_3 x329001_3 x329002_3 (fun k_ => some k_ = (.slice Ao52 x329003_3.length co52 : Value).ownBlock) (.slice Ao52 x329003_3.length co52) x329003_3 ((rd_T43 l2 x12_3).f0) ((rd_T43 l2 x12_3).f1) t330 t331 t332 t333 w _ ?side1 ?side2 A38.out).mono ?_
                          (case side1 => repeat (first | (with_reducible first | exact HB.out | apply below_alloc | apply pw_below_drewN | apply below_drew1 | refine below_set ?_ GE318.out | refine below_set ?_ GE319.out | refine below_set ?_ GE328.out) | exact HB.out))
                          (case side2 => exact Kd.R_tight rfl HO_329003.out)
                          rintro e w53 ⟨v334, rfl, ho0, hb, hkp⟩
                          refine ⟨_, rfl, ?_⟩
                          have n0_ := Aside0.mk (blk_kept (by (with_reducible repeat (first | refine blk_drewN ?_ _ | refine blk_drew ?_ | refine blk_alloc ?_ _)); exact BK318.out) hkp (fun hs_ => (fun e_ => (Kd.R_ne HO_329003.out BK318.out (by decide)) e_) hs_))
                          have n1_ := Aside0.mk (blk_kept (by (with_reducible repeat (first | refine blk_drewN ?_ _ | refine blk_drew ?_ | refine blk_alloc ?_ _)); exact BK319.out) hkp (fun hs_ => (fun e_ => (Kd.R_ne HO_329003.out BK319.out (by decide)) e_) hs_))
                          have n2_ := Aside0.mk (blk_kept (by (with_reducible repeat (first | refine blk_drewN ?_ _ | refine blk_drew ?_ | refine blk_alloc ?_ _)); exact BK328.out) hkp (fun hs_ => (fun e_ => (Kd.R_ne HO_329003.out BK328.out (by decide)) e_) hs_))
                          have n3_ := Aside0.mk (Kd.R_mono (ok' := fun k_ => True) ho0 (fun k_ hk_ => trivial))
                          have n4_ := Aside0.mk (hb)
                          clear BK318
                          clear BK319
                          clear BK328
                          clear HB
                          clear HO_329003
                          have BK318 := n0_
                          have BK319 := n1_
                          have BK328 := n2_
                          have HO335 := n3_
                          have HB := n4_
                          clear n0_ n1_ n2_ n3_ n4_
                          (try clear hb)
                          (try clear hkp)
                          (try clear ho0)
                          obtain ⟨Ao57, co57, eo57⟩ := Kd.R_slice HO335.out
                          (first | subst eo57 | (injection eo57 with f1_ f2_ f3_; have f4_ := f1_.symm; have f5_ := f3_.symm; clear f1_ f2_ f3_; subst f4_; subst f5_))
                          refine hK.out _ _ ⟨(blk_cell BK318.out 0).trans rfl, (blk_cell BK318.out 1).trans rfl, (blk_cell BK318.out 2).trans rfl, (blk_cell BK318.out 3).trans rfl, (blk_cell BK318.out 4).trans rfl, (blk_cell BK318.out 5).trans rfl, (blk_cell BK318.out 6).trans rfl, (blk_cell BK328.out 0).trans rfl, (blk_cell BK328.out 1).trans rfl, (blk_cell BK328.out 2).trans rfl, (blk_cell BK328.out 3).trans rfl, ((HB.out.cell (World.block_lt_of_cell? w _ hw329_0)).trans hw329_0), ((HB.out.cell (World.block_lt_of_cell? w _ hw329_1)).trans hw329_1)⟩ (fun hHeld => ?_)
                          clear hK K
                          refine norm_ (a' := ?_) ?_ ?_
                          rotate_left
                          · show Act.put _ (some 70) _ = _
                            simp only [Act.put, List.setIfInBounds_toArray, List.set_cons_zero, List.set_cons_succ, i64_w, i32_w]
                            rfl
                          refine last_ (i := 7) (N := none) #[true, true, true, true, true, true, true, true] rfl rfl (one_of HT_.out (by kernel_rfl)) (by decide) (fun K hK => ?_)
                          have hs54 : w53.cell? ⟨gb328, 0, none⟩ = some (.int .i64 x329000_3) := (blk_cell BK328.out 0).trans rfl
                          have hfs54 := blk_frozen BK328.out 0
                          have hns54_0 := NB318_328.out
                          have hns54_1 := NB319_328.out
                          have hms54_0 := NB328_318.out
                          have hms54_1 := NB328_319.out
                          have hs55 : w53.cell? ⟨gb328, 1, none⟩ = some (.int .i64 x329001_3) := (blk_cell BK328.out 1).trans rfl
                          have hfs55 := blk_frozen BK328.out 1
                          have hns55_0 := NB318_328.out
                          have hns55_1 := NB319_328.out
                          have hms55_0 := NB328_318.out
                          have hms55_1 := NB328_319.out
                          have hs56 : w53.cell? ⟨gb328, 2, none⟩ = some (.int .i64 x329002_3) := (blk_cell BK328.out 2).trans rfl
                          have hfs56 := blk_frozen BK328.out 2
                          have hns56_0 := NB318_328.out
                          have hns56_1 := NB319_328.out
                          have hms56_0 := NB328_318.out
                          have hms56_1 := NB328_319.out
                          have hs58 : w53.cell? ⟨gb328, 3, none⟩ = some (.slice Ao52 x329003_3.length co52) := (blk_cell BK328.out 3).trans rfl
                          have hfs58 := blk_frozen BK328.out 3
                          have hns58_0 := NB318_328.out
                          have hns58_1 := NB319_328.out
                          have hms58_0 := NB328_318.out
                          have hms58_1 := NB328_319.out
                          refine skip_ (w1 := ?_) (by rfl) rfl ?_ ?_
                          rotate_left
                          · go_simp
                            rfl
                          refine hK.out _ _ ?_
                          clear hK K
                          refine done_ (done_of HT_.out (by kernel_rfl)) ?_
                          have hnb59 := NB328_318.out
                          have hnc59 := NB318_328.out
                          have hnb60 := NB328_319.out
                          have hnc60 := NB319_328.out
                          have hcz61_0 : w53.cell? ⟨gb328, 0, none⟩ = some (.int .i64 x329000_3) := (blk_cell BK328.out 0).trans rfl
                          have hcz61_1 : w53.cell? ⟨gb328, 1, none⟩ = some (.int .i64 x329001_3) := (blk_cell BK328.out 1).trans rfl
                          have hcz61_2 : w53.cell? ⟨gb328, 2, none⟩ = some (.int .i64 x329002_3) := (blk_cell BK328.out 2).trans rfl
                          have hcz61_3 : w53.cell? ⟨gb328, 3, none⟩ = some (.slice Ao52 x329003_3.length co52) := (blk_cell BK328.out 3).trans rfl
                          have hfz61_0 := blk_frozen BK328.out 0
                          have hfz61_1 := blk_frozen BK328.out 1
                          have hfz61_2 := blk_frozen BK328.out 2
                          have hfz61_3 := blk_frozen BK328.out 3
                          try go_wp2
                          go_roundg k3
                          case measure => have := HJ5.out; have := HK2.out; have := HK3.out; omega
                          case rel => exact ⟨(wrap64 (x12_3 + 1)), (t330), (t331), (t332), (t333), (.slice Ao57 t333.length co57), (by first | rfl | (simp; done) | (simp [*]; done)), H', ⟨by have := HJ5.out; have := HK2.out; have := HK3.out; omega⟩, ⟨by (with_reducible repeat (first | apply Kd.R_alloc | apply Kd.R_drewN | apply Kd.R_drew)); exact Kd.R_mono (Kd.R_far (p := ⟨gb328, 3, none⟩) (Kd.R_far (p := ⟨gb328, 2, none⟩) (Kd.R_far (p := ⟨gb328, 1, none⟩) (Kd.R_far (p := ⟨gb328, 0, none⟩) (Kd.R_types HO335.out BK328.out (by decide)) (fun _ hk => hk.2) (.int .i64 t330)) (fun _ hk => hk.2) (.int .i64 t331)) (fun _ hk => hk.2) (.int .i64 t332)) (fun _ hk => hk.2) (.slice Ao57 t333.length co57)) (fun _ hk => trivial)⟩, ⟨by (with_reducible repeat (first | refine blk_drewN ?_ _ | refine blk_drew ?_ | refine blk_alloc ?_ _)); refine blk_far ?_ NB318_328.out _; (with_reducible repeat (first | refine blk_drewN ?_ _ | refine blk_drew ?_ | refine blk_alloc ?_ _)); refine blk_far ?_ NB318_328.out _; (with_reducible repeat (first | refine blk_drewN ?_ _ | refine blk_drew ?_ | refine blk_alloc ?_ _)); refine blk_far ?_ NB318_328.out _; (with_reducible repeat (first | refine blk_drewN ?_ _ | refine blk_drew ?_ | refine blk_alloc ?_ _)); refine blk_far ?_ NB318_328.out _; (with_reducible repeat (first | refine blk_drewN ?_ _ | refine blk_drew ?_ | refine blk_alloc ?_ _)); exact BK318.out⟩, ⟨by (with_reducible repeat (first | refine blk_drewN ?_ _ | refine blk_drew ?_ | refine blk_alloc ?_ _)); refine blk_far ?_ NB319_328.out _; (with_reducible repeat (first | refine blk_drewN ?_ _ | refine blk_drew ?_ | refine blk_alloc ?_ _)); refine blk_far ?_ NB319_328.out _; (with_reducible repeat (first | refine blk_drewN ?_ _ | refine blk_drew ?_ | refine blk_alloc ?_ _)); refine blk_far ?_ NB319_328.out _; (with_reducible repeat (first | refine blk_drewN ?_ _ | refine blk_drew ?_ | refine blk_alloc ?_ _)); refine blk_far ?_ NB319_328.out _; (with_reducible repeat (first | refine blk_drewN ?_ _ | refine blk_drew ?_ | refine blk_alloc ?_ _)); exact BK319.out⟩, ⟨by (with_reducible repeat (first | refine blk_drewN ?_ _ | refine blk_drew ?_ | refine blk_alloc ?_ _)); refine blk_put (cs := #[.int .i64 t330, .int .i64 t331, .int .i64 t332, .slice Ao52 x329003_3.length co52]) ?_ 3 _ rfl; (with_reducible repeat (first | refine blk_drewN ?_ _ | refine blk_drew ?_ | refine blk_alloc ?_ _)); refine blk_put (cs := #[.int .i64 t330, .int .i64 t331, .int .i64 x329002_3, .slice Ao52 x329003_3.length co52]) ?_ 2 _ rfl; (with_reducible repeat (first | refine blk_drewN ?_ _ | refine blk_drew ?_ | refine blk_alloc ?_ _)); refine blk_put (cs := #[.int .i64 t330, .int .i64 x329001_3, .int .i64 x329002_3, .slice Ao52 x329003_3.length co52]) ?_ 1 _ rfl; (with_reducible repeat (first | refine blk_drewN ?_ _ | refine blk_drew ?_ | refine blk_alloc ?_ _)); refine blk_put (cs := #[.int .i64 x329000_3, .int .i64 x329001_3, .int .i64 x329002_3, .slice Ao52 x329003_3.length co52]) ?_ 0 _ rfl; (with_reducible repeat (first | refine blk_drewN ?_ _ | refine blk_drew ?_ | refine blk_alloc ?_ _)); exact BK328.out⟩, ⟨by repeat (first | (with_reducible first | exact HB.out | apply below_alloc | apply pw_below_drewN | apply below_drew1 | refine below_set ?_ GE318.out | refine below_set ?_ GE319.out | refine below_set ?_ GE328.out) | exact HB.out)⟩⟩
                      · rw [if_neg c37] at H
                        exact absurd H (by simp)
                    · rw [if_neg c36] at H
                      have c36b0 : decide (x12_3 < (l2.length : Int)) = false := decide_eq_false c36
                      clear c36
                      simp only [Option.some.injEq, Prod.mk.injEq] at H
                      obtain ⟨rfl, rfl⟩ := H
                      have hnb62 := NB328_318.out
                      have hnc62 := NB318_328.out
                      have hnb63 := NB328_319.out
                      have hnc63 := NB319_328.out
                      have hcz64_0 : wr.cell? ⟨gb328, 0, none⟩ = some (.int .i64 x329000_3) := (blk_cell BK328.out 0).trans rfl
                      have hcz64_1 : wr.cell? ⟨gb328, 1, none⟩ = some (.int .i64 x329001_3) := (blk_cell BK328.out 1).trans rfl
                      have hcz64_2 : wr.cell? ⟨gb328, 2, none⟩ = some (.int .i64 x329002_3) := (blk_cell BK328.out 2).trans rfl
                      have hcz64_3 : wr.cell? ⟨gb328, 3, none⟩ = some (u329003) := (blk_cell BK328.out 3).trans rfl
                      have hfz64_0 := blk_frozen BK328.out 0
                      have hfz64_1 := blk_frozen BK328.out 1
                      have hfz64_2 := blk_frozen BK328.out 2
                      have hfz64_3 := blk_frozen BK328.out 3
                      go_wp2
                      go_ret2
                      exact ⟨_, by first | rfl | (simp [errW_none, errW_some] <;> rfl) | (simp [*, errW_none, errW_some] <;> rfl), by (with_reducible repeat (first | apply Kd.R_alloc | apply Kd.R_drewN | apply Kd.R_drew)); exact HO_329003.out, by repeat (first | (with_reducible first | exact HB.out | apply below_alloc | apply pw_below_drewN | apply below_drew1 | refine below_set ?_ GE318.out | refine below_set ?_ GE319.out | refine below_set ?_ GE328.out) | exact HB.out)⟩
              · replace c29 := Bool.eq_false_iff.mpr c29
                subst c29
                have H1 : (some (([] : List (S45)), 11)) = some (r1, r2) := by rw [if_neg (show ¬ (false = true) by decide)] at H; exact H
                clear H
                have H := H1
                clear H1
                simp only [Option.some.injEq, Prod.mk.injEq] at H
                obtain ⟨rfl, rfl⟩ := H
                go_wp2
                go_ret2
                exact ⟨_, by first | rfl | (simp [errW_none, errW_some] <;> rfl) | (simp [*, errW_none, errW_some] <;> rfl), by first | exact Kd.R_nil _ _ _ _ _ | exact Kd.N_nil _ _ _ _ _ | exact Kd.V_nil _ _ _ _ _ | exact Kd.Q_nil _ _ _ _ _ | exact Kd.S_nil _ _ _ _ _, by repeat (first | (with_reducible first | exact HB.out | apply below_alloc | apply pw_below_drewN | apply below_drew1 | refine below_set ?_ GE318.out | refine below_set ?_ GE319.out) | exact HB.out)⟩
  · rw [if_neg c5] at H
    have c5b0 : (t320 == 0) = false := beq_eq_false_iff_ne.mpr c5
    have c5b1 : (t320 != 0) = true := bne_iff_ne.mpr c5
    simp only [Option.some.injEq, Prod.mk.injEq] at H
    obtain ⟨rfl, rfl⟩ := H
    go_enter Try.func19, Try.ntmps19
    go_wp2_with (first | ((with_reducible refine gate_dst (N := 3) rfl ?_); refine box_event ?hg (N := 3) ?hd (cs := #[.int .i64 a0_0, .int .i64 a0_1, .int .i64 a0_2, .int .i64 a0_3, .int .i64 a0_4, .int .i64 a0_5, .bool a0_6]) (t := 23) ?hr ?_; (case hd => rfl); (case hg => rfl); (case hr => first | (go_simp; done) | (go_simp; rfl)); intro gb318 hg w65 hbox hb; have n0_ := Aside0.mk (below_step (by repeat (first | (with_reducible first | exact HB.out | apply below_alloc | apply pw_below_drewN | apply below_drew1) | exact HB.out)) hb); have n1_ := Aside0.mk (hbox); have n2_ := Aside0.mk ((by rw [hg]; exact (below_size (by repeat (first | (with_reducible first | exact HB.out | apply below_alloc | apply pw_below_drewN | apply below_drew1) | exact HB.out))) : w.heap.size ≤ gb318)); have n3_ := Aside0.mk ((by rw [hg]; exact (below_size (by repeat (first | (with_reducible first | exact HB.out | apply below_alloc | apply pw_below_drewN | apply below_drew1) | exact HB.out))) : w.heap.size ≤ gb318)); clear HB; have HB := n0_; have BK318 := n1_; have GW318 := n2_; have GE318 := n3_; clear n0_ n1_ n2_ n3_; clear hb hbox hg) | ((with_reducible refine gate_dst (N := 4) rfl ?_); refine box_event ?hg (N := 4) ?hd (cs := #[.int .i64 a1_0, .int .i64 a1_1, .int .i64 a1_2]) (t := 36) ?hr ?_; (case hd => rfl); (case hg => rfl); (case hr => first | (go_simp; done) | (go_simp; rfl)); intro gb319 hg w66 hbox hb; have n0_ := Aside0.mk (blk_below (g := gb318) (o := .cells #[.int .i64 a0_0, .int .i64 a0_1, .int .i64 a0_2, .int .i64 a0_3, .int .i64 a0_4, .int .i64 a0_5, .bool a0_6] 23 (0, 0)) (by (with_reducible repeat (first | refine blk_drewN ?_ _ | refine blk_drew ?_ | refine blk_alloc ?_ _)); exact BK318.out) hb); have n1_ := Aside0.mk (below_step (by repeat (first | (with_reducible first | exact HB.out | apply below_alloc | apply pw_below_drewN | apply below_drew1 | refine below_set ?_ GE318.out) | exact HB.out)) hb); have n2_ := Aside0.mk (hbox); have n3_ := Aside0.mk ((by rw [hg]; exact (below_size (by repeat (first | (with_reducible first | exact HB.out | apply below_alloc | apply pw_below_drewN | apply below_drew1 | refine below_set ?_ GE318.out) | exact HB.out))) : w.heap.size ≤ gb319)); have n4_ := Aside0.mk ((by rw [hg]; exact (below_size (by repeat (first | (with_reducible first | exact HB.out | apply below_alloc | apply pw_below_drewN | apply below_drew1 | refine below_set ?_ GE318.out) | exact HB.out))) : w.heap.size ≤ gb319)); have n5_ := Aside0.mk ((by rw [hg]; exact Nat.ne_of_lt (blk_lt (g := gb318) (o := .cells #[.int .i64 a0_0, .int .i64 a0_1, .int .i64 a0_2, .int .i64 a0_3, .int .i64 a0_4, .int .i64 a0_5, .bool a0_6] 23 (0, 0)) (by (with_reducible repeat (first | refine blk_drewN ?_ _ | refine blk_drew ?_ | refine blk_alloc ?_ _)); exact BK318.out)) : gb318 ≠ gb319)); have n6_ := Aside0.mk ((by rw [hg]; exact Nat.ne_of_gt (blk_lt (g := gb318) (o := .cells #[.int .i64 a0_0, .int .i64 a0_1, .int .i64 a0_2, .int .i64 a0_3, .int .i64 a0_4, .int .i64 a0_5, .bool a0_6] 23 (0, 0)) (by (with_reducible repeat (first | refine blk_drewN ?_ _ | refine blk_drew ?_ | refine blk_alloc ?_ _)); exact BK318.out)) : gb319 ≠ gb318)); clear BK318; clear HB; have BK318 := n0_; have HB := n1_; have BK319 := n2_; have GW319 := n3_; have GE319 := n4_; have NB318_319 := n5_; have NB319_318 := n6_; clear n0_ n1_ n2_ n3_ n4_ n5_ n6_; clear hb hbox hg; have hnb67 := NB318_319.out; have hnc67 := NB319_318.out; have hcz68_0 : w66.cell? ⟨gb318, 0, none⟩ = some (.int .i64 a0_0) := (blk_cell BK318.out 0).trans rfl; have hcz68_1 : w66.cell? ⟨gb318, 1, none⟩ = some (.int .i64 a0_1) := (blk_cell BK318.out 1).trans rfl; have hcz68_2 : w66.cell? ⟨gb318, 2, none⟩ = some (.int .i64 a0_2) := (blk_cell BK318.out 2).trans rfl; have hcz68_3 : w66.cell? ⟨gb318, 3, none⟩ = some (.int .i64 a0_3) := (blk_cell BK318.out 3).trans rfl; have hcz68_4 : w66.cell? ⟨gb318, 4, none⟩ = some (.int .i64 a0_4) := (blk_cell BK318.out 4).trans rfl; have hcz68_5 : w66.cell? ⟨gb318, 5, none⟩ = some (.int .i64 a0_5) := (blk_cell BK318.out 5).trans rfl; have hcz68_6 : w66.cell? ⟨gb318, 6, none⟩ = some (.bool a0_6) := (blk_cell BK318.out 6).trans rfl; have hfz68_0 := blk_frozen BK318.out 0; have hfz68_1 := blk_frozen BK318.out 1; have hfz68_2 := blk_frozen BK318.out 2; have hfz68_3 := blk_frozen BK318.out 3; have hfz68_4 := blk_frozen BK318.out 4; have hfz68_5 := blk_frozen BK318.out 5; have hfz68_6 := blk_frozen BK318.out 6) | ((with_reducible refine gate_callee (f := 13) rfl ?_); refine goesL_ (some 14) rfl rfl Try.func13 (by kernel_rfl) rfl #[.agg #[.int .i64 a0_0, .int .i64 a0_1, .int .i64 a0_2, .int .i64 a0_3, .int .i64 a0_4, .int .i64 a0_5, .bool a0_6]] rfl (by (try simp only [List.map_toArray, List.map_cons, List.map_nil]); first | done | rfl | (simp only [List.length_drop, List.length_take]; rfl)) ?_; (with_reducible refine (swarfref44_Valid.calls k a0_0 a0_1 a0_2 a0_3 a0_4 a0_5 a0_6 t320 _ A4.out).mono ?_); rintro e w69 ⟨rfl, hb⟩; refine ⟨_, rfl, ?_⟩; have n0_ := Aside0.mk (blk_below (g := gb318) (o := .cells #[.int .i64 a0_0, .int .i64 a0_1, .int .i64 a0_2, .int .i64 a0_3, .int .i64 a0_4, .int .i64 a0_5, .bool a0_6] 23 (0, 0)) (by (with_reducible repeat (first | refine blk_drewN ?_ _ | refine blk_drew ?_ | refine blk_alloc ?_ _)); exact BK318.out) hb); have n1_ := Aside0.mk (blk_below (g := gb319) (o := .cells #[.int .i64 a1_0, .int .i64 a1_1, .int .i64 a1_2] 36 (0, 0)) (by (with_reducible repeat (first | refine blk_drewN ?_ _ | refine blk_drew ?_ | refine blk_alloc ?_ _)); exact BK319.out) hb); have n2_ := Aside0.mk (below_step (by repeat (first | (with_reducible first | exact HB.out | apply below_alloc | apply pw_below_drewN | apply below_drew1 | refine below_set ?_ GE318.out | refine below_set ?_ GE319.out) | exact HB.out)) hb); clear BK318; clear BK319; clear HB; have BK318 := n0_; have BK319 := n1_; have HB := n2_; clear n0_ n1_ n2_; (try clear hb); (try clear hb2); (try clear hk); (try clear hi)))
    go_ret2
    exact ⟨_, by first | rfl | (simp [errW_none, errW_some] <;> rfl) | (simp [*, errW_none, errW_some] <;> rfl), by first | exact Kd.R_nil _ _ _ _ _ | exact Kd.N_nil _ _ _ _ _ | exact Kd.V_nil _ _ _ _ _ | exact Kd.Q_nil _ _ _ _ _ | exact Kd.S_nil _ _ _ _ _, by repeat (first | (with_reducible first | exact HB.out | apply below_alloc | apply pw_below_drewN | apply below_drew1 | refine below_set ?_ GE318.out | refine below_set ?_ GE319.out) | exact HB.out)⟩

end Go.Proofs.Ytmaochcdjmnffaa.P
