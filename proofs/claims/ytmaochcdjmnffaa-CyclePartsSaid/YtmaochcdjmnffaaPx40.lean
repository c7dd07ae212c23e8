-- PRINTED by print.py (a twelfth state) out of the translation. Not trusted: Lean checks it.
import Derived.Test.YtmaochcdjmnffaaPx0
import Derived.Test.YtmaochcdjmnffaaPx16
import Derived.Test.YtmaochcdjmnffaaPx37
import Derived.Test.YtmaochcdjmnffaaGClone
import Derived.Test.YtmaochcdjmnffaaGConcat
import Derived.Test.YtmaochcdjmnffaaGExpand
namespace Go.Proofs.Ytmaochcdjmnffaa.P
open Go.RowKit Go.Proofs.YtmaochcdjmnffaaW.PrintWords Go.Proofs.YtmaochcdjmnffaaW.PrintLast Go.Proofs.YtmaochcdjmnffaaW.PrintMore
attribute [local go_sem] max2_int min2_int max_two min_two max_three min_three max_four min_four   -- for this text's walks alone
set_option linter.unusedVariables false
set_option linter.unusedSimpArgs false

/-! ### swarflaw44_CycleParts: function 8 -/
def swarflaw44_CycleParts.j0 : Nat → List (S43) → List (S45) → Int → List (S45) → Int → Int → Int → Int → Int → Int → Int → Bool → Int → Int → Int → Option (Bool)
  | 0, _, _, _, _, _, _, _, _, _, _, _, _, _, _, _ => none
  | k + 1, x7, x8, x10, x11, x12, x420000, x420001, x420002, x420003, x420004, x420005, x420006, x442000, x442001, x442002 => if 0 ≤ x10 then (if x10 ≤ (x7.length : Int) then ((api_Grid2.f (x7.drop (x10 : Int).toNat)).bind fun t447 => ((cycle_Expand.f k x420000 x420001 x420002 x420003 x420004 x420005 x420006 x442000 x442001 x442002 t447).bind fun bt450 => (if x12 = 0 then (if bt450.2 = 0 then ((api_Move_24.f (([x11, bt450.1] : List (List (S45))))).bind fun t457 => ((swarfref44_Same.f k x8 t457).bind fun t460 => (some t460))) else (some false)) else (some false)))) else (none)) else (none)
def swarflaw44_CycleParts.f (k : Nat) (a0_0 : Int) (a0_1 : Int) (a0_2 : Int) (a0_3 : Int) (a0_4 : Int) (a0_5 : Int) (a0_6 : Bool) (a1_0 : Int) (a1_1 : Int) (a1_2 : Int) (l2_0 : List (S43)) (a2_1 : Int) : Option (Bool) := (swarflaw44_awake.f k).bind fun t422 => (if t422 = true then (if (l2_0.length : Int) > 20 then (some true) else ((api_Grid2.f l2_0).bind fun t423 => ((cycle_Expand.f k a0_0 a0_1 a0_2 a0_3 a0_4 a0_5 a0_6 a1_0 a1_1 a1_2 t423).bind fun bt426 => (if bt426.2 = 0 then (if (wrap64 ((l2_0.length : Int) + 1)) = 0 then (none) else (if 0 ≤ (Int.tmod (wrap64 (a2_1)) (wrap64 ((l2_0.length : Int) + 1))) then (if (Int.tmod (wrap64 (a2_1)) (wrap64 ((l2_0.length : Int) + 1))) ≤ (l2_0.length : Int) then ((api_Grid2.f (l2_0.take ((Int.tmod (wrap64 (a2_1)) (wrap64 ((l2_0.length : Int) + 1))) : Int).toNat)).bind fun t434 => ((cycle_Expand.f k a0_0 a0_1 a0_2 a0_3 a0_4 a0_5 a0_6 a1_0 a1_1 a1_2 t434).bind fun bt437 => (if (bt437.1.length : Int) > 0 then (if 0 ≤ (wrap64 ((bt437.1.length : Int) - 1)) then (if (wrap64 ((bt437.1.length : Int) - 1)) < (bt437.1.length : Int) then (swarflaw44_CycleParts.j0 k l2_0 bt426.1 (Int.tmod (wrap64 (a2_1)) (wrap64 ((l2_0.length : Int) + 1))) bt437.1 bt437.2 a0_0 a0_1 a0_2 a0_3 a0_4 a0_5 a0_6 ((rd_T45 bt437.1 (wrap64 ((bt437.1.length : Int) - 1))).f1.f0) ((rd_T45 bt437.1 (wrap64 ((bt437.1.length : Int) - 1))).f1.f1) ((rd_T45 bt437.1 (wrap64 ((bt437.1.length : Int) - 1))).f1.f2)) else (none)) else (none)) else (swarflaw44_CycleParts.j0 k l2_0 bt426.1 (Int.tmod (wrap64 (a2_1)) (wrap64 ((l2_0.length : Int) + 1))) bt437.1 bt437.2 a0_0 a0_1 a0_2 a0_3 a0_4 a0_5 a0_6 a1_0 a1_1 a1_2)))) else (none)) else (none))) else (some true))))) else (some false))
theorem swarflaw44_CycleParts.mono_l : ∀ k, (∀ y0 y1 y2 y3 y4 y5 y6 y7 y8 y9 y10 y11 y12 y13 y14, LeO (swarflaw44_CycleParts.j0 k y0 y1 y2 y3 y4 y5 y6 y7 y8 y9 y10 y11 y12 y13 y14) (swarflaw44_CycleParts.j0 (k + 1) y0 y1 y2 y3 y4 y5 y6 y7 y8 y9 y10 y11 y12 y13 y14))
  | 0 => fun _ _ _ _ _ _ _ _ _ _ _ _ _ _ _ r h => by simp [swarflaw44_CycleParts.j0] at h
  | k + 1 => by
    have ih0 := swarflaw44_CycleParts.mono_l k
    · intro y0 y1 y2 y3 y4 y5 y6 y7 y8 y9 y10 y11 y12 y13 y14
      unfold swarflaw44_CycleParts.j0
      repeat' first
      | (with_reducible exact ih0 _ _ _ _ _ _ _ _ _ _ _ _ _ _ _)
      | (with_reducible exact cycle_Expand.mono _ _ _ _ _ _ _ _ _ _ _ _)
      | (with_reducible exact swarflaw44_awake.mono _)
      | (with_reducible exact swarfref44_Same.mono _ _ _)
      | (with_reducible exact LeO.refl _)
      | (with_reducible exact LeO.none _)
      | (with_reducible refine LeO.ite ?_ ?_)
      | (with_reducible refine LeO.bind ?_ (fun _ => ?_))
      | exact ih0 _ _ _ _ _ _ _ _ _ _ _ _ _ _ _
      | exact cycle_Expand.mono _ _ _ _ _ _ _ _ _ _ _ _
      | exact swarflaw44_awake.mono _
      | exact swarfref44_Same.mono _ _ _
      | exact LeO.none _
      | refine LeO.ite ?_ ?_
      | refine LeO.bind ?_ (fun _ => ?_)
theorem swarflaw44_CycleParts.mono : ∀ a0 a1 a2 a3 a4 a5 a6 a7 a8 a9 a10 a11 k, LeO (swarflaw44_CycleParts.f k a0 a1 a2 a3 a4 a5 a6 a7 a8 a9 a10 a11) (swarflaw44_CycleParts.f (k + 1) a0 a1 a2 a3 a4 a5 a6 a7 a8 a9 a10 a11) := by
  intro a0 a1 a2 a3 a4 a5 a6 a7 a8 a9 a10 a11 k
  have ih0 := swarflaw44_CycleParts.mono_l k
  unfold swarflaw44_CycleParts.f
  repeat' first
      | (with_reducible exact ih0 _ _ _ _ _ _ _ _ _ _ _ _ _ _ _)
      | (with_reducible exact cycle_Expand.mono _ _ _ _ _ _ _ _ _ _ _ _)
      | (with_reducible exact swarflaw44_awake.mono _)
      | (with_reducible exact swarfref44_Same.mono _ _ _)
      | (with_reducible exact LeO.refl _)
      | (with_reducible exact LeO.none _)
      | (with_reducible refine LeO.ite ?_ ?_)
      | (with_reducible refine LeO.bind ?_ (fun _ => ?_))
      | exact ih0 _ _ _ _ _ _ _ _ _ _ _ _ _ _ _
      | exact cycle_Expand.mono _ _ _ _ _ _ _ _ _ _ _ _
      | exact swarflaw44_awake.mono _
      | exact swarfref44_Same.mono _ _ _
      | exact LeO.none _
      | refine LeO.ite ?_ ?_
      | refine LeO.bind ?_ (fun _ => ?_)
def swarflaw44_CycleParts.T6 : Bool × List (List Nat × List Nat) := (true, [([], []), ([], []), ([], []), ([2], [2]), ([0, 1, 3, 3], [0, 1, 3]), ([4], [4]), ([5], [5]), ([5], [5]), ([6, 4, 0, 1, 2, 3, 4, 5, 6], [6]), ([7, 8, 0, 1, 2, 3, 4, 5, 6, 7, 8], [7])])
def swarflaw44_CycleParts.B6 : List Nat := [0, 0, 0, 4, 15, 31, 63, 63, 127, 511]
theorem swarflaw44_CycleParts.tab6 : rtab .any (opsOf Try.f8 6) = swarflaw44_CycleParts.T6 := by kernel_rfl
theorem swarflaw44_CycleParts.bits6 : waitsOk swarflaw44_CycleParts.T6.2 swarflaw44_CycleParts.B6 = true := by kernel_rfl
def swarflaw44_CycleParts.T10 : Bool × List (List Nat × List Nat) := (true, [([], []), ([], []), ([], []), ([], []), ([2, 3], [2, 3]), ([4], [4]), ([0, 1, 5, 5], [0, 1, 5]), ([6], [6]), ([7], [7]), ([7], [7]), ([8, 6, 0, 1, 2, 3, 4, 5, 6, 7, 8], [8]), ([9, 10, 0, 1, 2, 3, 4, 5, 6, 7, 8, 9, 10], [9])])
def swarflaw44_CycleParts.B10 : List Nat := [0, 0, 0, 0, 12, 28, 63, 127, 255, 255, 511, 2047]
theorem swarflaw44_CycleParts.tab10 : rtab .any (opsOf Try.f8 10) = swarflaw44_CycleParts.T10 := by kernel_rfl
theorem swarflaw44_CycleParts.bits10 : waitsOk swarflaw44_CycleParts.T10.2 swarflaw44_CycleParts.B10 = true := by kernel_rfl
def swarflaw44_CycleParts.T14 : Bool × List (List Nat × List Nat) := (true, [([], []), ([], []), ([], []), ([], []), ([2, 3], [2, 3]), ([4], [4]), ([0, 1, 5, 5], [0, 1, 5]), ([6], [6]), ([7], [7]), ([7], [7]), ([8, 6, 0, 1, 2, 3, 4, 5, 6, 7, 8], [8]), ([9, 10, 0, 1, 2, 3, 4, 5, 6, 7, 8, 9, 10], [9])])
def swarflaw44_CycleParts.B14 : List Nat := [0, 0, 0, 0, 12, 28, 63, 127, 255, 255, 511, 2047]
theorem swarflaw44_CycleParts.tab14 : rtab .any (opsOf Try.f8 14) = swarflaw44_CycleParts.T14 := by kernel_rfl
theorem swarflaw44_CycleParts.bits14 : waitsOk swarflaw44_CycleParts.T14.2 swarflaw44_CycleParts.B14 = true := by kernel_rfl
set_option maxHeartbeats 60000000 in
set_option maxRecDepth 100000 in
theorem swarflaw44_CycleParts.calls (k : Nat) (a0_0 : Int) (a0_1 : Int) (a0_2 : Int) (a0_3 : Int) (a0_4 : Int) (a0_5 : Int) (a0_6 : Bool) (a1_0 : Int) (a1_1 : Int) (a1_2 : Int) (A2_0 : Option Addr) (c2_0 : Nat) (l2_0 : List (S43)) (a2_1 : Int) (r : Bool) (w : World) (hr2_0 : Kd.C k43 w A2_0 l2_0.length l2_0) (hc2_0 : l2_0.length ≤ c2_0) (h : swarflaw44_CycleParts.f k a0_0 a0_1 a0_2 a0_3 a0_4 a0_5 a0_6 a1_0 a1_1 a1_2 l2_0 a2_1 = some r) :
    Calls Try.prog 8 #[.agg #[.int .i64 a0_0, .int .i64 a0_1, .int .i64 a0_2, .int .i64 a0_3, .int .i64 a0_4, .int .i64 a0_5, .bool a0_6], .agg #[.int .i64 a1_0, .int .i64 a1_1, .int .i64 a1_2], .agg #[.slice A2_0 l2_0.length c2_0, .int .u8 a2_1]] w fun e w' => e = .returned (.bool r) ∧ Below w.heap.size w w' := by
  have hu23 := Try.underlying23
  have hu36 := Try.underlying36
  have hu64 := Try.underlying64
  have HR2_0 := Aside0.mk hr2_0
  have HC2_0 := Aside0.mk hc2_0
  clear hr2_0 hc2_0
  have HB := Aside0.mk (Below.refl w.heap.size w)
  have H : ((swarflaw44_awake.f k).bind fun t422 => (if t422 = true then (if (l2_0.length : Int) > 20 then (some true) else ((api_Grid2.f l2_0).bind fun t423 => ((cycle_Expand.f k a0_0 a0_1 a0_2 a0_3 a0_4 a0_5 a0_6 a1_0 a1_1 a1_2 t423).bind fun bt426 => (if bt426.2 = 0 then (if (wrap64 ((l2_0.length : Int) + 1)) = 0 then (none) else (if 0 ≤ (Int.tmod (wrap64 (a2_1)) (wrap64 ((l2_0.length : Int) + 1))) then (if (Int.tmod (wrap64 (a2_1)) (wrap64 ((l2_0.length : Int) + 1))) ≤ (l2_0.length : Int) then ((api_Grid2.f (l2_0.take ((Int.tmod (wrap64 (a2_1)) (wrap64 ((l2_0.length : Int) + 1))) : Int).toNat)).bind fun t434 => ((cycle_Expand.f k a0_0 a0_1 a0_2 a0_3 a0_4 a0_5 a0_6 a1_0 a1_1 a1_2 t434).bind fun bt437 => (if (bt437.1.length : Int) > 0 then (if 0 ≤ (wrap64 ((bt437.1.length : Int) - 1)) then (if (wrap64 ((bt437.1.length : Int) - 1)) < (bt437.1.length : Int) then (swarflaw44_CycleParts.j0 k l2_0 bt426.1 (Int.tmod (wrap64 (a2_1)) (wrap64 ((l2_0.length : Int) + 1))) bt437.1 bt437.2 a0_0 a0_1 a0_2 a0_3 a0_4 a0_5 a0_6 ((rd_T45 bt437.1 (wrap64 ((bt437.1.length : Int) - 1))).f1.f0) ((rd_T45 bt437.1 (wrap64 ((bt437.1.length : Int) - 1))).f1.f1) ((rd_T45 bt437.1 (wrap64 ((bt437.1.length : Int) - 1))).f1.f2)) else (none)) else (none)) else (swarflaw44_CycleParts.j0 k l2_0 bt426.1 (Int.tmod (wrap64 (a2_1)) (wrap64 ((l2_0.length : Int) + 1))) bt437.1 bt437.2 a0_0 a0_1 a0_2 a0_3 a0_4 a0_5 a0_6 a1_0 a1_1 a1_2)))) else (none)) else (none))) else (some true))))) else (some false))) = some r := h
  clear h
  replace H := Option.bind_eq_some_iff.mp H
  obtain ⟨t422, A40, H⟩ := H
  replace H : (if t422 = true then (if (l2_0.length : Int) > 20 then (some true) else ((api_Grid2.f l2_0).bind fun t423 => ((cycle_Expand.f k a0_0 a0_1 a0_2 a0_3 a0_4 a0_5 a0_6 a1_0 a1_1 a1_2 t423).bind fun bt426 => (if bt426.2 = 0 then (if (wrap64 ((l2_0.length : Int) + 1)) = 0 then (none) else (if 0 ≤ (Int.tmod (wrap64 (a2_1)) (wrap64 ((l2_0.length : Int) + 1))) then (if (Int.tmod (wrap64 (a2_1)) (wrap64 ((l2_0.length : Int) + 1))) ≤ (l2_0.length : Int) then ((api_Grid2.f (l2_0.take ((Int.tmod (wrap64 (a2_1)) (wrap64 ((l2_0.length : Int) + 1))) : Int).toNat)).bind fun t434 => ((cycle_Expand.f k a0_0 a0_1 a0_2 a0_3 a0_4 a0_5 a0_6 a1_0 a1_1 a1_2 t434).bind fun bt437 => (if (bt437.1.length : Int) > 0 then (if 0 ≤ (wrap64 ((bt437.1.length : Int) - 1)) then (if (wrap64 ((bt437.1.length : Int) - 1)) < (bt437.1.length : Int) then (swarflaw44_CycleParts.j0 k l2_0 bt426.1 (Int.tmod (wrap64 (a2_1)) (wrap64 ((l2_0.length : Int) + 1))) bt437.1 bt437.2 a0_0 a0_1 a0_2 a0_3 a0_4 a0_5 a0_6 ((rd_T45 bt437.1 (wrap64 ((bt437.1.length : Int) - 1))).f1.f0) ((rd_T45 bt437.1 (wrap64 ((bt437.1.length : Int) - 1))).f1.f1) ((rd_T45 bt437.1 (wrap64 ((bt437.1.length : Int) - 1))).f1.f2)) else (none)) else (none)) else (swarflaw44_CycleParts.j0 k l2_0 bt426.1 (Int.tmod (wrap64 (a2_1)) (wrap64 ((l2_0.length : Int) + 1))) bt437.1 bt437.2 a0_0 a0_1 a0_2 a0_3 a0_4 a0_5 a0_6 a1_0 a1_1 a1_2)))) else (none)) else (none))) else (some true))))) else (some false)) = some r := H
  have A4 := Aside0.mk A40
  clear A40
  by_cases c5 : t422 = true
  · subst c5
    have H1 : (if (l2_0.length : Int) > 20 then (some true) else ((api_Grid2.f l2_0).bind fun t423 => ((cycle_Expand.f k a0_0 a0_1 a0_2 a0_3 a0_4 a0_5 a0_6 a1_0 a1_1 a1_2 t423).bind fun bt426 => (if bt426.2 = 0 then (if (wrap64 ((l2_0.length : Int) + 1)) = 0 then (none) else (if 0 ≤ (Int.tmod (wrap64 (a2_1)) (wrap64 ((l2_0.length : Int) + 1))) then (if (Int.tmod (wrap64 (a2_1)) (wrap64 ((l2_0.length : Int) + 1))) ≤ (l2_0.length : Int) then ((api_Grid2.f (l2_0.take ((Int.tmod (wrap64 (a2_1)) (wrap64 ((l2_0.length : Int) + 1))) : Int).toNat)).bind fun t434 => ((cycle_Expand.f k a0_0 a0_1 a0_2 a0_3 a0_4 a0_5 a0_6 a1_0 a1_1 a1_2 t434).bind fun bt437 => (if (bt437.1.length : Int) > 0 then (if 0 ≤ (wrap64 ((bt437.1.length : Int) - 1)) then (if (wrap64 ((bt437.1.length : Int) - 1)) < (bt437.1.length : Int) then (swarflaw44_CycleParts.j0 k l2_0 bt426.1 (Int.tmod (wrap64 (a2_1)) (wrap64 ((l2_0.length : Int) + 1))) bt437.1 bt437.2 a0_0 a0_1 a0_2 a0_3 a0_4 a0_5 a0_6 ((rd_T45 bt437.1 (wrap64 ((bt437.1.length : Int) - 1))).f1.f0) ((rd_T45 bt437.1 (wrap64 ((bt437.1.length : Int) - 1))).f1.f1) ((rd_T45 bt437.1 (wrap64 ((bt437.1.length : Int) - 1))).f1.f2)) else (none)) else (none)) else (swarflaw44_CycleParts.j0 k l2_0 bt426.1 (Int.tmod (wrap64 (a2_1)) (wrap64 ((l2_0.length : Int) + 1))) bt437.1 bt437.2 a0_0 a0_1 a0_2 a0_3 a0_4 a0_5 a0_6 a1_0 a1_1 a1_2)))) else (none)) else (none))) else (some true))))) = some r := by rw [if_pos rfl] at H; exact H
    clear H
    have H := H1
    clear H1
    by_cases c6 : (l2_0.length : Int) > 20
    · rw [if_pos c6] at H
      have c6b0 : decide (20 < (l2_0.length : Int)) = true := decide_eq_true c6
      have c6b1 : decide (20 < l2_0.length) = true := decide_eq_true (by omega)
      clear c6
      obtain rfl := Option.some.inj H
      go_enter Try.func8, Try.ntmps8
      go_wp2_with (first | ((with_reducible refine gate_dst (N := 3) rfl ?_); (try (refine gate_guard (by rfl) ?_; dsimp only)); refine box_event ?hg (N := 3) ?hd (cs := #[.int .i64 a0_0, .int .i64 a0_1, .int .i64 a0_2, .int .i64 a0_3, .int .i64 a0_4, .int .i64 a0_5, .bool a0_6]) (t := 23) ?hr ?_; (case hd => rfl); (case hg => rfl); (case hr => first | (go_simp; done) | (go_simp; rfl)); intro gb419 hg w7 hbox hb; have n0_ := Aside0.mk (below_step (by repeat (first | (with_reducible first | exact HB.out | apply below_alloc | apply pw_below_drewN | apply below_drew1) | exact HB.out)) hb); have n1_ := Aside0.mk (hbox); have n2_ := Aside0.mk ((by rw [hg]; exact (below_size (by repeat (first | (with_reducible first | exact HB.out | apply below_alloc | apply pw_below_drewN | apply below_drew1) | exact HB.out))) : w.heap.size ≤ gb419)); have n3_ := Aside0.mk ((by rw [hg]; exact (below_size (by repeat (first | (with_reducible first | exact HB.out | apply below_alloc | apply pw_below_drewN | apply below_drew1) | exact HB.out))) : w.heap.size ≤ gb419)); clear HB; have HB := n0_; have BK419 := n1_; have GW419 := n2_; have GE419 := n3_; clear n0_ n1_ n2_ n3_; clear hb hbox hg) | ((with_reducible refine gate_dst (N := 4) rfl ?_); (try (refine gate_guard (by rfl) ?_; dsimp only)); refine box_event ?hg (N := 4) ?hd (cs := #[.int .i64 a1_0, .int .i64 a1_1, .int .i64 a1_2]) (t := 36) ?hr ?_; (case hd => rfl); (case hg => rfl); (case hr => first | (go_simp; done) | (go_simp; rfl)); intro gb420 hg w8 hbox hb; have n0_ := Aside0.mk (blk_below (g := gb419) (o := .cells #[.int .i64 a0_0, .int .i64 a0_1, .int .i64 a0_2, .int .i64 a0_3, .int .i64 a0_4, .int .i64 a0_5, .bool a0_6] 23 (0, 0)) (by (with_reducible repeat (first | refine blk_drewN ?_ _ | refine blk_drew ?_ | refine blk_alloc ?_ _)); exact BK419.out) hb); have n1_ := Aside0.mk (below_step (by repeat (first | (with_reducible first | exact HB.out | apply below_alloc | apply pw_below_drewN | apply below_drew1 | refine below_set ?_ GE419.out) | exact HB.out)) hb); have n2_ := Aside0.mk (hbox); have n3_ := Aside0.mk ((by rw [hg]; exact (below_size (by repeat (first | (with_reducible first | exact HB.out | apply below_alloc | apply pw_below_drewN | apply below_drew1 | refine below_set ?_ GE419.out) | exact HB.out))) : w.heap.size ≤ gb420)); have n4_ := Aside0.mk ((by rw [hg]; exact (below_size (by repeat (first | (with_reducible first | exact HB.out | apply below_alloc | apply pw_below_drewN | apply below_drew1 | refine below_set ?_ GE419.out) | exact HB.out))) : w.heap.size ≤ gb420)); have n5_ := Aside0.mk ((by rw [hg]; exact Nat.ne_of_lt (blk_lt (g := gb419) (o := .cells #[.int .i64 a0_0, .int .i64 a0_1, .int .i64 a0_2, .int .i64 a0_3, .int .i64 a0_4, .int .i64 a0_5, .bool a0_6] 23 (0, 0)) (by (with_reducible repeat (first | refine blk_drewN ?_ _ | refine blk_drew ?_ | refine blk_alloc ?_ _)); exact BK419.out)) : gb419 ≠ gb420)); have n6_ := Aside0.mk ((by rw [hg]; exact Nat.ne_of_gt (blk_lt (g := gb419) (o := .cells #[.int .i64 a0_0, .int .i64 a0_1, .int .i64 a0_2, .int .i64 a0_3, .int .i64 a0_4, .int .i64 a0_5, .bool a0_6] 23 (0, 0)) (by (with_reducible repeat (first | refine blk_drewN ?_ _ | refine blk_drew ?_ | refine blk_alloc ?_ _)); exact BK419.out)) : gb420 ≠ gb419)); clear BK419; clear HB; have BK419 := n0_; have HB := n1_; have BK420 := n2_; have GW420 := n3_; have GE420 := n4_; have NB419_420 := n5_; have NB420_419 := n6_; clear n0_ n1_ n2_ n3_ n4_ n5_ n6_; clear hb hbox hg) | ((with_reducible refine gate_dst (N := 5) rfl ?_); (try (refine gate_guard (by rfl) ?_; dsimp only)); refine box_event ?hg (N := 5) ?hd (cs := #[.slice A2_0 l2_0.length c2_0, .int .u8 a2_1]) (t := 64) ?hr ?_; (case hd => rfl); (case hg => rfl); (case hr => first | (go_simp; done) | (go_simp; rfl)); intro gb421 hg w9 hbox hb; have n0_ := Aside0.mk (blk_below (g := gb419) (o := .cells #[.int .i64 a0_0, .int .i64 a0_1, .int .i64 a0_2, .int .i64 a0_3, .int .i64 a0_4, .int .i64 a0_5, .bool a0_6] 23 (0, 0)) (by (with_reducible repeat (first | refine blk_drewN ?_ _ | refine blk_drew ?_ | refine blk_alloc ?_ _)); exact BK419.out) hb); have n1_ := Aside0.mk (blk_below (g := gb420) (o := .cells #[.int .i64 a1_0, .int .i64 a1_1, .int .i64 a1_2] 36 (0, 0)) (by (with_reducible repeat (first | refine blk_drewN ?_ _ | refine blk_drew ?_ | refine blk_alloc ?_ _)); exact BK420.out) hb); have n2_ := Aside0.mk (below_step (by repeat (first | (with_reducible first | exact HB.out | apply below_alloc | apply pw_below_drewN | apply below_drew1 | refine below_set ?_ GE419.out | refine below_set ?_ GE420.out) | exact HB.out)) hb); have n3_ := Aside0.mk (hbox); have n4_ := Aside0.mk ((by rw [hg]; exact (below_size (by repeat (first | (with_reducible first | exact HB.out | apply below_alloc | apply pw_below_drewN | apply below_drew1 | refine below_set ?_ GE419.out | refine below_set ?_ GE420.out) | exact HB.out))) : w.heap.size ≤ gb421)); have n5_ := Aside0.mk ((by rw [hg]; exact (below_size (by repeat (first | (with_reducible first | exact HB.out | apply below_alloc | apply pw_below_drewN | apply below_drew1 | refine below_set ?_ GE419.out | refine below_set ?_ GE420.out) | exact HB.out))) : w.heap.size ≤ gb421)); have n6_ := Aside0.mk ((by rw [hg]; exact Nat.ne_of_lt (blk_lt (g := gb419) (o := .cells #[.int .i64 a0_0, .int .i64 a0_1, .int .i64 a0_2, .int .i64 a0_3, .int .i64 a0_4, .int .i64 a0_5, .bool a0_6] 23 (0, 0)) (by (with_reducible repeat (first | refine blk_drewN ?_ _ | refine blk_drew ?_ | refine blk_alloc ?_ _)); exact BK419.out)) : gb419 ≠ gb421)); have n7_ := Aside0.mk ((by rw [hg]; exact Nat.ne_of_gt (blk_lt (g := gb419) (o := .cells #[.int .i64 a0_0, .int .i64 a0_1, .int .i64 a0_2, .int .i64 a0_3, .int .i64 a0_4, .int .i64 a0_5, .bool a0_6] 23 (0, 0)) (by (with_reducible repeat (first | refine blk_drewN ?_ _ | refine blk_drew ?_ | refine blk_alloc ?_ _)); exact BK419.out)) : gb421 ≠ gb419)); have n8_ := Aside0.mk ((by rw [hg]; exact Nat.ne_of_lt (blk_lt (g := gb420) (o := .cells #[.int .i64 a1_0, .int .i64 a1_1, .int .i64 a1_2] 36 (0, 0)) (by (with_reducible repeat (first | refine blk_drewN ?_ _ | refine blk_drew ?_ | refine blk_alloc ?_ _)); exact BK420.out)) : gb420 ≠ gb421)); have n9_ := Aside0.mk ((by rw [hg]; exact Nat.ne_of_gt (blk_lt (g := gb420) (o := .cells #[.int .i64 a1_0, .int .i64 a1_1, .int .i64 a1_2] 36 (0, 0)) (by (with_reducible repeat (first | refine blk_drewN ?_ _ | refine blk_drew ?_ | refine blk_alloc ?_ _)); exact BK420.out)) : gb421 ≠ gb420)); clear BK419; clear BK420; clear HB; have BK419 := n0_; have BK420 := n1_; have HB := n2_; have BK421 := n3_; have GW421 := n4_; have GE421 := n5_; have NB419_421 := n6_; have NB421_419 := n7_; have NB420_421 := n8_; have NB421_420 := n9_; clear n0_ n1_ n2_ n3_ n4_ n5_ n6_ n7_ n8_ n9_; clear hb hbox hg) | ((with_reducible refine gate_callee (f := 9) rfl ?_); refine goesL_ (some 16) rfl rfl Try.func9 (by kernel_rfl) rfl #[] rfl (by (try simp only [List.map_toArray, List.map_cons, List.map_nil]); first | done | rfl | (simp only [List.length_drop, List.length_take]; rfl)) ?_; (with_reducible refine (swarflaw44_awake.calls k  true _ A4.out).mono ?_); rintro e w10 ⟨rfl, hb⟩; refine ⟨_, rfl, ?_⟩; have n0_ := Aside0.mk (blk_below (g := gb419) (o := .cells #[.int .i64 a0_0, .int .i64 a0_1, .int .i64 a0_2, .int .i64 a0_3, .int .i64 a0_4, .int .i64 a0_5, .bool a0_6] 23 (0, 0)) (by (with_reducible repeat (first | refine blk_drewN ?_ _ | refine blk_drew ?_ | refine blk_alloc ?_ _)); exact BK419.out) hb); have n1_ := Aside0.mk (blk_below (g := gb420) (o := .cells #[.int .i64 a1_0, .int .i64 a1_1, .int .i64 a1_2] 36 (0, 0)) (by (with_reducible repeat (first | refine blk_drewN ?_ _ | refine blk_drew ?_ | refine blk_alloc ?_ _)); exact BK420.out) hb); have n2_ := Aside0.mk (blk_below (g := gb421) (o := .cells #[.slice A2_0 l2_0.length c2_0, .int .u8 a2_1] 64 (0, 0)) (by (with_reducible repeat (first | refine blk_drewN ?_ _ | refine blk_drew ?_ | refine blk_alloc ?_ _)); exact BK421.out) hb); have n3_ := Aside0.mk (below_step (by repeat (first | (with_reducible first | exact HB.out | apply below_alloc | apply pw_below_drewN | apply below_drew1 | refine below_set ?_ GE419.out | refine below_set ?_ GE420.out | refine below_set ?_ GE421.out) | exact HB.out)) hb); clear BK419; clear BK420; clear BK421; clear HB; have BK419 := n0_; have BK420 := n1_; have BK421 := n2_; have HB := n3_; clear n0_ n1_ n2_ n3_; (try clear hb); (try clear hb2); (try clear hk); (try clear hi); have hnb11 := NB421_419.out; have hnc11 := NB419_421.out; have hnb12 := NB421_420.out; have hnc12 := NB420_421.out; have hcz13_0 : w10.cell? ⟨gb421, 0, none⟩ = some (.slice A2_0 l2_0.length c2_0) := (blk_cell BK421.out 0).trans rfl; have hcz13_1 : w10.cell? ⟨gb421, 1, none⟩ = some (.int .u8 a2_1) := (blk_cell BK421.out 1).trans rfl; have hfz13_0 := blk_frozen BK421.out 0; have hfz13_1 := blk_frozen BK421.out 1))
      go_ret
      exact ⟨by first | rfl | (simp [errW_none, errW_some] <;> rfl) | (simp [*, errW_none, errW_some] <;> rfl), by repeat (first | (with_reducible first | exact HB.out | apply below_alloc | apply pw_below_drewN | apply below_drew1 | refine below_set ?_ GE419.out | refine below_set ?_ GE420.out | refine below_set ?_ GE421.out) | exact HB.out)⟩
    · rw [if_neg c6] at H
      have c6b0 : decide (20 < (l2_0.length : Int)) = false := decide_eq_false c6
      have c6b1 : decide (20 < l2_0.length) = false := decide_eq_false (by omega)
      clear c6
      replace H := Option.bind_eq_some_iff.mp H
      obtain ⟨t423, A140, H⟩ := H
      replace H : ((cycle_Expand.f k a0_0 a0_1 a0_2 a0_3 a0_4 a0_5 a0_6 a1_0 a1_1 a1_2 t423).bind fun bt426 => (if bt426.2 = 0 then (if (wrap64 ((l2_0.length : Int) + 1)) = 0 then (none) else (if 0 ≤ (Int.tmod (wrap64 (a2_1)) (wrap64 ((l2_0.length : Int) + 1))) then (if (Int.tmod (wrap64 (a2_1)) (wrap64 ((l2_0.length : Int) + 1))) ≤ (l2_0.length : Int) then ((api_Grid2.f (l2_0.take ((Int.tmod (wrap64 (a2_1)) (wrap64 ((l2_0.length : Int) + 1))) : Int).toNat)).bind fun t434 => ((cycle_Expand.f k a0_0 a0_1 a0_2 a0_3 a0_4 a0_5 a0_6 a1_0 a1_1 a1_2 t434).bind fun bt437 => (if (bt437.1.length : Int) > 0 then (if 0 ≤ (wrap64 ((bt437.1.length : Int) - 1)) then (if (wrap64 ((bt437.1.length : Int) - 1)) < (bt437.1.length : Int) then (swarflaw44_CycleParts.j0 k l2_0 bt426.1 (Int.tmod (wrap64 (a2_1)) (wrap64 ((l2_0.length : Int) + 1))) bt437.1 bt437.2 a0_0 a0_1 a0_2 a0_3 a0_4 a0_5 a0_6 ((rd_T45 bt437.1 (wrap64 ((bt437.1.length : Int) - 1))).f1.f0) ((rd_T45 bt437.1 (wrap64 ((bt437.1.length : Int) - 1))).f1.f1) ((rd_T45 bt437.1 (wrap64 ((bt437.1.length : Int) - 1))).f1.f2)) else (none)) else (none)) else (swarflaw44_CycleParts.j0 k l2_0 bt426.1 (Int.tmod (wrap64 (a2_1)) (wrap64 ((l2_0.length : Int) + 1))) bt437.1 bt437.2 a0_0 a0_1 a0_2 a0_3 a0_4 a0_5 a0_6 a1_0 a1_1 a1_2)))) else (none)) else (none))) else (some true))) = some r := H
      have A14 := Aside0.mk A140
      clear A140
      replace H := Option.bind_eq_some_iff.mp H
      obtain ⟨⟨t426, t429⟩, A150, H⟩ := H
      replace H : (if t429 = 0 then (if (wrap64 ((l2_0.length : Int) + 1)) = 0 then (none) else (if 0 ≤ (Int.tmod (wrap64 (a2_1)) (wrap64 ((l2_0.length : Int) + 1))) then (if (Int.tmod (wrap64 (a2_1)) (wrap64 ((l2_0.length : Int) + 1))) ≤ (l2_0.length : Int) then ((api_Grid2.f (l2_0.take ((Int.tmod (wrap64 (a2_1)) (wrap64 ((l2_0.length : Int) + 1))) : Int).toNat)).bind fun t434 => ((cycle_Expand.f k a0_0 a0_1 a0_2 a0_3 a0_4 a0_5 a0_6 a1_0 a1_1 a1_2 t434).bind fun bt437 => (if (bt437.1.length : Int) > 0 then (if 0 ≤ (wrap64 ((bt437.1.length : Int) - 1)) then (if (wrap64 ((bt437.1.length : Int) - 1)) < (bt437.1.length : Int) then (swarflaw44_CycleParts.j0 k l2_0 t426 (Int.tmod (wrap64 (a2_1)) (wrap64 ((l2_0.length : Int) + 1))) bt437.1 bt437.2 a0_0 a0_1 a0_2 a0_3 a0_4 a0_5 a0_6 ((rd_T45 bt437.1 (wrap64 ((bt437.1.length : Int) - 1))).f1.f0) ((rd_T45 bt437.1 (wrap64 ((bt437.1.length : Int) - 1))).f1.f1) ((rd_T45 bt437.1 (wrap64 ((bt437.1.length : Int) - 1))).f1.f2)) else (none)) else (none)) else (swarflaw44_CycleParts.j0 k l2_0 t426 (Int.tmod (wrap64 (a2_1)) (wrap64 ((l2_0.length : Int) + 1))) bt437.1 bt437.2 a0_0 a0_1 a0_2 a0_3 a0_4 a0_5 a0_6 a1_0 a1_1 a1_2)))) else (none)) else (none))) else (some true)) = some r := H
      have A15 := Aside0.mk A150
      clear A150
      by_cases c16 : t429 = 0
      · rw [if_pos c16] at H
        have c16b0 : (t429 == 0) = true := beq_iff_eq.mpr c16
        have c16b1 : (t429 != 0) = false := bne_eq_false_iff_eq.mpr c16
        clear c16
        by_cases c17 : (wrap64 ((l2_0.length : Int) + 1)) = 0
        · rw [if_pos c17] at H
          exact absurd H (by simp)
        · rw [if_neg c17] at H
          have c17b0 : ((wrap64 ((l2_0.length : Int) + 1)) == 0) = false := beq_eq_false_iff_ne.mpr c17
          have c17b1 : ((wrap64 ((l2_0.length : Int) + 1)) != 0) = true := bne_iff_ne.mpr c17
          obtain ⟨ji18, hji18⟩ : ∃ j_ : Int, (Int.tmod (wrap64 (a2_1)) (wrap64 ((l2_0.length : Int) + 1))) = j_ := ⟨_, rfl⟩
          replace H : (if 0 ≤ (ji18) then (if (ji18) ≤ (l2_0.length : Int) then ((api_Grid2.f (l2_0.take ((ji18) : Int).toNat)).bind fun t434 => ((cycle_Expand.f k a0_0 a0_1 a0_2 a0_3 a0_4 a0_5 a0_6 a1_0 a1_1 a1_2 t434).bind fun bt437 => (if (bt437.1.length : Int) > 0 then (if 0 ≤ (wrap64 ((bt437.1.length : Int) - 1)) then (if (wrap64 ((bt437.1.length : Int) - 1)) < (bt437.1.length : Int) then (swarflaw44_CycleParts.j0 k l2_0 t426 ji18 bt437.1 bt437.2 a0_0 a0_1 a0_2 a0_3 a0_4 a0_5 a0_6 ((rd_T45 bt437.1 (wrap64 ((bt437.1.length : Int) - 1))).f1.f0) ((rd_T45 bt437.1 (wrap64 ((bt437.1.length : Int) - 1))).f1.f1) ((rd_T45 bt437.1 (wrap64 ((bt437.1.length : Int) - 1))).f1.f2)) else (none)) else (none)) else (swarflaw44_CycleParts.j0 k l2_0 t426 ji18 bt437.1 bt437.2 a0_0 a0_1 a0_2 a0_3 a0_4 a0_5 a0_6 a1_0 a1_1 a1_2)))) else (none)) else (none)) = some r := by first | (rw [hji18] at H; exact H) | (simp only [hji18] at H ⊢; exact H)
          (try rw [hji18] at A4)
          (try rw [hji18] at A14)
          (try rw [hji18] at A15)
          by_cases c19 : 0 ≤ (ji18)
          · rw [if_pos c19] at H
            have c19b0 := eq_true c19
            have c19b1 : decide (0 ≤ (ji18)) = true := decide_eq_true c19
            clear c19
            by_cases c20 : (ji18) ≤ (l2_0.length : Int)
            · rw [if_pos c20] at H
              have c20b0 := eq_true c20
              have c20b1 : decide ((ji18) ≤ (l2_0.length : Int)) = true := decide_eq_true c20
              clear c20
              obtain ⟨y430, hy430⟩ : ∃ y_ : List (S43), y_ = (l2_0.take ((ji18) : Int).toNat) := ⟨_, rfl⟩
              replace H : ((api_Grid2.f y430).bind fun t434 => ((cycle_Expand.f k a0_0 a0_1 a0_2 a0_3 a0_4 a0_5 a0_6 a1_0 a1_1 a1_2 t434).bind fun bt437 => (if (bt437.1.length : Int) > 0 then (if 0 ≤ (wrap64 ((bt437.1.length : Int) - 1)) then (if (wrap64 ((bt437.1.length : Int) - 1)) < (bt437.1.length : Int) then (swarflaw44_CycleParts.j0 k l2_0 t426 ji18 bt437.1 bt437.2 a0_0 a0_1 a0_2 a0_3 a0_4 a0_5 a0_6 ((rd_T45 bt437.1 (wrap64 ((bt437.1.length : Int) - 1))).f1.f0) ((rd_T45 bt437.1 (wrap64 ((bt437.1.length : Int) - 1))).f1.f1) ((rd_T45 bt437.1 (wrap64 ((bt437.1.length : Int) - 1))).f1.f2)) else (none)) else (none)) else (swarflaw44_CycleParts.j0 k l2_0 t426 ji18 bt437.1 bt437.2 a0_0 a0_1 a0_2 a0_3 a0_4 a0_5 a0_6 a1_0 a1_1 a1_2)))) = some r := by first | (rw [hy430]; with_reducible exact H) | (have H2_ := (Option.bind_some _ _).symm.trans H; rw [hy430]; with_reducible exact H2_) | (have H2_ := (Option.bind_some _ _).symm.trans H; with_reducible exact H2_) | with_reducible exact H | (rw [hy430]; exact H) | exact H
              have Ny430 := Aside0.mk hy430
              clear hy430
              replace H := Option.bind_eq_some_iff.mp H
              obtain ⟨t434, A210, H⟩ := H
              replace H : ((cycle_Expand.f k a0_0 a0_1 a0_2 a0_3 a0_4 a0_5 a0_6 a1_0 a1_1 a1_2 t434).bind fun bt437 => (if (bt437.1.length : Int) > 0 then (if 0 ≤ (wrap64 ((bt437.1.length : Int) - 1)) then (if (wrap64 ((bt437.1.length : Int) - 1)) < (bt437.1.length : Int) then (swarflaw44_CycleParts.j0 k l2_0 t426 ji18 bt437.1 bt437.2 a0_0 a0_1 a0_2 a0_3 a0_4 a0_5 a0_6 ((rd_T45 bt437.1 (wrap64 ((bt437.1.length : Int) - 1))).f1.f0) ((rd_T45 bt437.1 (wrap64 ((bt437.1.length : Int) - 1))).f1.f1) ((rd_T45 bt437.1 (wrap64 ((bt437.1.length : Int) - 1))).f1.f2)) else (none)) else (none)) else (swarflaw44_CycleParts.j0 k l2_0 t426 ji18 bt437.1 bt437.2 a0_0 a0_1 a0_2 a0_3 a0_4 a0_5 a0_6 a1_0 a1_1 a1_2))) = some r := H
              have A21 := Aside0.mk A210
              clear A210
              replace H := Option.bind_eq_some_iff.mp H
              obtain ⟨⟨t437, t440⟩, A220, H⟩ := H
              replace H : (if (t437.length : Int) > 0 then (if 0 ≤ (wrap64 ((t437.length : Int) - 1)) then (if (wrap64 ((t437.length : Int) - 1)) < (t437.length : Int) then (swarflaw44_CycleParts.j0 k l2_0 t426 ji18 t437 t440 a0_0 a0_1 a0_2 a0_3 a0_4 a0_5 a0_6 ((rd_T45 t437 (wrap64 ((t437.length : Int) - 1))).f1.f0) ((rd_T45 t437 (wrap64 ((t437.length : Int) - 1))).f1.f1) ((rd_T45 t437 (wrap64 ((t437.length : Int) - 1))).f1.f2)) else (none)) else (none)) else (swarflaw44_CycleParts.j0 k l2_0 t426 ji18 t437 t440 a0_0 a0_1 a0_2 a0_3 a0_4 a0_5 a0_6 a1_0 a1_1 a1_2)) = some r := H
              have A22 := Aside0.mk A220
              clear A220
              have HC23 := Aside0.mk H
              clear H
              go_enter Try.func8, Try.ntmps8
              try go_wp2_with (first | ((with_reducible refine gate_dst (N := 3) rfl ?_); (try (refine gate_guard (by rfl) ?_; dsimp only)); refine box_event ?hg (N := 3) ?hd (cs := #[.int .i64 a0_0, .int .i64 a0_1, .int .i64 a0_2, .int .i64 a0_3, .int .i64 a0_4, .int .i64 a0_5, .bool a0_6]) (t := 23) ?hr ?_; (case hd => rfl); (case hg => rfl); (case hr => first | (go_simp; done) | (go_simp; rfl)); intro gb419 hg w24 hbox hb; have n0_ := Aside0.mk (below_step (by repeat (first | (with_reducible first | exact HB.out | apply below_alloc | apply pw_below_drewN | apply below_drew1) | exact HB.out)) hb); have n1_ := Aside0.mk (hbox); have n2_ := Aside0.mk ((by rw [hg]; exact (below_size (by repeat (first | (with_reducible first | exact HB.out | apply below_alloc | apply pw_below_drewN | apply below_drew1) | exact HB.out))) : w.heap.size ≤ gb419)); have n3_ := Aside0.mk ((by rw [hg]; exact (below_size (by repeat (first | (with_reducible first | exact HB.out | apply below_alloc | apply pw_below_drewN | apply below_drew1) | exact HB.out))) : w.heap.size ≤ gb419)); clear HB; have HB := n0_; have BK419 := n1_; have GW419 := n2_; have GE419 := n3_; clear n0_ n1_ n2_ n3_; clear hb hbox hg) | ((with_reducible refine gate_dst (N := 4) rfl ?_); (try (refine gate_guard (by rfl) ?_; dsimp only)); refine box_event ?hg (N := 4) ?hd (cs := #[.int .i64 a1_0, .int .i64 a1_1, .int .i64 a1_2]) (t := 36) ?hr ?_; (case hd => rfl); (case hg => rfl); (case hr => first | (go_simp; done) | (go_simp; rfl)); intro gb420 hg w25 hbox hb; have n0_ := Aside0.mk (blk_below (g := gb419) (o := .cells #[.int .i64 a0_0, .int .i64 a0_1, .int .i64 a0_2, .int .i64 a0_3, .int .i64 a0_4, .int .i64 a0_5, .bool a0_6] 23 (0, 0)) (by (with_reducible repeat (first | refine blk_drewN ?_ _ | refine blk_drew ?_ | refine blk_alloc ?_ _)); exact BK419.out) hb); have n1_ := Aside0.mk (below_step (by repeat (first | (with_reducible first | exact HB.out | apply below_alloc | apply pw_below_drewN | apply below_drew1 | refine below_set ?_ GE419.out) | exact HB.out)) hb); have n2_ := Aside0.mk (hbox); have n3_ := Aside0.mk ((by rw [hg]; exact (below_size (by repeat (first | (with_reducible first | exact HB.out | apply below_alloc | apply pw_below_drewN | apply below_drew1 | refine below_set ?_ GE419.out) | exact HB.out))) : w.heap.size ≤ gb420)); have n4_ := Aside0.mk ((by rw [hg]; exact (below_size (by repeat (first | (with_reducible first | exact HB.out | apply below_alloc | apply pw_below_drewN | apply below_drew1 | refine below_set ?_ GE419.out) | exact HB.out))) : w.heap.size ≤ gb420)); have n5_ := Aside0.mk ((by rw [hg]; exact Nat.ne_of_lt (blk_lt (g := gb419) (o := .cells #[.int .i64 a0_0, .int .i64 a0_1, .int .i64 a0_2, .int .i64 a0_3, .int .i64 a0_4, .int .i64 a0_5, .bool a0_6] 23 (0, 0)) (by (with_reducible repeat (first | refine blk_drewN ?_ _ | refine blk_drew ?_ | refine blk_alloc ?_ _)); exact BK419.out)) : gb419 ≠ gb420)); have n6_ := Aside0.mk ((by rw [hg]; exact Nat.ne_of_gt (blk_lt (g := gb419) (o := .cells #[.int .i64 a0_0, .int .i64 a0_1, .int .i64 a0_2, .int .i64 a0_3, .int .i64 a0_4, .int .i64 a0_5, .bool a0_6] 23 (0, 0)) (by (with_reducible repeat (first | refine blk_drewN ?_ _ | refine blk_drew ?_ | refine blk_alloc ?_ _)); exact BK419.out)) : gb420 ≠ gb419)); clear BK419; clear HB; have BK419 := n0_; have HB := n1_; have BK420 := n2_; have GW420 := n3_; have GE420 := n4_; have NB419_420 := n5_; have NB420_419 := n6_; clear n0_ n1_ n2_ n3_ n4_ n5_ n6_; clear hb hbox hg) | ((with_reducible refine gate_dst (N := 5) rfl ?_); (try (refine gate_guard (by rfl) ?_; dsimp only)); refine box_event ?hg (N := 5) ?hd (cs := #[.slice A2_0 l2_0.length c2_0, .int .u8 a2_1]) (t := 64) ?hr ?_; (case hd => rfl); (case hg => rfl); (case hr => first | (go_simp; done) | (go_simp; rfl)); intro gb421 hg w26 hbox hb; have n0_ := Aside0.mk (blk_below (g := gb419) (o := .cells #[.int .i64 a0_0, .int .i64 a0_1, .int .i64 a0_2, .int .i64 a0_3, .int .i64 a0_4, .int .i64 a0_5, .bool a0_6] 23 (0, 0)) (by (with_reducible repeat (first | refine blk_drewN ?_ _ | refine blk_drew ?_ | refine blk_alloc ?_ _)); exact BK419.out) hb); have n1_ := Aside0.mk (blk_below (g := gb420) (o := .cells #[.int .i64 a1_0, .int .i64 a1_1, .int .i64 a1_2] 36 (0, 0)) (by (with_reducible repeat (first | refine blk_drewN ?_ _ | refine blk_drew ?_ | refine blk_alloc ?_ _)); exact BK420.out) hb); have n2_ := Aside0.mk (below_step (by repeat (first | (with_reducible first | exact HB.out | apply below_alloc | apply pw_below_drewN | apply below_drew1 | refine below_set ?_ GE419.out | refine below_set ?_ GE420.out) | exact HB.out)) hb); have n3_ := Aside0.mk (hbox); have n4_ := Aside0.mk ((by rw [hg]; exact (below_size (by repeat (first | (with_reducible first | exact HB.out | apply below_alloc | apply pw_below_drewN | apply below_drew1 | refine below_set ?_ GE419.out | refine below_set ?_ GE420.out) | exact HB.out))) : w.heap.size ≤ gb421)); have n5_ := Aside0.mk ((by rw [hg]; exact (below_size (by repeat (first | (with_reducible first | exact HB.out | apply below_alloc | apply pw_below_drewN | apply below_drew1 | refine below_set ?_ GE419.out | refine below_set ?_ GE420.out) | exact HB.out))) : w.heap.size ≤ gb421)); have n6_ := Aside0.mk ((by rw [hg]; exact Nat.ne_of_lt (blk_lt (g := gb419) (o := .cells #[.int .i64 a0_0, .int .i64 a0_1, .int .i64 a0_2, .int .i64 a0_3, .int .i64 a0_4, .int .i64 a0_5, .bool a0_6] 23 (0, 0)) (by (with_reducible repeat (first | refine blk_drewN ?_ _ | refine blk_drew ?_ | refine blk_alloc ?_ _)); exact BK419.out)) : gb419 ≠ gb421)); have n7_ := Aside0.mk ((by rw [hg]; exact Nat.ne_of_gt (blk_lt (g := gb419) (o := .cells #[.int .i64 a0_0, .int .i64 a0_1, .int .i64 a0_2, .int .i64 a0_3, .int .i64 a0_4, .int .i64 a0_5, .bool a0_6] 23 (0, 0)) (by (with_reducible repeat (first | refine blk_drewN ?_ _ | refine blk_drew ?_ | refine blk_alloc ?_ _)); exact BK419.out)) : gb421 ≠ gb419)); have n8_ := Aside0.mk ((by rw [hg]; exact Nat.ne_of_lt (blk_lt (g := gb420) (o := .cells #[.int .i64 a1_0, .int .i64 a1_1, .int .i64 a1_2] 36 (0, 0)) (by (with_reducible repeat (first | refine blk_drewN ?_ _ | refine blk_drew ?_ | refine blk_alloc ?_ _)); exact BK420.out)) : gb420 ≠ gb421)); have n9_ := Aside0.mk ((by rw [hg]; exact Nat.ne_of_gt (blk_lt (g := gb420) (o := .cells #[.int .i64 a1_0, .int .i64 a1_1, .int .i64 a1_2] 36 (0, 0)) (by (with_reducible repeat (first | refine blk_drewN ?_ _ | refine blk_drew ?_ | refine blk_alloc ?_ _)); exact BK420.out)) : gb421 ≠ gb420)); clear BK419; clear BK420; clear HB; have BK419 := n0_; have BK420 := n1_; have HB := n2_; have BK421 := n3_; have GW421 := n4_; have GE421 := n5_; have NB419_421 := n6_; have NB421_419 := n7_; have NB420_421 := n8_; have NB421_420 := n9_; clear n0_ n1_ n2_ n3_ n4_ n5_ n6_ n7_ n8_ n9_; clear hb hbox hg) | ((with_reducible refine gate_callee (f := 9) rfl ?_); refine goesL_ (some 16) rfl rfl Try.func9 (by kernel_rfl) rfl #[] rfl (by (try simp only [List.map_toArray, List.map_cons, List.map_nil]); first | done | rfl | (simp only [List.length_drop, List.length_take]; rfl)) ?_; (with_reducible refine (swarflaw44_awake.calls k  true _ A4.out).mono ?_); rintro e w27 ⟨rfl, hb⟩; refine ⟨_, rfl, ?_⟩; have n0_ := Aside0.mk (blk_below (g := gb419) (o := .cells #[.int .i64 a0_0, .int .i64 a0_1, .int .i64 a0_2, .int .i64 a0_3, .int .i64 a0_4, .int .i64 a0_5, .bool a0_6] 23 (0, 0)) (by (with_reducible repeat (first | refine blk_drewN ?_ _ | refine blk_drew ?_ | refine blk_alloc ?_ _)); exact BK419.out) hb); have n1_ := Aside0.mk (blk_below (g := gb420) (o := .cells #[.int .i64 a1_0, .int .i64 a1_1, .int .i64 a1_2] 36 (0, 0)) (by (with_reducible repeat (first | refine blk_drewN ?_ _ | refine blk_drew ?_ | refine blk_alloc ?_ _)); exact BK420.out) hb); have n2_ := Aside0.mk (blk_below (g := gb421) (o := .cells #[.slice A2_0 l2_0.length c2_0, .int .u8 a2_1] 64 (0, 0)) (by (with_reducible repeat (first | refine blk_drewN ?_ _ | refine blk_drew ?_ | refine blk_alloc ?_ _)); exact BK421.out) hb); have n3_ := Aside0.mk (below_step (by repeat (first | (with_reducible first | exact HB.out | apply below_alloc | apply pw_below_drewN | apply below_drew1 | refine below_set ?_ GE419.out | refine below_set ?_ GE420.out | refine below_set ?_ GE421.out) | exact HB.out)) hb); clear BK419; clear BK420; clear BK421; clear HB; have BK419 := n0_; have BK420 := n1_; have BK421 := n2_; have HB := n3_; clear n0_ n1_ n2_ n3_; (try clear hb); (try clear hb2); (try clear hk); (try clear hi); have hnb28 := NB421_419.out; have hnc28 := NB419_421.out; have hnb29 := NB421_420.out; have hnc29 := NB420_421.out; have hcz30_0 : w27.cell? ⟨gb421, 0, none⟩ = some (.slice A2_0 l2_0.length c2_0) := (blk_cell BK421.out 0).trans rfl; have hcz30_1 : w27.cell? ⟨gb421, 1, none⟩ = some (.int .u8 a2_1) := (blk_cell BK421.out 1).trans rfl; have hfz30_0 := blk_frozen BK421.out 0; have hfz30_1 := blk_frozen BK421.out 1))
              have n0_ := Aside0.mk (blk_drew BK419.out)
              have n1_ := Aside0.mk (blk_drew BK420.out)
              have n2_ := Aside0.mk (blk_drew BK421.out)
              have n3_ := Aside0.mk (below_drew1 HB.out)
              clear BK419
              clear BK420
              clear BK421
              clear HB
              have BK419 := n0_
              have BK420 := n1_
              have BK421 := n2_
              have HB := n3_
              clear n0_ n1_ n2_ n3_
              refine start_ (n := 10) (S := fun w' => w'.cell? ⟨gb419, 0, none⟩ = some (.int .i64 a0_0) ∧ w'.cell? ⟨gb419, 1, none⟩ = some (.int .i64 a0_1) ∧ w'.cell? ⟨gb419, 2, none⟩ = some (.int .i64 a0_2) ∧ w'.cell? ⟨gb419, 3, none⟩ = some (.int .i64 a0_3) ∧ w'.cell? ⟨gb419, 4, none⟩ = some (.int .i64 a0_4) ∧ w'.cell? ⟨gb419, 5, none⟩ = some (.int .i64 a0_5) ∧ w'.cell? ⟨gb419, 6, none⟩ = some (.bool a0_6) ∧ w'.cell? ⟨gb420, 0, none⟩ = some (.int .i64 a1_0) ∧ w'.cell? ⟨gb420, 1, none⟩ = some (.int .i64 a1_1) ∧ w'.cell? ⟨gb420, 2, none⟩ = some (.int .i64 a1_2)) (ds := []) #[false, false, false, false, false, false, false, false, false, false] (by kernel_rfl) rfl rfl ⟨(blk_cell BK419.out 0).trans rfl, (blk_cell BK419.out 1).trans rfl, (blk_cell BK419.out 2).trans rfl, (blk_cell BK419.out 3).trans rfl, (blk_cell BK419.out 4).trans rfl, (blk_cell BK419.out 5).trans rfl, (blk_cell BK419.out 6).trans rfl, (blk_cell BK420.out 0).trans rfl, (blk_cell BK420.out 1).trans rfl, (blk_cell BK420.out 2).trans rfl⟩ (fun hHeld => ?_); refine with_tabW swarflaw44_CycleParts.tab6 swarflaw44_CycleParts.bits6 (fun HT_ HW_ => ?_)
              generalize w27.drew = w31 at BK419 BK420 BK421 HB hHeld ⊢
              refine pure_ (i := 2) (N := some 26) (v := ?_) (a' := ?_) #[false, false, true, false, false, false, false, false, false, false] rfl rfl (any_of HT_.out (by kernel_rfl)) (fun _ _ _ h => h) (Or.inl ⟨by rfl, ?_⟩) ?_ ?_
              rotate_left
              · intro w'
                go_simp
                with_reducible rfl
              rotate_left
              · simp only [Act.put, List.setIfInBounds_toArray, List.set_cons_zero, List.set_cons_succ, i64_w, i32_w]
                rfl
              refine take_ (i := 0) (N := some 24) (v := ?_) (a' := ?_) #[true, false, true, false, false, false, false, false, false, false] rfl rfl (take_ofW HT_.out HW_.out (by kernel_rfl)) (fun _ _ _ h => h) (Or.inl ⟨by rfl, ?_⟩) hHeld ?_ ?_
              rotate_left
              · rintro w' ⟨s0, s1, s2, s3, s4, s5, s6, s7, s8, s9⟩
                go_simp
                with_reducible rfl
              rotate_left
              · simp only [Act.put, List.setIfInBounds_toArray, List.set_cons_zero, List.set_cons_succ, i64_w, i32_w]
                rfl
              refine take_ (i := 1) (N := some 25) (v := ?_) (a' := ?_) #[true, true, true, false, false, false, false, false, false, false] rfl rfl (take_ofW HT_.out HW_.out (by kernel_rfl)) (fun _ _ _ h => h) (Or.inl ⟨by rfl, ?_⟩) hHeld ?_ ?_
              rotate_left
              · rintro w' ⟨s0, s1, s2, s3, s4, s5, s6, s7, s8, s9⟩
                go_simp
                with_reducible rfl
              rotate_left
              · simp only [Act.put, List.setIfInBounds_toArray, List.set_cons_zero, List.set_cons_succ, i64_w, i32_w]
                rfl
              refine one_ (i := 3) (N := some 27) #[true, true, true, true, false, false, false, false, false, false] rfl rfl (one_of HT_.out (by kernel_rfl)) (by decide) (fun K hK => ?_)
              refine goes_ Try.func16 (by kernel_rfl) rfl #[.slice A2_0 l2_0.length c2_0] (by rfl) rfl rfl (by (try simp only [List.map_toArray, List.map_cons, List.map_nil]); first | done | rfl | (simp only [List.length_drop, List.length_take]; rfl)) ?_
              with_reducible refine (api_Grid2.calls _ _ l2_0 t423 _ ?side1 ?side2 A14.out).mono ?_
              (case side1 => repeat (first | exact (Kd.C_below HR2_0.out HB.out) | (with_reducible refine Kd.C_alloc ?_ _) | (with_reducible refine Kd.C_drewN ?_ _) | (with_reducible refine Kd.C_drew ?_)))
              (case side2 => exact HC2_0.out)
              rintro e w32 ⟨v424, rfl, ho0, hb⟩
              refine ⟨_, rfl, ?_⟩
              have n0_ := Aside0.mk (Kd.R_lower ho0 (below_size (by repeat (first | (with_reducible first | exact HB.out | apply below_alloc | apply pw_below_drewN | apply below_drew1 | refine below_set ?_ GE419.out | refine below_set ?_ GE420.out | refine below_set ?_ GE421.out) | exact HB.out))))
              have n1_ := Aside0.mk (blk_below (g := gb419) (o := .cells #[.int .i64 a0_0, .int .i64 a0_1, .int .i64 a0_2, .int .i64 a0_3, .int .i64 a0_4, .int .i64 a0_5, .bool a0_6] 23 (0, 0)) (by (with_reducible repeat (first | refine blk_drewN ?_ _ | refine blk_drew ?_ | refine blk_alloc ?_ _)); exact BK419.out) hb)
              have n2_ := Aside0.mk (blk_below (g := gb420) (o := .cells #[.int .i64 a1_0, .int .i64 a1_1, .int .i64 a1_2] 36 (0, 0)) (by (with_reducible repeat (first | refine blk_drewN ?_ _ | refine blk_drew ?_ | refine blk_alloc ?_ _)); exact BK420.out) hb)
              have n3_ := Aside0.mk (blk_below (g := gb421) (o := .cells #[.slice A2_0 l2_0.length c2_0, .int .u8 a2_1] 64 (0, 0)) (by (with_reducible repeat (first | refine blk_drewN ?_ _ | refine blk_drew ?_ | refine blk_alloc ?_ _)); exact BK421.out) hb)
              have n4_ := Aside0.mk (below_step (by repeat (first | (with_reducible first | exact HB.out | apply below_alloc | apply pw_below_drewN | apply below_drew1 | refine below_set ?_ GE419.out | refine below_set ?_ GE420.out | refine below_set ?_ GE421.out) | exact HB.out)) hb)
              clear BK419
              clear BK420
              clear BK421
              clear HB
              have HO425 := n0_
              have BK419 := n1_
              have BK420 := n2_
              have BK421 := n3_
              have HB := n4_
              clear n0_ n1_ n2_ n3_ n4_
              (try clear hb)
              (try clear hb2)
              (try clear hk)
              (try clear hi)
              (try clear ho0)
              obtain ⟨Ao33, co33, eo33⟩ := Kd.R_slice HO425.out
              (first | subst eo33 | (injection eo33 with f1_ f2_ f3_; have f4_ := f1_.symm; have f5_ := f3_.symm; clear f1_ f2_ f3_; subst f4_; subst f5_))
              refine hK.out _ _ ⟨(blk_cell BK419.out 0).trans rfl, (blk_cell BK419.out 1).trans rfl, (blk_cell BK419.out 2).trans rfl, (blk_cell BK419.out 3).trans rfl, (blk_cell BK419.out 4).trans rfl, (blk_cell BK419.out 5).trans rfl, (blk_cell BK419.out 6).trans rfl, (blk_cell BK420.out 0).trans rfl, (blk_cell BK420.out 1).trans rfl, (blk_cell BK420.out 2).trans rfl⟩ (fun hHeld => ?_)
              clear hK K
              refine norm_ (a' := ?_) ?_ ?_
              rotate_left
              · show Act.put _ (some 27) _ = _
                simp only [Act.put, List.setIfInBounds_toArray, List.set_cons_zero, List.set_cons_succ, i64_w, i32_w]
                rfl
              refine one_ (i := 4) (N := some 28) #[true, true, true, true, true, false, false, false, false, false] rfl rfl (one_of HT_.out (by kernel_rfl)) (by decide) (fun K hK => ?_)
              refine goes_ Try.func15 (by kernel_rfl) rfl #[.agg #[.int .i64 a0_0, .int .i64 a0_1, .int .i64 a0_2, .int .i64 a0_3, .int .i64 a0_4, .int .i64 a0_5, .bool a0_6], .agg #[.int .i64 a1_0, .int .i64 a1_1, .int .i64 a1_2], .slice Ao33 t423.length co33] (by rfl) rfl rfl (by (try simp only [List.map_toArray, List.map_cons, List.map_nil]); first | done | rfl | (simp only [List.length_drop, List.length_take]; rfl)) ?_
              with_reducible refine (cycle_Expand.calls k a0_0 a0_1 a0_2 a0_3 a0_4 a0_5 a0_6 a1_0 a1_1 a1_2 _ _ t423 t426 t429 _ ?side1 ?side2 A15.out).mono ?_
              (case side1 => repeat (first | exact (Kd.R_reads' HO425.out).2.2 | (with_reducible refine Kd.C_alloc ?_ _) | (with_reducible refine Kd.C_drewN ?_ _) | (with_reducible refine Kd.C_drew ?_)))
              (case side2 => exact (Kd.R_reads' HO425.out).2.1)
              rintro e w34 ⟨v427, rfl, ho0, hb⟩
              refine ⟨_, rfl, ?_⟩
              have n0_ := Aside0.mk (Kd.R_below (by (with_reducible repeat (first | apply Kd.R_alloc | apply Kd.R_drewN | apply Kd.R_drew)); exact HO425.out) hb)
              have n1_ := Aside0.mk (Kd.R_lower ho0 (below_size (by repeat (first | (with_reducible first | exact HB.out | apply below_alloc | apply pw_below_drewN | apply below_drew1 | refine below_set ?_ GE419.out | refine below_set ?_ GE420.out | refine below_set ?_ GE421.out) | exact HB.out))))
              have n2_ := Aside0.mk (blk_below (g := gb419) (o := .cells #[.int .i64 a0_0, .int .i64 a0_1, .int .i64 a0_2, .int .i64 a0_3, .int .i64 a0_4, .int .i64 a0_5, .bool a0_6] 23 (0, 0)) (by (with_reducible repeat (first | refine blk_drewN ?_ _ | refine blk_drew ?_ | refine blk_alloc ?_ _)); exact BK419.out) hb)
              have n3_ := Aside0.mk (blk_below (g := gb420) (o := .cells #[.int .i64 a1_0, .int .i64 a1_1, .int .i64 a1_2] 36 (0, 0)) (by (with_reducible repeat (first | refine blk_drewN ?_ _ | refine blk_drew ?_ | refine blk_alloc ?_ _)); exact BK420.out) hb)
              have n4_ := Aside0.mk (blk_below (g := gb421) (o := .cells #[.slice A2_0 l2_0.length c2_0, .int .u8 a2_1] 64 (0, 0)) (by (with_reducible repeat (first | refine blk_drewN ?_ _ | refine blk_drew ?_ | refine blk_alloc ?_ _)); exact BK421.out) hb)
              have n5_ := Aside0.mk (below_step (by repeat (first | (with_reducible first | exact HB.out | apply below_alloc | apply pw_below_drewN | apply below_drew1 | refine below_set ?_ GE419.out | refine below_set ?_ GE420.out | refine below_set ?_ GE421.out) | exact HB.out)) hb)
              clear HO425
              clear BK419
              clear BK420
              clear BK421
              clear HB
              have HO425 := n0_
              have HO428 := n1_
              have BK419 := n2_
              have BK420 := n3_
              have BK421 := n4_
              have HB := n5_
              clear n0_ n1_ n2_ n3_ n4_ n5_
              (try clear hb)
              (try clear hb2)
              (try clear hk)
              (try clear hi)
              (try clear ho0)
              refine hK.out _ _ ⟨(blk_cell BK419.out 0).trans rfl, (blk_cell BK419.out 1).trans rfl, (blk_cell BK419.out 2).trans rfl, (blk_cell BK419.out 3).trans rfl, (blk_cell BK419.out 4).trans rfl, (blk_cell BK419.out 5).trans rfl, (blk_cell BK419.out 6).trans rfl, (blk_cell BK420.out 0).trans rfl, (blk_cell BK420.out 1).trans rfl, (blk_cell BK420.out 2).trans rfl⟩ (fun hHeld => ?_)
              clear hK K
              refine norm_ (a' := ?_) ?_ ?_
              rotate_left
              · show Act.put _ (some 28) _ = _
                simp only [Act.put, List.setIfInBounds_toArray, List.set_cons_zero, List.set_cons_succ, i64_w, i32_w]
                rfl
              refine pure_ (i := 5) (N := some 23) (v := ?_) (a' := ?_) #[true, true, true, true, true, true, false, false, false, false] rfl rfl (any_of HT_.out (by kernel_rfl)) (fun _ _ _ h => h) (Or.inl ⟨by rfl, ?_⟩) ?_ ?_
              rotate_left
              · intro w'
                go_simp
                with_reducible rfl
              rotate_left
              · simp only [Act.put, List.setIfInBounds_toArray, List.set_cons_zero, List.set_cons_succ, i64_w, i32_w]
                rfl
              refine pure_ (i := 6) (N := some 29) (v := ?_) (a' := ?_) #[true, true, true, true, true, true, true, false, false, false] rfl rfl (any_of HT_.out (by kernel_rfl)) (fun _ _ _ h => h) (Or.inl ⟨by rfl, ?_⟩) ?_ ?_
              rotate_left
              · intro w'
                go_simp
                with_reducible rfl
              rotate_left
              · simp only [Act.put, List.setIfInBounds_toArray, List.set_cons_zero, List.set_cons_succ, i64_w, i32_w]
                rfl
              refine pure_ (i := 7) (N := some 30) (v := ?_) (a' := ?_) #[true, true, true, true, true, true, true, true, false, false] rfl rfl (any_of HT_.out (by kernel_rfl)) (fun _ _ _ h => h) (Or.inl ⟨by rfl, ?_⟩) ?_ ?_
              rotate_left
              · intro w'
                go_simp
                with_reducible rfl
              rotate_left
              · simp only [Act.put, List.setIfInBounds_toArray, List.set_cons_zero, List.set_cons_succ, i64_w, i32_w]
                rfl
              refine pure_ (i := 8) (N := some 8) (v := ?_) (a' := ?_) #[true, true, true, true, true, true, true, true, true, false] rfl rfl (any_of HT_.out (by kernel_rfl)) (fun _ _ _ h => h) (Or.inl ⟨by rfl, ?_⟩) ?_ ?_
              rotate_left
              · intro w'
                go_simp
                with_reducible rfl
              rotate_left
              · simp only [Act.put, List.setIfInBounds_toArray, List.set_cons_zero, List.set_cons_succ, i64_w, i32_w]
                rfl
              refine pure_ (i := 9) (N := some 9) (v := ?_) (a' := ?_) #[true, true, true, true, true, true, true, true, true, true] rfl rfl (any_of HT_.out (by kernel_rfl)) (fun _ _ _ h => h) (Or.inl ⟨by rfl, ?_⟩) ?_ ?_
              rotate_left
              · intro w'
                go_simp
                with_reducible rfl
              rotate_left
              · simp only [Act.put, List.setIfInBounds_toArray, List.set_cons_zero, List.set_cons_succ, i64_w, i32_w]
                rfl
              refine done_ (done_of HT_.out (by kernel_rfl)) ?_
              have hcz35_0 : w34.cell? ⟨gb421, 0, none⟩ = some (.slice A2_0 l2_0.length c2_0) := (blk_cell BK421.out 0).trans rfl
              have hcz35_1 : w34.cell? ⟨gb421, 1, none⟩ = some (.int .u8 a2_1) := (blk_cell BK421.out 1).trans rfl
              have hfz35_0 := blk_frozen BK421.out 0
              have hfz35_1 := blk_frozen BK421.out 1
              try go_wp2
              have n0_ := Aside0.mk (Kd.R_drew HO425.out)
              have n1_ := Aside0.mk (Kd.R_drew HO428.out)
              have n2_ := Aside0.mk (blk_drew BK419.out)
              have n3_ := Aside0.mk (blk_drew BK420.out)
              have n4_ := Aside0.mk (blk_drew BK421.out)
              have n5_ := Aside0.mk (below_drew1 HB.out)
              clear HO425
              clear HO428
              clear BK419
              clear BK420
              clear BK421
              clear HB
              have HO425 := n0_
              have HO428 := n1_
              have BK419 := n2_
              have BK420 := n3_
              have BK421 := n4_
              have HB := n5_
              clear n0_ n1_ n2_ n3_ n4_ n5_
              have q37 : ((ji18) : Int) ≤ ((l2_0.length : Int) : Int) := of_decide_eq_true (by first | (with_reducible assumption) | assumption)
              obtain ⟨i037, hi037, _, hsz37, _⟩ := info_parts info43
              have hroom37 : l2_0.length ≤ c2_0 := HC2_0.out
              have hC37 : Kd.C k43 _ A2_0 l2_0.length l2_0 := HR2_0.out
              have hcut37 := cut_to (P := Try.prog) 37 43 .i64 Try.underlying37 hi037 A2_0 l2_0.length c2_0 (ji18) (of_decide_eq_true (by first | (with_reducible assumption) | assumption)) q37 hroom37
              have hr37 := Kd.C_take (m := ((ji18) : Int).toNat) hC37 (by omega)
              have hy37 : y430.length = ((ji18) : Int).toNat := (by rw [Ny430.out, List.length_take]; omega)
              rw [← Ny430.out] at hr37
              rw [← hy37] at hcut37
              have HR433 := Aside0.mk hr37
              have HC433 := Aside0.mk (show y430.length ≤ c2_0 from by omega)
              clear hr37 hC37 hroom37 hi037 hsz37
              have KY37 := Aside0.mk hy37
              clear hy37
              replace q37 := eq_true q37
              refine start_ (n := 12) (S := fun w' => w'.cell? ⟨gb419, 0, none⟩ = some (.int .i64 a0_0) ∧ w'.cell? ⟨gb419, 1, none⟩ = some (.int .i64 a0_1) ∧ w'.cell? ⟨gb419, 2, none⟩ = some (.int .i64 a0_2) ∧ w'.cell? ⟨gb419, 3, none⟩ = some (.int .i64 a0_3) ∧ w'.cell? ⟨gb419, 4, none⟩ = some (.int .i64 a0_4) ∧ w'.cell? ⟨gb419, 5, none⟩ = some (.int .i64 a0_5) ∧ w'.cell? ⟨gb419, 6, none⟩ = some (.bool a0_6) ∧ w'.cell? ⟨gb420, 0, none⟩ = some (.int .i64 a1_0) ∧ w'.cell? ⟨gb420, 1, none⟩ = some (.int .i64 a1_1) ∧ w'.cell? ⟨gb420, 2, none⟩ = some (.int .i64 a1_2)) (ds := []) #[false, false, false, false, false, false, false, false, false, false, false, false] (by kernel_rfl) rfl rfl ⟨(blk_cell BK419.out 0).trans rfl, (blk_cell BK419.out 1).trans rfl, (blk_cell BK419.out 2).trans rfl, (blk_cell BK419.out 3).trans rfl, (blk_cell BK419.out 4).trans rfl, (blk_cell BK419.out 5).trans rfl, (blk_cell BK419.out 6).trans rfl, (blk_cell BK420.out 0).trans rfl, (blk_cell BK420.out 1).trans rfl, (blk_cell BK420.out 2).trans rfl⟩ (fun hHeld => ?_); refine with_tabW swarflaw44_CycleParts.tab10 swarflaw44_CycleParts.bits10 (fun HT_ HW_ => ?_)
              generalize w34.drew = w36 at HO425 HO428 BK419 BK420 BK421 HB HR433 hHeld ⊢
              refine pure_ (i := 2) (N := some 43) (v := ?_) (a' := ?_) #[false, false, true, false, false, false, false, false, false, false, false, false] rfl rfl (any_of HT_.out (by kernel_rfl)) (fun _ _ _ h => h) (Or.inl ⟨by rfl, ?_⟩) ?_ ?_
              rotate_left
              · intro w'
                go_simp
                with_reducible rfl
              rotate_left
              · simp only [Act.put, List.setIfInBounds_toArray, List.set_cons_zero, List.set_cons_succ, i64_w, i32_w]
                rfl
              refine pure_ (i := 3) (N := some 44) (v := ?_) (a' := ?_) #[false, false, true, true, false, false, false, false, false, false, false, false] rfl rfl (any_of HT_.out (by kernel_rfl)) (fun _ _ _ h => h) (Or.inl ⟨by rfl, ?_⟩) ?_ ?_
              rotate_left
              · intro w'
                go_simp
                with_reducible rfl
              rotate_left
              · simp only [Act.put, List.setIfInBounds_toArray, List.set_cons_zero, List.set_cons_succ, i64_w, i32_w]
                rfl
              refine pure_ (i := 4) (N := some 45) (v := ?_) (a' := ?_) #[false, false, true, true, true, false, false, false, false, false, false, false] rfl rfl (any_of HT_.out (by kernel_rfl)) (fun _ _ _ h => h) (Or.inl ⟨by rfl, ?_⟩) ?_ ?_
              rotate_left
              · intro w'
                go_simp
                with_reducible rfl
              rotate_left
              · simp only [Act.put, List.setIfInBounds_toArray, List.set_cons_zero, List.set_cons_succ, i64_w, i32_w]
                rfl
              refine take_ (i := 0) (N := some 41) (v := ?_) (a' := ?_) #[true, false, true, true, true, false, false, false, false, false, false, false] rfl rfl (take_ofW HT_.out HW_.out (by kernel_rfl)) (fun _ _ _ h => h) (Or.inl ⟨by rfl, ?_⟩) hHeld ?_ ?_
              rotate_left
              · rintro w' ⟨s0, s1, s2, s3, s4, s5, s6, s7, s8, s9⟩
                go_simp
                with_reducible rfl
              rotate_left
              · simp only [Act.put, List.setIfInBounds_toArray, List.set_cons_zero, List.set_cons_succ, i64_w, i32_w]
                rfl
              refine take_ (i := 1) (N := some 42) (v := ?_) (a' := ?_) #[true, true, true, true, true, false, false, false, false, false, false, false] rfl rfl (take_ofW HT_.out HW_.out (by kernel_rfl)) (fun _ _ _ h => h) (Or.inl ⟨by rfl, ?_⟩) hHeld ?_ ?_
              rotate_left
              · rintro w' ⟨s0, s1, s2, s3, s4, s5, s6, s7, s8, s9⟩
                go_simp
                with_reducible rfl
              rotate_left
              · simp only [Act.put, List.setIfInBounds_toArray, List.set_cons_zero, List.set_cons_succ, i64_w, i32_w]
                rfl
              refine one_ (i := 5) (N := some 46) #[true, true, true, true, true, true, false, false, false, false, false, false] rfl rfl (one_of HT_.out (by kernel_rfl)) (by decide) (fun K hK => ?_)
              refine goes_ Try.func16 (by kernel_rfl) rfl #[.slice A2_0 y430.length c2_0] (by rfl) rfl rfl (by (try simp only [List.map_toArray, List.map_cons, List.map_nil]); first | done | rfl | (simp only [List.length_drop, List.length_take]; rfl)) ?_
              with_reducible refine (api_Grid2.calls _ _ y430 t434 _ ?side1 ?side2 A21.out).mono ?_
              (case side1 => repeat (first | exact (Kd.C_below HR433.out HB.out) | (with_reducible refine Kd.C_alloc ?_ _) | (with_reducible refine Kd.C_drewN ?_ _) | (with_reducible refine Kd.C_drew ?_)))
              (case side2 => exact HC433.out)
              rintro e w38 ⟨v435, rfl, ho0, hb⟩
              refine ⟨_, rfl, ?_⟩
              have n0_ := Aside0.mk (Kd.R_elder' (by (with_reducible repeat (first | apply Kd.R_alloc | apply Kd.R_drewN | apply Kd.R_drew)); exact HO425.out) (Kd.R_base ho0) hb)
              have n1_ := Aside0.mk (Kd.R_below (by (with_reducible repeat (first | apply Kd.R_alloc | apply Kd.R_drewN | apply Kd.R_drew)); exact HO428.out) hb)
              have n2_ := Aside0.mk (Kd.R_lower (Kd.R_new' ho0 (Kd.R_lt (by (with_reducible repeat (first | apply Kd.R_alloc | apply Kd.R_drewN | apply Kd.R_drew)); exact HO425.out))) (below_size (by repeat (first | (with_reducible first | exact HB.out | apply below_alloc | apply pw_below_drewN | apply below_drew1 | refine below_set ?_ GE419.out | refine below_set ?_ GE420.out | refine below_set ?_ GE421.out) | exact HB.out))))
              have n3_ := Aside0.mk (blk_below (g := gb419) (o := .cells #[.int .i64 a0_0, .int .i64 a0_1, .int .i64 a0_2, .int .i64 a0_3, .int .i64 a0_4, .int .i64 a0_5, .bool a0_6] 23 (0, 0)) (by (with_reducible repeat (first | refine blk_drewN ?_ _ | refine blk_drew ?_ | refine blk_alloc ?_ _)); exact BK419.out) hb)
              have n4_ := Aside0.mk (blk_below (g := gb420) (o := .cells #[.int .i64 a1_0, .int .i64 a1_1, .int .i64 a1_2] 36 (0, 0)) (by (with_reducible repeat (first | refine blk_drewN ?_ _ | refine blk_drew ?_ | refine blk_alloc ?_ _)); exact BK420.out) hb)
              have n5_ := Aside0.mk (blk_below (g := gb421) (o := .cells #[.slice A2_0 l2_0.length c2_0, .int .u8 a2_1] 64 (0, 0)) (by (with_reducible repeat (first | refine blk_drewN ?_ _ | refine blk_drew ?_ | refine blk_alloc ?_ _)); exact BK421.out) hb)
              have n6_ := Aside0.mk (below_step (by repeat (first | (with_reducible first | exact HB.out | apply below_alloc | apply pw_below_drewN | apply below_drew1 | refine below_set ?_ GE419.out | refine below_set ?_ GE420.out | refine below_set ?_ GE421.out) | exact HB.out)) hb)
              clear HO425
              clear HO428
              clear BK419
              clear BK420
              clear BK421
              clear HB
              have HO425 := n0_
              have HO428 := n1_
              have HO436 := n2_
              have BK419 := n3_
              have BK420 := n4_
              have BK421 := n5_
              have HB := n6_
              clear n0_ n1_ n2_ n3_ n4_ n5_ n6_
              (try clear hb)
              (try clear hb2)
              (try clear hk)
              (try clear hi)
              (try clear ho0)
              obtain ⟨Ao39, co39, eo39⟩ := Kd.R_slice HO436.out
              (first | subst eo39 | (injection eo39 with f1_ f2_ f3_; have f4_ := f1_.symm; have f5_ := f3_.symm; clear f1_ f2_ f3_; subst f4_; subst f5_))
              refine hK.out _ _ ⟨(blk_cell BK419.out 0).trans rfl, (blk_cell BK419.out 1).trans rfl, (blk_cell BK419.out 2).trans rfl, (blk_cell BK419.out 3).trans rfl, (blk_cell BK419.out 4).trans rfl, (blk_cell BK419.out 5).trans rfl, (blk_cell BK419.out 6).trans rfl, (blk_cell BK420.out 0).trans rfl, (blk_cell BK420.out 1).trans rfl, (blk_cell BK420.out 2).trans rfl⟩ (fun hHeld => ?_)
              clear hK K
              refine norm_ (a' := ?_) ?_ ?_
              rotate_left
              · show Act.put _ (some 46) _ = _
                simp only [Act.put, List.setIfInBounds_toArray, List.set_cons_zero, List.set_cons_succ, i64_w, i32_w]
                rfl
              refine one_ (i := 6) (N := some 47) #[true, true, true, true, true, true, true, false, false, false, false, false] rfl rfl (one_of HT_.out (by kernel_rfl)) (by decide) (fun K hK => ?_)
              refine goes_ Try.func15 (by kernel_rfl) rfl #[.agg #[.int .i64 a0_0, .int .i64 a0_1, .int .i64 a0_2, .int .i64 a0_3, .int .i64 a0_4, .int .i64 a0_5, .bool a0_6], .agg #[.int .i64 a1_0, .int .i64 a1_1, .int .i64 a1_2], .slice Ao39 t434.length co39] (by rfl) rfl rfl (by (try simp only [List.map_toArray, List.map_cons, List.map_nil]); first | done | rfl | (simp only [List.length_drop, List.length_take]; rfl)) ?_
              with_reducible refine (cycle_Expand.calls k a0_0 a0_1 a0_2 a0_3 a0_4 a0_5 a0_6 a1_0 a1_1 a1_2 _ _ t434 t437 t440 _ ?side1 ?side2 A22.out).mono ?_
              (case side1 => repeat (first | exact (Kd.R_reads' HO436.out).2.2 | (with_reducible refine Kd.C_alloc ?_ _) | (with_reducible refine Kd.C_drewN ?_ _) | (with_reducible refine Kd.C_drew ?_)))
              (case side2 => exact (Kd.R_reads' HO436.out).2.1)
              rintro e w40 ⟨v438, rfl, ho0, hb⟩
              refine ⟨_, rfl, ?_⟩
              have n0_ := Aside0.mk (Kd.R_below (by (with_reducible repeat (first | apply Kd.R_alloc | apply Kd.R_drewN | apply Kd.R_drew)); exact HO425.out) hb)
              have n1_ := Aside0.mk (Kd.R_elder' (by (with_reducible repeat (first | apply Kd.R_alloc | apply Kd.R_drewN | apply Kd.R_drew)); exact HO428.out) (Kd.R_base ho0) hb)
              have n2_ := Aside0.mk (Kd.R_below (by (with_reducible repeat (first | apply Kd.R_alloc | apply Kd.R_drewN | apply Kd.R_drew)); exact HO436.out) hb)
              have n3_ := Aside0.mk (Kd.R_lower (Kd.R_new' ho0 (Kd.R_lt (by (with_reducible repeat (first | apply Kd.R_alloc | apply Kd.R_drewN | apply Kd.R_drew)); exact HO428.out))) (below_size (by repeat (first | (with_reducible first | exact HB.out | apply below_alloc | apply pw_below_drewN | apply below_drew1 | refine below_set ?_ GE419.out | refine below_set ?_ GE420.out | refine below_set ?_ GE421.out) | exact HB.out))))
              have n4_ := Aside0.mk (blk_below (g := gb419) (o := .cells #[.int .i64 a0_0, .int .i64 a0_1, .int .i64 a0_2, .int .i64 a0_3, .int .i64 a0_4, .int .i64 a0_5, .bool a0_6] 23 (0, 0)) (by (with_reducible repeat (first | refine blk_drewN ?_ _ | refine blk_drew ?_ | refine blk_alloc ?_ _)); exact BK419.out) hb)
              have n5_ := Aside0.mk (blk_below (g := gb420) (o := .cells #[.int .i64 a1_0, .int .i64 a1_1, .int .i64 a1_2] 36 (0, 0)) (by (with_reducible repeat (first | refine blk_drewN ?_ _ | refine blk_drew ?_ | refine blk_alloc ?_ _)); exact BK420.out) hb)
              have n6_ := Aside0.mk (blk_below (g := gb421) (o := .cells #[.slice A2_0 l2_0.length c2_0, .int .u8 a2_1] 64 (0, 0)) (by (with_reducible repeat (first | refine blk_drewN ?_ _ | refine blk_drew ?_ | refine blk_alloc ?_ _)); exact BK421.out) hb)
              have n7_ := Aside0.mk (below_step (by repeat (first | (with_reducible first | exact HB.out | apply below_alloc | apply pw_below_drewN | apply below_drew1 | refine below_set ?_ GE419.out | refine below_set ?_ GE420.out | refine below_set ?_ GE421.out) | exact HB.out)) hb)
              clear HO425
              clear HO428
              clear HO436
              clear BK419
              clear BK420
              clear BK421
              clear HB
              have HO425 := n0_
              have HO428 := n1_
              have HO436 := n2_
              have HO439 := n3_
              have BK419 := n4_
              have BK420 := n5_
              have BK421 := n6_
              have HB := n7_
              clear n0_ n1_ n2_ n3_ n4_ n5_ n6_ n7_
              (try clear hb)
              (try clear hb2)
              (try clear hk)
              (try clear hi)
              (try clear ho0)
              refine hK.out _ _ ⟨(blk_cell BK419.out 0).trans rfl, (blk_cell BK419.out 1).trans rfl, (blk_cell BK419.out 2).trans rfl, (blk_cell BK419.out 3).trans rfl, (blk_cell BK419.out 4).trans rfl, (blk_cell BK419.out 5).trans rfl, (blk_cell BK419.out 6).trans rfl, (blk_cell BK420.out 0).trans rfl, (blk_cell BK420.out 1).trans rfl, (blk_cell BK420.out 2).trans rfl⟩ (fun hHeld => ?_)
              clear hK K
              refine norm_ (a' := ?_) ?_ ?_
              rotate_left
              · show Act.put _ (some 47) _ = _
                simp only [Act.put, List.setIfInBounds_toArray, List.set_cons_zero, List.set_cons_succ, i64_w, i32_w]
                rfl
              refine pure_ (i := 7) (N := some 40) (v := ?_) (a' := ?_) #[true, true, true, true, true, true, true, true, false, false, false, false] rfl rfl (any_of HT_.out (by kernel_rfl)) (fun _ _ _ h => h) (Or.inl ⟨by rfl, ?_⟩) ?_ ?_
              rotate_left
              · intro w'
                go_simp
                with_reducible rfl
              rotate_left
              · simp only [Act.put, List.setIfInBounds_toArray, List.set_cons_zero, List.set_cons_succ, i64_w, i32_w]
                rfl
              refine pure_ (i := 8) (N := some 48) (v := ?_) (a' := ?_) #[true, true, true, true, true, true, true, true, true, false, false, false] rfl rfl (any_of HT_.out (by kernel_rfl)) (fun _ _ _ h => h) (Or.inl ⟨by rfl, ?_⟩) ?_ ?_
              rotate_left
              · intro w'
                go_simp
                with_reducible rfl
              rotate_left
              · simp only [Act.put, List.setIfInBounds_toArray, List.set_cons_zero, List.set_cons_succ, i64_w, i32_w]
                rfl
              refine pure_ (i := 9) (N := some 49) (v := ?_) (a' := ?_) #[true, true, true, true, true, true, true, true, true, true, false, false] rfl rfl (any_of HT_.out (by kernel_rfl)) (fun _ _ _ h => h) (Or.inl ⟨by rfl, ?_⟩) ?_ ?_
              rotate_left
              · intro w'
                go_simp
                with_reducible rfl
              rotate_left
              · simp only [Act.put, List.setIfInBounds_toArray, List.set_cons_zero, List.set_cons_succ, i64_w, i32_w]
                rfl
              refine pure_ (i := 10) (N := some 11) (v := ?_) (a' := ?_) #[true, true, true, true, true, true, true, true, true, true, true, false] rfl rfl (any_of HT_.out (by kernel_rfl)) (fun _ _ _ h => h) (Or.inl ⟨by rfl, ?_⟩) ?_ ?_
              rotate_left
              · intro w'
                go_simp
                with_reducible rfl
              rotate_left
              · simp only [Act.put, List.setIfInBounds_toArray, List.set_cons_zero, List.set_cons_succ, i64_w, i32_w]
                rfl
              refine pure_ (i := 11) (N := some 12) (v := ?_) (a' := ?_) #[true, true, true, true, true, true, true, true, true, true, true, true] rfl rfl (any_of HT_.out (by kernel_rfl)) (fun _ _ _ h => h) (Or.inl ⟨by rfl, ?_⟩) ?_ ?_
              rotate_left
              · intro w'
                go_simp
                with_reducible rfl
              rotate_left
              · simp only [Act.put, List.setIfInBounds_toArray, List.set_cons_zero, List.set_cons_succ, i64_w, i32_w]
                rfl
              refine done_ (done_of HT_.out (by kernel_rfl)) ?_
              have hnb41 := NB420_419.out
              have hnc41 := NB419_420.out
              have hcz42_0 : w40.cell? ⟨gb420, 0, none⟩ = some (.int .i64 a1_0) := (blk_cell BK420.out 0).trans rfl
              have hcz42_1 : w40.cell? ⟨gb420, 1, none⟩ = some (.int .i64 a1_1) := (blk_cell BK420.out 1).trans rfl
              have hcz42_2 : w40.cell? ⟨gb420, 2, none⟩ = some (.int .i64 a1_2) := (blk_cell BK420.out 2).trans rfl
              have hfz42_0 := blk_frozen BK420.out 0
              have hfz42_1 := blk_frozen BK420.out 1
              have hfz42_2 := blk_frozen BK420.out 2
              go_upto_if 53 with (first | ((with_reducible refine gate_dst (N := 13) rfl ?_); (try (refine gate_guard (by rfl) ?_; dsimp only)); refine box_event ?hg (N := 13) ?hd (cs := #[.int .i64 0, .int .i64 0, .int .i64 0]) (t := 36) ?hr ?_; (case hd => rfl); (case hg => rfl); (case hr => first | (go_simp; done) | (go_simp; rfl)); intro gb441 hg w43 hbox hb; have n0_ := Aside0.mk (Kd.R_below (by (with_reducible repeat (first | apply Kd.R_alloc | apply Kd.R_drewN | apply Kd.R_drew)); exact HO425.out) hb); have n1_ := Aside0.mk (Kd.R_below (by (with_reducible repeat (first | apply Kd.R_alloc | apply Kd.R_drewN | apply Kd.R_drew)); exact HO428.out) hb); have n2_ := Aside0.mk (Kd.R_below (by (with_reducible repeat (first | apply Kd.R_alloc | apply Kd.R_drewN | apply Kd.R_drew)); exact HO436.out) hb); have n3_ := Aside0.mk (Kd.R_below (by (with_reducible repeat (first | apply Kd.R_alloc | apply Kd.R_drewN | apply Kd.R_drew)); exact HO439.out) hb); have n4_ := Aside0.mk (blk_below (g := gb419) (o := .cells #[.int .i64 a0_0, .int .i64 a0_1, .int .i64 a0_2, .int .i64 a0_3, .int .i64 a0_4, .int .i64 a0_5, .bool a0_6] 23 (0, 0)) (by (with_reducible repeat (first | refine blk_drewN ?_ _ | refine blk_drew ?_ | refine blk_alloc ?_ _)); exact BK419.out) hb); have n5_ := Aside0.mk (blk_below (g := gb420) (o := .cells #[.int .i64 a1_0, .int .i64 a1_1, .int .i64 a1_2] 36 (0, 0)) (by (with_reducible repeat (first | refine blk_drewN ?_ _ | refine blk_drew ?_ | refine blk_alloc ?_ _)); exact BK420.out) hb); have n6_ := Aside0.mk (blk_below (g := gb421) (o := .cells #[.slice A2_0 l2_0.length c2_0, .int .u8 a2_1] 64 (0, 0)) (by (with_reducible repeat (first | refine blk_drewN ?_ _ | refine blk_drew ?_ | refine blk_alloc ?_ _)); exact BK421.out) hb); have n7_ := Aside0.mk (below_step (by repeat (first | (with_reducible first | exact HB.out | apply below_alloc | apply pw_below_drewN | apply below_drew1 | refine below_set ?_ GE419.out | refine below_set ?_ GE420.out | refine below_set ?_ GE421.out) | exact HB.out)) hb); have n8_ := Aside0.mk (hbox); have n9_ := Aside0.mk ((by rw [hg]; exact (below_size (by repeat (first | (with_reducible first | exact HB.out | apply below_alloc | apply pw_below_drewN | apply below_drew1 | refine below_set ?_ GE419.out | refine below_set ?_ GE420.out | refine below_set ?_ GE421.out) | exact HB.out))) : w.heap.size ≤ gb441)); have n10_ := Aside0.mk ((by rw [hg]; exact (below_size (by repeat (first | (with_reducible first | exact HB.out | apply below_alloc | apply pw_below_drewN | apply below_drew1 | refine below_set ?_ GE419.out | refine below_set ?_ GE420.out | refine below_set ?_ GE421.out) | exact HB.out))) : w.heap.size ≤ gb441)); have n11_ := Aside0.mk ((by rw [hg]; exact Nat.ne_of_lt (blk_lt (g := gb419) (o := .cells #[.int .i64 a0_0, .int .i64 a0_1, .int .i64 a0_2, .int .i64 a0_3, .int .i64 a0_4, .int .i64 a0_5, .bool a0_6] 23 (0, 0)) (by (with_reducible repeat (first | refine blk_drewN ?_ _ | refine blk_drew ?_ | refine blk_alloc ?_ _)); exact BK419.out)) : gb419 ≠ gb441)); have n12_ := Aside0.mk ((by rw [hg]; exact Nat.ne_of_gt (blk_lt (g := gb419) (o := .cells #[.int .i64 a0_0, .int .i64 a0_1, .int .i64 a0_2, .int .i64 a0_3, .int .i64 a0_4, .int .i64 a0_5, .bool a0_6] 23 (0, 0)) (by (with_reducible repeat (first | refine blk_drewN ?_ _ | refine blk_drew ?_ | refine blk_alloc ?_ _)); exact BK419.out)) : gb441 ≠ gb419)); have n13_ := Aside0.mk ((by rw [hg]; exact Nat.ne_of_lt (blk_lt (g := gb420) (o := .cells #[.int .i64 a1_0, .int .i64 a1_1, .int .i64 a1_2] 36 (0, 0)) (by (with_reducible repeat (first | refine blk_drewN ?_ _ | refine blk_drew ?_ | refine blk_alloc ?_ _)); exact BK420.out)) : gb420 ≠ gb441)); have n14_ := Aside0.mk ((by rw [hg]; exact Nat.ne_of_gt (blk_lt (g := gb420) (o := .cells #[.int .i64 a1_0, .int .i64 a1_1, .int .i64 a1_2] 36 (0, 0)) (by (with_reducible repeat (first | refine blk_drewN ?_ _ | refine blk_drew ?_ | refine blk_alloc ?_ _)); exact BK420.out)) : gb441 ≠ gb420)); have n15_ := Aside0.mk ((by rw [hg]; exact Nat.ne_of_lt (blk_lt (g := gb421) (o := .cells #[.slice A2_0 l2_0.length c2_0, .int .u8 a2_1] 64 (0, 0)) (by (with_reducible repeat (first | refine blk_drewN ?_ _ | refine blk_drew ?_ | refine blk_alloc ?_ _)); exact BK421.out)) : gb421 ≠ gb441)); have n16_ := Aside0.mk ((by rw [hg]; exact Nat.ne_of_gt (blk_lt (g := gb421) (o := .cells #[.slice A2_0 l2_0.length c2_0, .int .u8 a2_1] 64 (0, 0)) (by (with_reducible repeat (first | refine blk_drewN ?_ _ | refine blk_drew ?_ | refine blk_alloc ?_ _)); exact BK421.out)) : gb441 ≠ gb421)); clear HO425; clear HO428; clear HO436; clear HO439; clear BK419; clear BK420; clear BK421; clear HB; have HO425 := n0_; have HO428 := n1_; have HO436 := n2_; have HO439 := n3_; have BK419 := n4_; have BK420 := n5_; have BK421 := n6_; have HB := n7_; have BK441 := n8_; have GW441 := n9_; have GE441 := n10_; have NB419_441 := n11_; have NB441_419 := n12_; have NB420_441 := n13_; have NB441_420 := n14_; have NB421_441 := n15_; have NB441_421 := n16_; clear n0_ n1_ n2_ n3_ n4_ n5_ n6_ n7_ n8_ n9_ n10_ n11_ n12_ n13_ n14_ n15_ n16_; clear hb hbox hg; have hnb44 := NB441_419.out; have hnc44 := NB419_441.out; have hnb45 := NB441_420.out; have hnc45 := NB420_441.out; have hnb46 := NB441_421.out; have hnc46 := NB421_441.out; have hcz47_0 : w43.cell? ⟨gb441, 0, none⟩ = some (.int .i64 0) := (blk_cell BK441.out 0).trans rfl; have hcz47_1 : w43.cell? ⟨gb441, 1, none⟩ = some (.int .i64 0) := (blk_cell BK441.out 1).trans rfl; have hcz47_2 : w43.cell? ⟨gb441, 2, none⟩ = some (.int .i64 0) := (blk_cell BK441.out 2).trans rfl; have hfz47_0 := blk_frozen BK441.out 0; have hfz47_1 := blk_frozen BK441.out 1; have hfz47_2 := blk_frozen BK441.out 2; obtain ⟨Ao48, co48, eo48⟩ := Kd.R_slice HO439.out; subst eo48))
              (try simp only [Act.put, List.setIfInBounds_toArray, List.set_cons_zero, List.set_cons_succ])
              go_cut [] (fun wc => ∃ (kq : Nat) (x442000_22 : Int) (x442001_22 : Int) (x442002_22 : Int), Aside0 (swarflaw44_CycleParts.j0 kq l2_0 t426 ji18 t437 t440 a0_0 a0_1 a0_2 a0_3 a0_4 a0_5 a0_6 x442000_22 x442001_22 x442002_22 = some r) ∧ Aside0 (kq ≤ k) ∧ Aside0 (Kd.R k45 45 wc w.heap.size (fun k_ => some k_ ≠ ((.slice Ao48 t437.length co48) : Value).ownBlock) v427 t426) ∧ Aside0 (Kd.R k45 45 wc w.heap.size (fun k_ => some k_ ≠ (v427 : Value).ownBlock) (.slice Ao48 t437.length co48) t437) ∧ Aside0 (wc.heap[gb419]? = some (.cells #[.int .i64 a0_0, .int .i64 a0_1, .int .i64 a0_2, .int .i64 a0_3, .int .i64 a0_4, .int .i64 a0_5, .bool a0_6] 23 (0, 0))) ∧ Aside0 (wc.heap[gb420]? = some (.cells #[.int .i64 a1_0, .int .i64 a1_1, .int .i64 a1_2] 36 (0, 0))) ∧ Aside0 (wc.heap[gb421]? = some (.cells #[(.slice A2_0 l2_0.length c2_0), .int .u8 a2_1] 64 (0, 0))) ∧ Aside0 (wc.heap[gb441]? = some (.cells #[.int .i64 x442000_22, .int .i64 x442001_22, .int .i64 x442002_22] 36 (0, 0))) ∧ Aside0 (Below w.heap.size w wc))
              case first =>
                have H := HC23.out
                clear HC23
                by_cases c49 : (t437.length : Int) > 0
                · rw [if_pos c49] at H
                  have c49b0 : decide (0 < (t437.length : Int)) = true := decide_eq_true c49
                  have c49b1 : decide (0 < t437.length) = true := decide_eq_true (by omega)
                  have c49p : 0 < t437.length := by omega
                  clear c49
                  (first | rw [c49b0] | (simp only [i64_w, i32_w]; rw [c49b0]) | skip)
                  obtain ⟨ji50, hji50⟩ : ∃ j_ : Int, (wrap64 ((t437.length : Int) - 1)) = j_ := ⟨_, rfl⟩
                  replace H : (if 0 ≤ (ji50) then (if (ji50) < (t437.length : Int) then (swarflaw44_CycleParts.j0 k l2_0 t426 ji18 t437 t440 a0_0 a0_1 a0_2 a0_3 a0_4 a0_5 a0_6 ((rd_T45 t437 (ji50)).f1.f0) ((rd_T45 t437 (ji50)).f1.f1) ((rd_T45 t437 (ji50)).f1.f2)) else (none)) else (none)) = some r := by first | (rw [hji50] at H; exact H) | (simp only [hji50] at H ⊢; exact H)
                  have hji50w : (IntKind.i64.wrap ((t437.length : Int) - 1)) = ji50 := (i64_w _).trans hji50
                  by_cases c51 : 0 ≤ (ji50)
                  · rw [if_pos c51] at H
                    have c51b0 : decide (0 ≤ (ji50)) = true := decide_eq_true c51
                    clear c51
                    by_cases c52 : (ji50) < (t437.length : Int)
                    · rw [if_pos c52] at H
                      have c52b0 : decide ((ji50) < (t437.length : Int)) = true := decide_eq_true c52
                      clear c52
                      have H' := Aside0.mk H
                      clear H
                      have p442 : 0 ≤ ((ji50) : Int) := of_decide_eq_true (by first | (with_reducible assumption) | assumption)
                      have q442 : (ji50) < (t437.length : Int) := of_decide_eq_true (by first | (with_reducible assumption) | assumption)
                      obtain ⟨ad442, e442, hx442_0, hx442_1, hx442_2, hx442_3, hx442_4, hx442_5, hx442_6⟩ := at_T45 (Kd.R_reads' HO439.out).2.2 (ji50) p442 q442
                      cases e442
                      have hn442_0 : ad442.block ≠ gb441 := Kd.own_blk (Kd.R_ne HO439.out BK441.out (by decide))
                      have hn442_1 : ad442.block ≠ gb441 := Kd.own_blk (Kd.R_ne HO439.out BK441.out (by decide))
                      have hn442_2 : ad442.block ≠ gb441 := Kd.own_blk (Kd.R_ne HO439.out BK441.out (by decide))
                      replace hx442_0 := (cell_far (p := ⟨gb441, 0, none⟩) (by first | (rw [add_block]; exact hn442_0) | (show (Addr.add _ _).block ≠ _; rw [add_block]; exact hn442_0) | exact hn442_0) (.int .i64 a1_0)).trans hx442_0
                      replace hx442_1 := (cell_far (p := ⟨gb441, 0, none⟩) (by first | (rw [add_block]; exact hn442_0) | (show (Addr.add _ _).block ≠ _; rw [add_block]; exact hn442_0) | exact hn442_0) (.int .i64 a1_0)).trans hx442_1
                      replace hx442_2 := (cell_far (p := ⟨gb441, 0, none⟩) (by first | (rw [add_block]; exact hn442_0) | (show (Addr.add _ _).block ≠ _; rw [add_block]; exact hn442_0) | exact hn442_0) (.int .i64 a1_0)).trans hx442_2
                      replace hx442_3 := (cell_far (p := ⟨gb441, 0, none⟩) (by first | (rw [add_block]; exact hn442_0) | (show (Addr.add _ _).block ≠ _; rw [add_block]; exact hn442_0) | exact hn442_0) (.int .i64 a1_0)).trans hx442_3
                      replace hx442_4 := (cell_far (p := ⟨gb441, 0, none⟩) (by first | (rw [add_block]; exact hn442_0) | (show (Addr.add _ _).block ≠ _; rw [add_block]; exact hn442_0) | exact hn442_0) (.int .i64 a1_0)).trans hx442_4
                      replace hx442_5 := (cell_far (p := ⟨gb441, 0, none⟩) (by first | (rw [add_block]; exact hn442_0) | (show (Addr.add _ _).block ≠ _; rw [add_block]; exact hn442_0) | exact hn442_0) (.int .i64 a1_0)).trans hx442_5
                      replace hx442_6 := (cell_far (p := ⟨gb441, 0, none⟩) (by first | (rw [add_block]; exact hn442_0) | (show (Addr.add _ _).block ≠ _; rw [add_block]; exact hn442_0) | exact hn442_0) (.int .i64 a1_0)).trans hx442_6
                      replace hx442_0 := (cell_far (p := ⟨gb441, 1, none⟩) (by first | (rw [add_block]; exact hn442_1) | (show (Addr.add _ _).block ≠ _; rw [add_block]; exact hn442_1) | exact hn442_1) (.int .i64 a1_1)).trans hx442_0
                      replace hx442_1 := (cell_far (p := ⟨gb441, 1, none⟩) (by first | (rw [add_block]; exact hn442_1) | (show (Addr.add _ _).block ≠ _; rw [add_block]; exact hn442_1) | exact hn442_1) (.int .i64 a1_1)).trans hx442_1
                      replace hx442_2 := (cell_far (p := ⟨gb441, 1, none⟩) (by first | (rw [add_block]; exact hn442_1) | (show (Addr.add _ _).block ≠ _; rw [add_block]; exact hn442_1) | exact hn442_1) (.int .i64 a1_1)).trans hx442_2
                      replace hx442_3 := (cell_far (p := ⟨gb441, 1, none⟩) (by first | (rw [add_block]; exact hn442_1) | (show (Addr.add _ _).block ≠ _; rw [add_block]; exact hn442_1) | exact hn442_1) (.int .i64 a1_1)).trans hx442_3
                      replace hx442_4 := (cell_far (p := ⟨gb441, 1, none⟩) (by first | (rw [add_block]; exact hn442_1) | (show (Addr.add _ _).block ≠ _; rw [add_block]; exact hn442_1) | exact hn442_1) (.int .i64 a1_1)).trans hx442_4
                      replace hx442_5 := (cell_far (p := ⟨gb441, 1, none⟩) (by first | (rw [add_block]; exact hn442_1) | (show (Addr.add _ _).block ≠ _; rw [add_block]; exact hn442_1) | exact hn442_1) (.int .i64 a1_1)).trans hx442_5
                      replace hx442_6 := (cell_far (p := ⟨gb441, 1, none⟩) (by first | (rw [add_block]; exact hn442_1) | (show (Addr.add _ _).block ≠ _; rw [add_block]; exact hn442_1) | exact hn442_1) (.int .i64 a1_1)).trans hx442_6
                      replace hx442_0 := (cell_far (p := ⟨gb441, 2, none⟩) (by first | (rw [add_block]; exact hn442_2) | (show (Addr.add _ _).block ≠ _; rw [add_block]; exact hn442_2) | exact hn442_2) (.int .i64 a1_2)).trans hx442_0
                      replace hx442_1 := (cell_far (p := ⟨gb441, 2, none⟩) (by first | (rw [add_block]; exact hn442_2) | (show (Addr.add _ _).block ≠ _; rw [add_block]; exact hn442_2) | exact hn442_2) (.int .i64 a1_2)).trans hx442_1
                      replace hx442_2 := (cell_far (p := ⟨gb441, 2, none⟩) (by first | (rw [add_block]; exact hn442_2) | (show (Addr.add _ _).block ≠ _; rw [add_block]; exact hn442_2) | exact hn442_2) (.int .i64 a1_2)).trans hx442_2
                      replace hx442_3 := (cell_far (p := ⟨gb441, 2, none⟩) (by first | (rw [add_block]; exact hn442_2) | (show (Addr.add _ _).block ≠ _; rw [add_block]; exact hn442_2) | exact hn442_2) (.int .i64 a1_2)).trans hx442_3
                      replace hx442_4 := (cell_far (p := ⟨gb441, 2, none⟩) (by first | (rw [add_block]; exact hn442_2) | (show (Addr.add _ _).block ≠ _; rw [add_block]; exact hn442_2) | exact hn442_2) (.int .i64 a1_2)).trans hx442_4
                      replace hx442_5 := (cell_far (p := ⟨gb441, 2, none⟩) (by first | (rw [add_block]; exact hn442_2) | (show (Addr.add _ _).block ≠ _; rw [add_block]; exact hn442_2) | exact hn442_2) (.int .i64 a1_2)).trans hx442_5
                      replace hx442_6 := (cell_far (p := ⟨gb441, 2, none⟩) (by first | (rw [add_block]; exact hn442_2) | (show (Addr.add _ _).block ≠ _; rw [add_block]; exact hn442_2) | exact hn442_2) (.int .i64 a1_2)).trans hx442_6
                      clear hn442_0
                      clear hn442_1
                      clear hn442_2
                      replace p442 := eq_true p442
                      replace q442 := eq_true q442
                      have hnb53 := NB441_419.out
                      have hnc53 := NB419_441.out
                      have hnb54 := NB441_420.out
                      have hnc54 := NB420_441.out
                      have hnb55 := NB441_421.out
                      have hnc55 := NB421_441.out
                      have hcz56_0 : w43.cell? ⟨gb441, 0, none⟩ = some (.int .i64 0) := (blk_cell BK441.out 0).trans rfl
                      have hcz56_1 : w43.cell? ⟨gb441, 1, none⟩ = some (.int .i64 0) := (blk_cell BK441.out 1).trans rfl
                      have hcz56_2 : w43.cell? ⟨gb441, 2, none⟩ = some (.int .i64 0) := (blk_cell BK441.out 2).trans rfl
                      have hfz56_0 := blk_frozen BK441.out 0
                      have hfz56_1 := blk_frozen BK441.out 1
                      have hfz56_2 := blk_frozen BK441.out 2
                      go_wp2
                      all_goals (first | (rename_i hz_; exact absurd c49p hz_) | (rename_i hz_; exact absurd hz_ c49p) | skip)
                      go_meet
                      case rel => exact ⟨_, ((rd_T45 t437 (ji50)).f1.f0), ((rd_T45 t437 (ji50)).f1.f1), ((rd_T45 t437 (ji50)).f1.f2), H', ⟨by first | omega | exact Nat.le_refl _⟩, ⟨by (with_reducible repeat (first | apply Kd.R_alloc | apply Kd.R_drewN | apply Kd.R_drew)); exact Kd.R_mono (Kd.R_far (p := ⟨gb441, 2, none⟩) (Kd.R_far (p := ⟨gb441, 1, none⟩) (Kd.R_far (p := ⟨gb441, 0, none⟩) (Kd.R_far (p := ⟨gb441, 2, none⟩) (Kd.R_far (p := ⟨gb441, 1, none⟩) (Kd.R_far (p := ⟨gb441, 0, none⟩) (Kd.R_types HO428.out BK441.out (by decide)) (fun _ hk => hk.2) (.int .i64 a1_0)) (fun _ hk => hk.2) (.int .i64 a1_1)) (fun _ hk => hk.2) (.int .i64 a1_2)) (fun _ hk => hk.2) (.int .i64 ((rd_T45 t437 (ji50)).f1.f0))) (fun _ hk => hk.2) (.int .i64 ((rd_T45 t437 (ji50)).f1.f1))) (fun _ hk => hk.2) (.int .i64 ((rd_T45 t437 (ji50)).f1.f2))) (fun _ hk => hk.1.2)⟩, ⟨by (with_reducible repeat (first | apply Kd.R_alloc | apply Kd.R_drewN | apply Kd.R_drew)); exact Kd.R_mono (Kd.R_far (p := ⟨gb441, 2, none⟩) (Kd.R_far (p := ⟨gb441, 1, none⟩) (Kd.R_far (p := ⟨gb441, 0, none⟩) (Kd.R_far (p := ⟨gb441, 2, none⟩) (Kd.R_far (p := ⟨gb441, 1, none⟩) (Kd.R_far (p := ⟨gb441, 0, none⟩) (Kd.R_types HO439.out BK441.out (by decide)) (fun _ hk => hk.2) (.int .i64 a1_0)) (fun _ hk => hk.2) (.int .i64 a1_1)) (fun _ hk => hk.2) (.int .i64 a1_2)) (fun _ hk => hk.2) (.int .i64 ((rd_T45 t437 (ji50)).f1.f0))) (fun _ hk => hk.2) (.int .i64 ((rd_T45 t437 (ji50)).f1.f1))) (fun _ hk => hk.2) (.int .i64 ((rd_T45 t437 (ji50)).f1.f2))) (fun _ hk => hk.1.2)⟩, ⟨by (with_reducible repeat (first | refine blk_drewN ?_ _ | refine blk_drew ?_ | refine blk_alloc ?_ _)); refine blk_far ?_ NB419_441.out _; (with_reducible repeat (first | refine blk_drewN ?_ _ | refine blk_drew ?_ | refine blk_alloc ?_ _)); refine blk_far ?_ NB419_441.out _; (with_reducible repeat (first | refine blk_drewN ?_ _ | refine blk_drew ?_ | refine blk_alloc ?_ _)); refine blk_far ?_ NB419_441.out _; (with_reducible repeat (first | refine blk_drewN ?_ _ | refine blk_drew ?_ | refine blk_alloc ?_ _)); refine blk_far ?_ NB419_441.out _; (with_reducible repeat (first | refine blk_drewN ?_ _ | refine blk_drew ?_ | refine blk_alloc ?_ _)); refine blk_far ?_ NB419_441.out _; (with_reducible repeat (first | refine blk_drewN ?_ _ | refine blk_drew ?_ | refine blk_alloc ?_ _)); refine blk_far ?_ NB419_441.out _; (with_reducible repeat (first | refine blk_drewN ?_ _ | refine blk_drew ?_ | refine blk_alloc ?_ _)); exact BK419.out⟩, ⟨by (with_reducible repeat (first | refine blk_drewN ?_ _ | refine blk_drew ?_ | refine blk_alloc ?_ _)); refine blk_far ?_ NB420_441.out _; (with_reducible repeat (first | refine blk_drewN ?_ _ | refine blk_drew ?_ | refine blk_alloc ?_ _)); refine blk_far ?_ NB420_441.out _; (with_reducible repeat (first | refine blk_drewN ?_ _ | refine blk_drew ?_ | refine blk_alloc ?_ _)); refine blk_far ?_ NB420_441.out _; (with_reducible repeat (first | refine blk_drewN ?_ _ | refine blk_drew ?_ | refine blk_alloc ?_ _)); refine blk_far ?_ NB420_441.out _; (with_reducible repeat (first | refine blk_drewN ?_ _ | refine blk_drew ?_ | refine blk_alloc ?_ _)); refine blk_far ?_ NB420_441.out _; (with_reducible repeat (first | refine blk_drewN ?_ _ | refine blk_drew ?_ | refine blk_alloc ?_ _)); refine blk_far ?_ NB420_441.out _; (with_reducible repeat (first | refine blk_drewN ?_ _ | refine blk_drew ?_ | refine blk_alloc ?_ _)); exact BK420.out⟩, ⟨by (with_reducible repeat (first | refine blk_drewN ?_ _ | refine blk_drew ?_ | refine blk_alloc ?_ _)); refine blk_far ?_ NB421_441.out _; (with_reducible repeat (first | refine blk_drewN ?_ _ | refine blk_drew ?_ | refine blk_alloc ?_ _)); refine blk_far ?_ NB421_441.out _; (with_reducible repeat (first | refine blk_drewN ?_ _ | refine blk_drew ?_ | refine blk_alloc ?_ _)); refine blk_far ?_ NB421_441.out _; (with_reducible repeat (first | refine blk_drewN ?_ _ | refine blk_drew ?_ | refine blk_alloc ?_ _)); refine blk_far ?_ NB421_441.out _; (with_reducible repeat (first | refine blk_drewN ?_ _ | refine blk_drew ?_ | refine blk_alloc ?_ _)); refine blk_far ?_ NB421_441.out _; (with_reducible repeat (first | refine blk_drewN ?_ _ | refine blk_drew ?_ | refine blk_alloc ?_ _)); refine blk_far ?_ NB421_441.out _; (with_reducible repeat (first | refine blk_drewN ?_ _ | refine blk_drew ?_ | refine blk_alloc ?_ _)); exact BK421.out⟩, ⟨by (with_reducible repeat (first | refine blk_drewN ?_ _ | refine blk_drew ?_ | refine blk_alloc ?_ _)); refine blk_put (cs := #[.int .i64 ((rd_T45 t437 (ji50)).f1.f0), .int .i64 ((rd_T45 t437 (ji50)).f1.f1), .int .i64 a1_2]) ?_ 2 _ rfl; (with_reducible repeat (first | refine blk_drewN ?_ _ | refine blk_drew ?_ | refine blk_alloc ?_ _)); refine blk_put (cs := #[.int .i64 ((rd_T45 t437 (ji50)).f1.f0), .int .i64 a1_1, .int .i64 a1_2]) ?_ 1 _ rfl; (with_reducible repeat (first | refine blk_drewN ?_ _ | refine blk_drew ?_ | refine blk_alloc ?_ _)); refine blk_put (cs := #[.int .i64 a1_0, .int .i64 a1_1, .int .i64 a1_2]) ?_ 0 _ rfl; (with_reducible repeat (first | refine blk_drewN ?_ _ | refine blk_drew ?_ | refine blk_alloc ?_ _)); refine blk_put (cs := #[.int .i64 a1_0, .int .i64 a1_1, .int .i64 0]) ?_ 2 _ rfl; (with_reducible repeat (first | refine blk_drewN ?_ _ | refine blk_drew ?_ | refine blk_alloc ?_ _)); refine blk_put (cs := #[.int .i64 a1_0, .int .i64 0, .int .i64 0]) ?_ 1 _ rfl; (with_reducible repeat (first | refine blk_drewN ?_ _ | refine blk_drew ?_ | refine blk_alloc ?_ _)); refine blk_put (cs := #[.int .i64 0, .int .i64 0, .int .i64 0]) ?_ 0 _ rfl; (with_reducible repeat (first | refine blk_drewN ?_ _ | refine blk_drew ?_ | refine blk_alloc ?_ _)); exact BK441.out⟩, ⟨by repeat (first | (with_reducible first | exact HB.out | apply below_alloc | apply pw_below_drewN | apply below_drew1 | refine below_set ?_ GE419.out | refine below_set ?_ GE420.out | refine below_set ?_ GE421.out | refine below_set ?_ GE441.out) | exact HB.out)⟩⟩
                      all_goals (first | (rename_i hz_; exact absurd c49p hz_) | (rename_i hz_; exact absurd hz_ c49p) | skip)
                    · rw [if_neg c52] at H
                      exact absurd H (by simp)
                  · rw [if_neg c51] at H
                    exact absurd H (by simp)
                · rw [if_neg c49] at H
                  have c49b0 : decide (0 < (t437.length : Int)) = false := decide_eq_false c49
                  have c49b1 : decide (0 < t437.length) = false := decide_eq_false (by omega)
                  have c49p : ¬ 0 < t437.length := by omega
                  clear c49
                  (first | rw [c49b0] | (simp only [i64_w, i32_w]; rw [c49b0]) | skip)
                  have H' := Aside0.mk H
                  clear H
                  go_wp2
                  all_goals (first | (rename_i hz_; exact absurd c49p hz_) | (rename_i hz_; exact absurd hz_ c49p) | skip)
                  go_meet
                  case rel => exact ⟨_, (a1_0), (a1_1), (a1_2), H', ⟨by first | omega | exact Nat.le_refl _⟩, ⟨by (with_reducible repeat (first | apply Kd.R_alloc | apply Kd.R_drewN | apply Kd.R_drew)); exact Kd.R_mono (Kd.R_far (p := ⟨gb441, 2, none⟩) (Kd.R_far (p := ⟨gb441, 1, none⟩) (Kd.R_far (p := ⟨gb441, 0, none⟩) (Kd.R_types HO428.out BK441.out (by decide)) (fun _ hk => hk.2) (.int .i64 a1_0)) (fun _ hk => hk.2) (.int .i64 a1_1)) (fun _ hk => hk.2) (.int .i64 a1_2)) (fun _ hk => hk.1.2)⟩, ⟨by (with_reducible repeat (first | apply Kd.R_alloc | apply Kd.R_drewN | apply Kd.R_drew)); exact Kd.R_mono (Kd.R_far (p := ⟨gb441, 2, none⟩) (Kd.R_far (p := ⟨gb441, 1, none⟩) (Kd.R_far (p := ⟨gb441, 0, none⟩) (Kd.R_types HO439.out BK441.out (by decide)) (fun _ hk => hk.2) (.int .i64 a1_0)) (fun _ hk => hk.2) (.int .i64 a1_1)) (fun _ hk => hk.2) (.int .i64 a1_2)) (fun _ hk => hk.1.2)⟩, ⟨by (with_reducible repeat (first | refine blk_drewN ?_ _ | refine blk_drew ?_ | refine blk_alloc ?_ _)); refine blk_far ?_ NB419_441.out _; (with_reducible repeat (first | refine blk_drewN ?_ _ | refine blk_drew ?_ | refine blk_alloc ?_ _)); refine blk_far ?_ NB419_441.out _; (with_reducible repeat (first | refine blk_drewN ?_ _ | refine blk_drew ?_ | refine blk_alloc ?_ _)); refine blk_far ?_ NB419_441.out _; (with_reducible repeat (first | refine blk_drewN ?_ _ | refine blk_drew ?_ | refine blk_alloc ?_ _)); exact BK419.out⟩, ⟨by (with_reducible repeat (first | refine blk_drewN ?_ _ | refine blk_drew ?_ | refine blk_alloc ?_ _)); refine blk_far ?_ NB420_441.out _; (with_reducible repeat (first | refine blk_drewN ?_ _ | refine blk_drew ?_ | refine blk_alloc ?_ _)); refine blk_far ?_ NB420_441.out _; (with_reducible repeat (first | refine blk_drewN ?_ _ | refine blk_drew ?_ | refine blk_alloc ?_ _)); refine blk_far ?_ NB420_441.out _; (with_reducible repeat (first | refine blk_drewN ?_ _ | refine blk_drew ?_ | refine blk_alloc ?_ _)); exact BK420.out⟩, ⟨by (with_reducible repeat (first | refine blk_drewN ?_ _ | refine blk_drew ?_ | refine blk_alloc ?_ _)); refine blk_far ?_ NB421_441.out _; (with_reducible repeat (first | refine blk_drewN ?_ _ | refine blk_drew ?_ | refine blk_alloc ?_ _)); refine blk_far ?_ NB421_441.out _; (with_reducible repeat (first | refine blk_drewN ?_ _ | refine blk_drew ?_ | refine blk_alloc ?_ _)); refine blk_far ?_ NB421_441.out _; (with_reducible repeat (first | refine blk_drewN ?_ _ | refine blk_drew ?_ | refine blk_alloc ?_ _)); exact BK421.out⟩, ⟨by (with_reducible repeat (first | refine blk_drewN ?_ _ | refine blk_drew ?_ | refine blk_alloc ?_ _)); refine blk_put (cs := #[.int .i64 a1_0, .int .i64 a1_1, .int .i64 0]) ?_ 2 _ rfl; (with_reducible repeat (first | refine blk_drewN ?_ _ | refine blk_drew ?_ | refine blk_alloc ?_ _)); refine blk_put (cs := #[.int .i64 a1_0, .int .i64 0, .int .i64 0]) ?_ 1 _ rfl; (with_reducible repeat (first | refine blk_drewN ?_ _ | refine blk_drew ?_ | refine blk_alloc ?_ _)); refine blk_put (cs := #[.int .i64 0, .int .i64 0, .int .i64 0]) ?_ 0 _ rfl; (with_reducible repeat (first | refine blk_drewN ?_ _ | refine blk_drew ?_ | refine blk_alloc ?_ _)); exact BK441.out⟩, ⟨by repeat (first | (with_reducible first | exact HB.out | apply below_alloc | apply pw_below_drewN | apply below_drew1 | refine below_set ?_ GE419.out | refine below_set ?_ GE420.out | refine below_set ?_ GE421.out | refine below_set ?_ GE441.out) | exact HB.out)⟩⟩
                  all_goals (first | (rename_i hz_; exact absurd c49p hz_) | (rename_i hz_; exact absurd hz_ c49p) | skip)
              case rest =>
                clear HC23
                try clear c1
                try clear c2
                try clear p2
                try clear q3
                try clear c4
                try clear p4
                try clear q4
                try clear hx4
                try clear c5
                try clear c6
                try clear c6b0
                try clear c6b1
                try clear p6
                try clear c8
                try clear c9
                try clear c11
                try clear c12
                try clear c15
                try clear c16
                try clear c16b0
                try clear c16b1
                try clear c17
                try clear c17b0
                try clear c17b1
                try clear c19
                try clear c19b0
                try clear c19b1
                try clear c20
                try clear c20b0
                try clear c20b1
                try clear c28
                try clear c29
                try clear q37
                try clear c41
                try clear c44
                try clear p44
                try clear q44
                try clear hx44
                try clear c45
                try clear c46
                try clear c49
                try clear c49b0
                try clear c49b1
                try clear c51
                try clear c51b0
                try clear c52
                try clear c52b0
                try clear c53
                try clear c54
                try clear c55
                try clear hcz13_0
                try clear hcz13_1
                try clear hcz30_0
                try clear hcz30_1
                try clear hcz35_0
                try clear hcz35_1
                try clear hcz42_0
                try clear hcz42_1
                try clear hcz42_2
                try clear hcz47_0
                try clear hcz47_1
                try clear hcz47_2
                try clear hcz56_0
                try clear hcz56_1
                try clear hcz56_2
                try clear hfz13_0
                try clear hfz13_1
                try clear hfz30_0
                try clear hfz30_1
                try clear hfz35_0
                try clear hfz35_1
                try clear hfz42_0
                try clear hfz42_1
                try clear hfz42_2
                try clear hfz47_0
                try clear hfz47_1
                try clear hfz47_2
                try clear hfz56_0
                try clear hfz56_1
                try clear hfz56_2
                try clear hx442_0
                try clear hx442_1
                try clear hx442_2
                try clear hx442_3
                try clear hx442_4
                try clear hx442_5
                try clear hx442_6
                try clear p442
                try clear q37
                try clear q442
                obtain ⟨kq, x442000_22, x442001_22, x442002_22, HA, HJ22, HO_8, HO_11, BK419, BK420, BK421, BK441, HB⟩ := hcut
                cases kq with
                | zero => exact absurd HA.out (by simp [swarflaw44_CycleParts.j0])
                | succ kj22 =>
                  have H := HA.out
                  clear HA
                  simp only [swarflaw44_CycleParts.j0] at H
                  by_cases c57 : 0 ≤ ji18
                  · rw [if_pos c57] at H
                    have c57b0 := eq_true c57
                    have c57b1 : decide (0 ≤ ji18) = true := decide_eq_true c57
                    clear c57
                    by_cases c58 : ji18 ≤ (l2_0.length : Int)
                    · rw [if_pos c58] at H
                      have c58b0 := eq_true c58
                      have c58b1 : decide (ji18 ≤ (l2_0.length : Int)) = true := decide_eq_true c58
                      clear c58
                      obtain ⟨y443, hy443⟩ : ∃ y_ : List (S43), y_ = (l2_0.drop (ji18 : Int).toNat) := ⟨_, rfl⟩
                      replace H : ((api_Grid2.f y443).bind fun t447 => ((cycle_Expand.f kj22 a0_0 a0_1 a0_2 a0_3 a0_4 a0_5 a0_6 x442000_22 x442001_22 x442002_22 t447).bind fun bt450 => (if t440 = 0 then (if bt450.2 = 0 then ((api_Move_24.f (([t437, bt450.1] : List (List (S45))))).bind fun t457 => ((swarfref44_Same.f kj22 t426 t457).bind fun t460 => (some t460))) else (some false)) else (some false)))) = some r := by first | (rw [hy443]; with_reducible exact H) | (have H2_ := (Option.bind_some _ _).symm.trans H; rw [hy443]; with_reducible exact H2_) | (have H2_ := (Option.bind_some _ _).symm.trans H; with_reducible exact H2_) | with_reducible exact H | (rw [hy443]; exact H) | exact H
                      have Ny443 := Aside0.mk hy443
                      clear hy443
                      replace H := Option.bind_eq_some_iff.mp H
                      obtain ⟨t447, A590, H⟩ := H
                      replace H : ((cycle_Expand.f kj22 a0_0 a0_1 a0_2 a0_3 a0_4 a0_5 a0_6 x442000_22 x442001_22 x442002_22 t447).bind fun bt450 => (if t440 = 0 then (if bt450.2 = 0 then ((api_Move_24.f (([t437, bt450.1] : List (List (S45))))).bind fun t457 => ((swarfref44_Same.f kj22 t426 t457).bind fun t460 => (some t460))) else (some false)) else (some false))) = some r := H
                      have A59 := Aside0.mk A590
                      clear A590
                      replace H := Option.bind_eq_some_iff.mp H
                      obtain ⟨⟨t450, t453⟩, A600, H⟩ := H
                      replace H : (if t440 = 0 then (if t453 = 0 then ((api_Move_24.f (([t437, t450] : List (List (S45))))).bind fun t457 => ((swarfref44_Same.f kj22 t426 t457).bind fun t460 => (some t460))) else (some false)) else (some false)) = some r := H
                      have A60 := Aside0.mk A600
                      clear A600
                      by_cases c61 : t440 = 0
                      · rw [if_pos c61] at H
                        have c61b0 : (t440 == 0) = true := beq_iff_eq.mpr c61
                        have c61b1 : (t440 != 0) = false := bne_eq_false_iff_eq.mpr c61
                        clear c61
                        by_cases c62 : t453 = 0
                        · rw [if_pos c62] at H
                          have c62b0 : (t453 == 0) = true := beq_iff_eq.mpr c62
                          have c62b1 : (t453 != 0) = false := bne_eq_false_iff_eq.mpr c62
                          clear c62
                          obtain ⟨y454, hy454⟩ : ∃ y_ : List (List (S45)), y_ = (([t437, t450] : List (List (S45)))) := ⟨_, rfl⟩
                          replace H : ((api_Move_24.f y454).bind fun t457 => ((swarfref44_Same.f kj22 t426 t457).bind fun t460 => (some t460))) = some r := by first | (rw [hy454]; with_reducible exact H) | (have H2_ := (Option.bind_some _ _).symm.trans H; rw [hy454]; with_reducible exact H2_) | (have H2_ := (Option.bind_some _ _).symm.trans H; with_reducible exact H2_) | with_reducible exact H | (rw [hy454]; exact H) | exact H
                          have Ny454 := Aside0.mk hy454
                          clear hy454
                          replace H := Option.bind_eq_some_iff.mp H
                          obtain ⟨t457, A630, H⟩ := H
                          replace H : ((swarfref44_Same.f kj22 t426 t457).bind fun t460 => (some t460)) = some r := H
                          have A63 := Aside0.mk A630
                          clear A630
                          replace H := Option.bind_eq_some_iff.mp H
                          obtain ⟨t460, A640, H⟩ := H
                          replace H : (some t460) = some r := H
                          have A64 := Aside0.mk A640
                          clear A640
                          obtain rfl := Option.some.inj H
                          try go_wp2
                          have n0_ := Aside0.mk (Kd.R_drew HO_8.out)
                          have n1_ := Aside0.mk (Kd.R_drew HO_11.out)
                          have n2_ := Aside0.mk (blk_drew BK419.out)
                          have n3_ := Aside0.mk (blk_drew BK420.out)
                          have n4_ := Aside0.mk (blk_drew BK421.out)
                          have n5_ := Aside0.mk (blk_drew BK441.out)
                          have n6_ := Aside0.mk (below_drew1 HB.out)
                          clear HO_8
                          clear HO_11
                          clear BK419
                          clear BK420
                          clear BK421
                          clear BK441
                          clear HB
                          have HO_8 := n0_
                          have HO_11 := n1_
                          have BK419 := n2_
                          have BK420 := n3_
                          have BK421 := n4_
                          have BK441 := n5_
                          have HB := n6_
                          clear n0_ n1_ n2_ n3_ n4_ n5_ n6_
                          have q66 : (ji18 : Int) ≤ ((l2_0.length : Int) : Int) := of_decide_eq_true (by first | (with_reducible assumption) | assumption)
                          obtain ⟨i066, hi066, _, hsz66, _⟩ := info_parts info43
                          have hroom66 : l2_0.length ≤ c2_0 := HC2_0.out
                          have hC66 : Kd.C k43 _ A2_0 l2_0.length l2_0 := HR2_0.out
                          have q066 : (0 : Int) ≤ (ji18 : Int) := of_decide_eq_true (by first | (with_reducible assumption) | assumption)
                          have hcut66 := cut_from (P := Try.prog) 37 43 .i64 Try.underlying37 hi066 2 hsz66 A2_0 l2_0.length c2_0 ji18 q066 q66
                          have hr66 := Kd.C_drop (m := (ji18 : Int).toNat) (c := c2_0) hC66 (by omega) hroom66
                          obtain ⟨A66, hA66⟩ : ∃ A1, A1 = (if c2_0 = (ji18 : Int).toNat then A2_0 else (A2_0 : Option Addr).map (·.add ((ji18 : Int).toNat * 2))) := ⟨_, rfl⟩
                          obtain ⟨c66, hc66⟩ : ∃ c1, c1 = c2_0 - (ji18 : Int).toNat := ⟨_, rfl⟩
                          have hy66 : y443.length = l2_0.length - (ji18 : Int).toNat := (by rw [Ny443.out, List.length_drop] <;> omega)
                          rw [show (l2_0).drop (ji18 : Int).toNat = y443 from Ny443.out.symm] at hr66
                          replace hr66 : Kd.C k43 _ A66 y443.length y443 := (by rw [hA66]; exact hr66)
                          rw [← hy66, ← hA66, ← hc66] at hcut66
                          have HR446 := Aside0.mk hr66
                          have HC446 := Aside0.mk (show y443.length ≤ c66 from by rw [hy66, hc66]; exact Nat.sub_le_sub_right hroom66 _)
                          clear hr66 hC66 hroom66 hi066 hsz66 hc66
                          have KY66 := Aside0.mk hy66
                          have KA66 := Aside0.mk hA66
                          clear hy66 hA66
                          replace q66 := eq_true q66
                          refine start_ (n := 12) (S := fun w' => w'.cell? ⟨gb419, 0, none⟩ = some (.int .i64 a0_0) ∧ w'.cell? ⟨gb419, 1, none⟩ = some (.int .i64 a0_1) ∧ w'.cell? ⟨gb419, 2, none⟩ = some (.int .i64 a0_2) ∧ w'.cell? ⟨gb419, 3, none⟩ = some (.int .i64 a0_3) ∧ w'.cell? ⟨gb419, 4, none⟩ = some (.int .i64 a0_4) ∧ w'.cell? ⟨gb419, 5, none⟩ = some (.int .i64 a0_5) ∧ w'.cell? ⟨gb419, 6, none⟩ = some (.bool a0_6) ∧ w'.cell? ⟨gb441, 0, none⟩ = some (.int .i64 x442000_22) ∧ w'.cell? ⟨gb441, 1, none⟩ = some (.int .i64 x442001_22) ∧ w'.cell? ⟨gb441, 2, none⟩ = some (.int .i64 x442002_22)) (ds := []) #[false, false, false, false, false, false, false, false, false, false, false, false] (by kernel_rfl) rfl rfl ⟨(blk_cell BK419.out 0).trans rfl, (blk_cell BK419.out 1).trans rfl, (blk_cell BK419.out 2).trans rfl, (blk_cell BK419.out 3).trans rfl, (blk_cell BK419.out 4).trans rfl, (blk_cell BK419.out 5).trans rfl, (blk_cell BK419.out 6).trans rfl, (blk_cell BK441.out 0).trans rfl, (blk_cell BK441.out 1).trans rfl, (blk_cell BK441.out 2).trans rfl⟩ (fun hHeld => ?_); refine with_tabW swarflaw44_CycleParts.tab14 swarflaw44_CycleParts.bits14 (fun HT_ HW_ => ?_)
                          generalize wc.drew = w65 at HO_8 HO_11 BK419 BK420 BK421 BK441 HB HR446 hHeld ⊢
                          refine pure_ (i := 2) (N := some 64) (v := ?_) (a' := ?_) #[false, false, true, false, false, false, false, false, false, false, false, false] rfl rfl (any_of HT_.out (by kernel_rfl)) (fun _ _ _ h => h) (Or.inl ⟨by rfl, ?_⟩) ?_ ?_
                          rotate_left
                          · intro w'
                            go_simp
                            with_reducible rfl
                          rotate_left
                          · simp only [Act.put, List.setIfInBounds_toArray, List.set_cons_zero, List.set_cons_succ, i64_w, i32_w]
                            rfl
                          refine pure_ (i := 3) (N := some 65) (v := ?_) (a' := ?_) #[false, false, true, true, false, false, false, false, false, false, false, false] rfl rfl (any_of HT_.out (by kernel_rfl)) (fun _ _ _ h => h) (Or.inl ⟨by rfl, ?_⟩) ?_ ?_
                          rotate_left
                          · intro w'
                            go_simp
                            with_reducible rfl
                          rotate_left
                          · simp only [Act.put, List.setIfInBounds_toArray, List.set_cons_zero, List.set_cons_succ, i64_w, i32_w]
                            rfl
                          refine pure_ (i := 4) (N := some 66) (v := ?_) (a' := ?_) #[false, false, true, true, true, false, false, false, false, false, false, false] rfl rfl (any_of HT_.out (by kernel_rfl)) (fun _ _ _ h => h) (Or.inl ⟨by rfl, ?_⟩) ?_ ?_
                          rotate_left
                          · intro w'
                            go_simp
                            with_reducible rfl
                          rotate_left
                          · simp only [Act.put, List.setIfInBounds_toArray, List.set_cons_zero, List.set_cons_succ, i64_w, i32_w]
                            rfl
                          refine take_ (i := 0) (N := some 62) (v := ?_) (a' := ?_) #[true, false, true, true, true, false, false, false, false, false, false, false] rfl rfl (take_ofW HT_.out HW_.out (by kernel_rfl)) (fun _ _ _ h => h) (Or.inl ⟨by rfl, ?_⟩) hHeld ?_ ?_
                          rotate_left
                          · rintro w' ⟨s0, s1, s2, s3, s4, s5, s6, s7, s8, s9⟩
                            go_simp
                            with_reducible rfl
                          rotate_left
                          · simp only [Act.put, List.setIfInBounds_toArray, List.set_cons_zero, List.set_cons_succ, i64_w, i32_w]
                            rfl
                          refine take_ (i := 1) (N := some 63) (v := ?_) (a' := ?_) #[true, true, true, true, true, false, false, false, false, false, false, false] rfl rfl (take_ofW HT_.out HW_.out (by kernel_rfl)) (fun _ _ _ h => h) (Or.inl ⟨by rfl, ?_⟩) hHeld ?_ ?_
                          rotate_left
                          · rintro w' ⟨s0, s1, s2, s3, s4, s5, s6, s7, s8, s9⟩
                            go_simp
                            with_reducible rfl
                          rotate_left
                          · simp only [Act.put, List.setIfInBounds_toArray, List.set_cons_zero, List.set_cons_succ, i64_w, i32_w]
                            rfl
                          refine one_ (i := 5) (N := some 67) #[true, true, true, true, true, true, false, false, false, false, false, false] rfl rfl (one_of HT_.out (by kernel_rfl)) (by decide) (fun K hK => ?_)
                          refine goes_ Try.func16 (by kernel_rfl) rfl #[.slice A66 y443.length c66] (by rfl) rfl rfl (by (try simp only [List.map_toArray, List.map_cons, List.map_nil]); first | done | rfl | (simp only [List.length_drop, List.length_take]; rfl)) ?_
                          with_reducible refine (api_Grid2.calls _ _ y443 t447 _ ?side1 ?side2 A59.out).mono ?_
                          (case side1 => repeat (first | exact (Kd.C_below HR446.out HB.out) | (with_reducible refine Kd.C_alloc ?_ _) | (with_reducible refine Kd.C_drewN ?_ _) | (with_reducible refine Kd.C_drew ?_)))
                          (case side2 => exact HC446.out)
                          rintro e w67 ⟨v448, rfl, ho0, hb⟩
                          refine ⟨_, rfl, ?_⟩
                          have n0_ := Aside0.mk (Kd.R_below (by (with_reducible repeat (first | apply Kd.R_alloc | apply Kd.R_drewN | apply Kd.R_drew)); exact HO_8.out) hb)
                          have n1_ := Aside0.mk (Kd.R_below (by (with_reducible repeat (first | apply Kd.R_alloc | apply Kd.R_drewN | apply Kd.R_drew)); exact HO_11.out) hb)
                          have n2_ := Aside0.mk (Kd.R_lower ho0 (below_size (by repeat (first | (with_reducible first | exact HB.out | apply below_alloc | apply pw_below_drewN | apply below_drew1 | refine below_set ?_ GE419.out | refine below_set ?_ GE420.out | refine below_set ?_ GE421.out | refine below_set ?_ GE441.out) | exact HB.out))))
                          have n3_ := Aside0.mk (blk_below (g := gb419) (o := .cells #[.int .i64 a0_0, .int .i64 a0_1, .int .i64 a0_2, .int .i64 a0_3, .int .i64 a0_4, .int .i64 a0_5, .bool a0_6] 23 (0, 0)) (by (with_reducible repeat (first | refine blk_drewN ?_ _ | refine blk_drew ?_ | refine blk_alloc ?_ _)); exact BK419.out) hb)
                          have n4_ := Aside0.mk (blk_below (g := gb420) (o := .cells #[.int .i64 a1_0, .int .i64 a1_1, .int .i64 a1_2] 36 (0, 0)) (by (with_reducible repeat (first | refine blk_drewN ?_ _ | refine blk_drew ?_ | refine blk_alloc ?_ _)); exact BK420.out) hb)
                          have n5_ := Aside0.mk (blk_below (g := gb421) (o := .cells #[.slice A2_0 l2_0.length c2_0, .int .u8 a2_1] 64 (0, 0)) (by (with_reducible repeat (first | refine blk_drewN ?_ _ | refine blk_drew ?_ | refine blk_alloc ?_ _)); exact BK421.out) hb)
                          have n6_ := Aside0.mk (blk_below (g := gb441) (o := .cells #[.int .i64 x442000_22, .int .i64 x442001_22, .int .i64 x442002_22] 36 (0, 0)) (by (with_reducible repeat (first | refine blk_drewN ?_ _ | refine blk_drew ?_ | refine blk_alloc ?_ _)); exact BK441.out) hb)
                          have n7_ := Aside0.mk (below_step (by repeat (first | (with_reducible first | exact HB.out | apply below_alloc | apply pw_below_drewN | apply below_drew1 | refine below_set ?_ GE419.out | refine below_set ?_ GE420.out | refine below_set ?_ GE421.out | refine below_set ?_ GE441.out) | exact HB.out)) hb)
                          clear HO_8
                          clear HO_11
                          clear BK419
                          clear BK420
                          clear BK421
                          clear BK441
                          clear HB
                          have HO_8 := n0_
                          have HO_11 := n1_
                          have HO449 := n2_
                          have BK419 := n3_
                          have BK420 := n4_
                          have BK421 := n5_
                          have BK441 := n6_
                          have HB := n7_
                          clear n0_ n1_ n2_ n3_ n4_ n5_ n6_ n7_
                          (try clear hb)
                          (try clear hb2)
                          (try clear hk)
                          (try clear hi)
                          (try clear ho0)
                          obtain ⟨Ao68, co68, eo68⟩ := Kd.R_slice HO449.out
                          (first | subst eo68 | (injection eo68 with f1_ f2_ f3_; have f4_ := f1_.symm; have f5_ := f3_.symm; clear f1_ f2_ f3_; subst f4_; subst f5_))
                          refine hK.out _ _ ⟨(blk_cell BK419.out 0).trans rfl, (blk_cell BK419.out 1).trans rfl, (blk_cell BK419.out 2).trans rfl, (blk_cell BK419.out 3).trans rfl, (blk_cell BK419.out 4).trans rfl, (blk_cell BK419.out 5).trans rfl, (blk_cell BK419.out 6).trans rfl, (blk_cell BK441.out 0).trans rfl, (blk_cell BK441.out 1).trans rfl, (blk_cell BK441.out 2).trans rfl⟩ (fun hHeld => ?_)
                          clear hK K
                          refine norm_ (a' := ?_) ?_ ?_
                          rotate_left
                          · show Act.put _ (some 67) _ = _
                            simp only [Act.put, List.setIfInBounds_toArray, List.set_cons_zero, List.set_cons_succ, i64_w, i32_w]
                            rfl
                          refine one_ (i := 6) (N := some 68) #[true, true, true, true, true, true, true, false, false, false, false, false] rfl rfl (one_of HT_.out (by kernel_rfl)) (by decide) (fun K hK => ?_)
                          refine goes_ Try.func15 (by kernel_rfl) rfl #[.agg #[.int .i64 a0_0, .int .i64 a0_1, .int .i64 a0_2, .int .i64 a0_3, .int .i64 a0_4, .int .i64 a0_5, .bool a0_6], .agg #[.int .i64 x442000_22, .int .i64 x442001_22, .int .i64 x442002_22], .slice Ao68 t447.length co68] (by rfl) rfl rfl (by (try simp only [List.map_toArray, List.map_cons, List.map_nil]); first | done | rfl | (simp only [List.length_drop, List.length_take]; rfl)) ?_
                          with_reducible refine (cycle_Expand.calls kj22 a0_0 a0_1 a0_2 a0_3 a0_4 a0_5 a0_6 x442000_22 x442001_22 x442002_22 _ _ t447 t450 t453 _ ?side1 ?side2 A60.out).mono ?_
                          (case side1 => repeat (first | exact (Kd.R_reads' HO449.out).2.2 | (with_reducible refine Kd.C_alloc ?_ _) | (with_reducible refine Kd.C_drewN ?_ _) | (with_reducible refine Kd.C_drew ?_)))
                          (case side2 => exact (Kd.R_reads' HO449.out).2.1)
                          rintro e w69 ⟨v451, rfl, ho0, hb⟩
                          refine ⟨_, rfl, ?_⟩
                          have n0_ := Aside0.mk (Kd.R_elder' (by (with_reducible repeat (first | apply Kd.R_alloc | apply Kd.R_drewN | apply Kd.R_drew)); exact HO_8.out) (Kd.R_base ho0) hb)
                          have n1_ := Aside0.mk (Kd.R_elder' (by (with_reducible repeat (first | apply Kd.R_alloc | apply Kd.R_drewN | apply Kd.R_drew)); exact HO_11.out) (Kd.R_base ho0) hb)
                          have n2_ := Aside0.mk (Kd.R_below (by (with_reducible repeat (first | apply Kd.R_alloc | apply Kd.R_drewN | apply Kd.R_drew)); exact HO449.out) hb)
                          have n3_ := Aside0.mk (Kd.R_lower (Kd.R_new' (Kd.R_new' ho0 (Kd.R_lt (by (with_reducible repeat (first | apply Kd.R_alloc | apply Kd.R_drewN | apply Kd.R_drew)); exact HO_8.out))) (Kd.R_lt (by (with_reducible repeat (first | apply Kd.R_alloc | apply Kd.R_drewN | apply Kd.R_drew)); exact HO_11.out))) (below_size (by repeat (first | (with_reducible first | exact HB.out | apply below_alloc | apply pw_below_drewN | apply below_drew1 | refine below_set ?_ GE419.out | refine below_set ?_ GE420.out | refine below_set ?_ GE421.out | refine below_set ?_ GE441.out) | exact HB.out))))
                          have n4_ := Aside0.mk (blk_below (g := gb419) (o := .cells #[.int .i64 a0_0, .int .i64 a0_1, .int .i64 a0_2, .int .i64 a0_3, .int .i64 a0_4, .int .i64 a0_5, .bool a0_6] 23 (0, 0)) (by (with_reducible repeat (first | refine blk_drewN ?_ _ | refine blk_drew ?_ | refine blk_alloc ?_ _)); exact BK419.out) hb)
                          have n5_ := Aside0.mk (blk_below (g := gb420) (o := .cells #[.int .i64 a1_0, .int .i64 a1_1, .int .i64 a1_2] 36 (0, 0)) (by (with_reducible repeat (first | refine blk_drewN ?_ _ | refine blk_drew ?_ | refine blk_alloc ?_ _)); exact BK420.out) hb)
                          have n6_ := Aside0.mk (blk_below (g := gb421) (o := .cells #[.slice A2_0 l2_0.length c2_0, .int .u8 a2_1] 64 (0, 0)) (by (with_reducible repeat (first | refine blk_drewN ?_ _ | refine blk_drew ?_ | refine blk_alloc ?_ _)); exact BK421.out) hb)
                          have n7_ := Aside0.mk (blk_below (g := gb441) (o := .cells #[.int .i64 x442000_22, .int .i64 x442001_22, .int .i64 x442002_22] 36 (0, 0)) (by (with_reducible repeat (first | refine blk_drewN ?_ _ | refine blk_drew ?_ | refine blk_alloc ?_ _)); exact BK441.out) hb)
                          have n8_ := Aside0.mk (below_step (by repeat (first | (with_reducible first | exact HB.out | apply below_alloc | apply pw_below_drewN | apply below_drew1 | refine below_set ?_ GE419.out | refine below_set ?_ GE420.out | refine below_set ?_ GE421.out | refine below_set ?_ GE441.out) | exact HB.out)) hb)
                          clear HO_8
                          clear HO_11
                          clear HO449
                          clear BK419
                          clear BK420
                          clear BK421
                          clear BK441
                          clear HB
                          have HO_8 := n0_
                          have HO_11 := n1_
                          have HO449 := n2_
                          have HO452 := n3_
                          have BK419 := n4_
                          have BK420 := n5_
                          have BK421 := n6_
                          have BK441 := n7_
                          have HB := n8_
                          clear n0_ n1_ n2_ n3_ n4_ n5_ n6_ n7_ n8_
                          (try clear hb)
                          (try clear hb2)
                          (try clear hk)
                          (try clear hi)
                          (try clear ho0)
                          refine hK.out _ _ ⟨(blk_cell BK419.out 0).trans rfl, (blk_cell BK419.out 1).trans rfl, (blk_cell BK419.out 2).trans rfl, (blk_cell BK419.out 3).trans rfl, (blk_cell BK419.out 4).trans rfl, (blk_cell BK419.out 5).trans rfl, (blk_cell BK419.out 6).trans rfl, (blk_cell BK441.out 0).trans rfl, (blk_cell BK441.out 1).trans rfl, (blk_cell BK441.out 2).trans rfl⟩ (fun hHeld => ?_)
                          clear hK K
                          refine norm_ (a' := ?_) ?_ ?_
                          rotate_left
                          · show Act.put _ (some 68) _ = _
                            simp only [Act.put, List.setIfInBounds_toArray, List.set_cons_zero, List.set_cons_succ, i64_w, i32_w]
                            rfl
                          refine pure_ (i := 7) (N := some 61) (v := ?_) (a' := ?_) #[true, true, true, true, true, true, true, true, false, false, false, false] rfl rfl (any_of HT_.out (by kernel_rfl)) (fun _ _ _ h => h) (Or.inl ⟨by rfl, ?_⟩) ?_ ?_
                          rotate_left
                          · intro w'
                            go_simp
                            with_reducible rfl
                          rotate_left
                          · simp only [Act.put, List.setIfInBounds_toArray, List.set_cons_zero, List.set_cons_succ, i64_w, i32_w]
                            rfl
                          refine pure_ (i := 8) (N := some 69) (v := ?_) (a' := ?_) #[true, true, true, true, true, true, true, true, true, false, false, false] rfl rfl (any_of HT_.out (by kernel_rfl)) (fun _ _ _ h => h) (Or.inl ⟨by rfl, ?_⟩) ?_ ?_
                          rotate_left
                          · intro w'
                            go_simp
                            with_reducible rfl
                          rotate_left
                          · simp only [Act.put, List.setIfInBounds_toArray, List.set_cons_zero, List.set_cons_succ, i64_w, i32_w]
                            rfl
                          refine pure_ (i := 9) (N := some 70) (v := ?_) (a' := ?_) #[true, true, true, true, true, true, true, true, true, true, false, false] rfl rfl (any_of HT_.out (by kernel_rfl)) (fun _ _ _ h => h) (Or.inl ⟨by rfl, ?_⟩) ?_ ?_
                          rotate_left
                          · intro w'
                            go_simp
                            with_reducible rfl
                          rotate_left
                          · simp only [Act.put, List.setIfInBounds_toArray, List.set_cons_zero, List.set_cons_succ, i64_w, i32_w]
                            rfl
                          refine pure_ (i := 10) (N := some 14) (v := ?_) (a' := ?_) #[true, true, true, true, true, true, true, true, true, true, true, false] rfl rfl (any_of HT_.out (by kernel_rfl)) (fun _ _ _ h => h) (Or.inl ⟨by rfl, ?_⟩) ?_ ?_
                          rotate_left
                          · intro w'
                            go_simp
                            with_reducible rfl
                          rotate_left
                          · simp only [Act.put, List.setIfInBounds_toArray, List.set_cons_zero, List.set_cons_succ, i64_w, i32_w]
                            rfl
                          refine pure_ (i := 11) (N := some 15) (v := ?_) (a' := ?_) #[true, true, true, true, true, true, true, true, true, true, true, true] rfl rfl (any_of HT_.out (by kernel_rfl)) (fun _ _ _ h => h) (Or.inl ⟨by rfl, ?_⟩) ?_ ?_
                          rotate_left
                          · intro w'
                            go_simp
                            with_reducible rfl
                          rotate_left
                          · simp only [Act.put, List.setIfInBounds_toArray, List.set_cons_zero, List.set_cons_succ, i64_w, i32_w]
                            rfl
                          refine done_ (done_of HT_.out (by kernel_rfl)) ?_
                          obtain ⟨Ao70, co70, eo70⟩ := Kd.R_slice HO452.out
                          subst eo70
                          try go_wp2_with (first | ((with_reducible refine gate_dst (N := 81) rfl ?_); (try (refine gate_guard (by rfl) ?_; dsimp only)); refine Kd.N_lit (Kd.slice 45 k45) _ 38 ?hg (N' := 81) ?hd (xs := ([t437, t450] : List (List (S45)))) (inner := [.slice Ao48 t437.length co48, .slice Ao70 t450.length co70]) (ok := (fun k_ => some k_ ≠ (v427 : Value).ownBlock ∧ some k_ ≠ (.slice Ao68 t447.length co68 : Value).ownBlock ∧ k_ ≠ gb419 ∧ k_ ≠ gb420 ∧ k_ ≠ gb421 ∧ k_ ≠ gb441)) (okp := (fun k_ => some k_ ≠ (v427 : Value).ownBlock ∧ some k_ ≠ (.slice Ao68 t447.length co68 : Value).ownBlock ∧ k_ ≠ gb419 ∧ k_ ≠ gb420 ∧ k_ ≠ gb421 ∧ k_ ≠ gb441)) ?hr ?hp (fun _ hk => hk) ((show ∀ k_, w69.heap.size ≤ k_ → (fun k_ => some k_ ≠ (v427 : Value).ownBlock ∧ some k_ ≠ (.slice Ao68 t447.length co68 : Value).ownBlock ∧ k_ ≠ gb419 ∧ k_ ≠ gb420 ∧ k_ ≠ gb421 ∧ k_ ≠ gb441) k_ from fun k_ hk => ⟨Kd.fresh' (Kd.R_lt (by (with_reducible repeat (first | apply Kd.R_alloc | apply Kd.R_drewN | apply Kd.R_drew)); exact HO_8.out)) k_ hk, Kd.fresh' (Kd.R_lt (by (with_reducible repeat (first | apply Kd.R_alloc | apply Kd.R_drewN | apply Kd.R_drew)); exact HO449.out)) k_ hk, Kd.freshB (g := gb419) (o := .cells #[.int .i64 a0_0, .int .i64 a0_1, .int .i64 a0_2, .int .i64 a0_3, .int .i64 a0_4, .int .i64 a0_5, .bool a0_6] 23 (0, 0)) (by (with_reducible repeat (first | refine blk_drewN ?_ _ | refine blk_drew ?_ | refine blk_alloc ?_ _)); exact BK419.out) k_ hk, Kd.freshB (g := gb420) (o := .cells #[.int .i64 a1_0, .int .i64 a1_1, .int .i64 a1_2] 36 (0, 0)) (by (with_reducible repeat (first | refine blk_drewN ?_ _ | refine blk_drew ?_ | refine blk_alloc ?_ _)); exact BK420.out) k_ hk, Kd.freshB (g := gb421) (o := .cells #[.slice A2_0 l2_0.length c2_0, .int .u8 a2_1] 64 (0, 0)) (by (with_reducible repeat (first | refine blk_drewN ?_ _ | refine blk_drew ?_ | refine blk_alloc ?_ _)); exact BK421.out) k_ hk, Kd.freshB (g := gb441) (o := .cells #[.int .i64 x442000_22, .int .i64 x442001_22, .int .i64 x442002_22] 36 (0, 0)) (by (with_reducible repeat (first | refine blk_drewN ?_ _ | refine blk_drew ?_ | refine blk_alloc ?_ _)); exact BK441.out) k_ hk⟩) _ (Nat.le_refl _)) (Below.refl _ _) (Nat.le_refl _) (by simp) ?_; (case hd => rfl); (case hg => rfl); (case hr => first | (go_simp; done) | (go_simp; rfl)); (case hp => exact (Reps.one (show Kd.FK (Kd.slice 45 k45) _ _ t437 [.slice Ao48 t437.length co48] from (Kd.FK_slice_mk (Kd.R_reads' (Kd.R_mono (ok' := (fun k_ => some k_ ≠ (v427 : Value).ownBlock ∧ some k_ ≠ (.slice Ao68 t447.length co68 : Value).ownBlock ∧ k_ ≠ gb419 ∧ k_ ≠ gb420 ∧ k_ ≠ gb421 ∧ k_ ≠ gb441)) (Kd.R_types (Kd.R_types (Kd.R_types (Kd.R_types (Kd.R_apart' (HO_11.out) (Kd.R_typed HO449.out) (by decide)) BK419.out (by decide)) BK420.out (by decide)) BK421.out (by decide)) BK441.out (by decide)) (fun k_ hk => ⟨hk.1.1.1.1.1.1, ⟨hk.1.1.1.1.2, ⟨hk.1.1.1.2, ⟨hk.1.1.2, ⟨hk.1.2, hk.2⟩⟩⟩⟩⟩))).2.1 (Kd.R_F (Kd.R_mono (ok' := (fun k_ => some k_ ≠ (v427 : Value).ownBlock ∧ some k_ ≠ (.slice Ao68 t447.length co68 : Value).ownBlock ∧ k_ ≠ gb419 ∧ k_ ≠ gb420 ∧ k_ ≠ gb421 ∧ k_ ≠ gb441)) (Kd.R_types (Kd.R_types (Kd.R_types (Kd.R_types (Kd.R_apart' (HO_11.out) (Kd.R_typed HO449.out) (by decide)) BK419.out (by decide)) BK420.out (by decide)) BK421.out (by decide)) BK441.out (by decide)) (fun k_ hk => ⟨hk.1.1.1.1.1.1, ⟨hk.1.1.1.1.2, ⟨hk.1.1.1.2, ⟨hk.1.1.2, ⟨hk.1.2, hk.2⟩⟩⟩⟩⟩))))) (Reps.one (show Kd.FK (Kd.slice 45 k45) _ _ t450 [.slice Ao70 t450.length co70] from (Kd.FK_slice_mk (Kd.R_reads' (Kd.R_mono (ok' := (fun k_ => some k_ ≠ (v427 : Value).ownBlock ∧ some k_ ≠ (.slice Ao68 t447.length co68 : Value).ownBlock ∧ k_ ≠ gb419 ∧ k_ ≠ gb420 ∧ k_ ≠ gb421 ∧ k_ ≠ gb441)) (Kd.R_types (Kd.R_types (Kd.R_types (Kd.R_types (Kd.R_apart' (HO452.out) (Kd.R_typed HO449.out) (by decide)) BK419.out (by decide)) BK420.out (by decide)) BK421.out (by decide)) BK441.out (by decide)) (fun k_ hk => ⟨hk.1.1.1.1.1.1.2, ⟨hk.1.1.1.1.2, ⟨hk.1.1.1.2, ⟨hk.1.1.2, ⟨hk.1.2, hk.2⟩⟩⟩⟩⟩))).2.1 (Kd.R_F (Kd.R_mono (ok' := (fun k_ => some k_ ≠ (v427 : Value).ownBlock ∧ some k_ ≠ (.slice Ao68 t447.length co68 : Value).ownBlock ∧ k_ ≠ gb419 ∧ k_ ≠ gb420 ∧ k_ ≠ gb421 ∧ k_ ≠ gb441)) (Kd.R_types (Kd.R_types (Kd.R_types (Kd.R_types (Kd.R_apart' (HO452.out) (Kd.R_typed HO449.out) (by decide)) BK419.out (by decide)) BK420.out (by decide)) BK421.out (by decide)) BK441.out (by decide)) (fun k_ hk => ⟨hk.1.1.1.1.1.1.2, ⟨hk.1.1.1.1.2, ⟨hk.1.1.1.2, ⟨hk.1.1.2, ⟨hk.1.2, hk.2⟩⟩⟩⟩⟩))))) (Reps.none _ _)))); intro v455 w71 ho72 hb hg_ hnew_; clear hg_ hnew_; (first | rw [← Ny454.out] at ho72 | (simp only [Int.reduceToNat] at ho72; rw [← Ny454.out] at ho72)); have n0_ := Aside0.mk (Kd.R_below (by (with_reducible repeat (first | apply Kd.R_alloc | apply Kd.R_drewN | apply Kd.R_drew)); exact HO_8.out) hb); have n1_ := Aside0.mk (Kd.R_below (by (with_reducible repeat (first | apply Kd.R_alloc | apply Kd.R_drewN | apply Kd.R_drew)); exact HO449.out) hb); have n2_ := Aside0.mk (Kd.N_lower ho72 (below_size (by repeat (first | (with_reducible first | exact HB.out | apply below_alloc | apply pw_below_drewN | apply below_drew1 | refine below_set ?_ GE419.out | refine below_set ?_ GE420.out | refine below_set ?_ GE421.out | refine below_set ?_ GE441.out) | exact HB.out)))); have n3_ := Aside0.mk (blk_below (g := gb419) (o := .cells #[.int .i64 a0_0, .int .i64 a0_1, .int .i64 a0_2, .int .i64 a0_3, .int .i64 a0_4, .int .i64 a0_5, .bool a0_6] 23 (0, 0)) (by (with_reducible repeat (first | refine blk_drewN ?_ _ | refine blk_drew ?_ | refine blk_alloc ?_ _)); exact BK419.out) hb); have n4_ := Aside0.mk (blk_below (g := gb420) (o := .cells #[.int .i64 a1_0, .int .i64 a1_1, .int .i64 a1_2] 36 (0, 0)) (by (with_reducible repeat (first | refine blk_drewN ?_ _ | refine blk_drew ?_ | refine blk_alloc ?_ _)); exact BK420.out) hb); have n5_ := Aside0.mk (blk_below (g := gb421) (o := .cells #[.slice A2_0 l2_0.length c2_0, .int .u8 a2_1] 64 (0, 0)) (by (with_reducible repeat (first | refine blk_drewN ?_ _ | refine blk_drew ?_ | refine blk_alloc ?_ _)); exact BK421.out) hb); have n6_ := Aside0.mk (blk_below (g := gb441) (o := .cells #[.int .i64 x442000_22, .int .i64 x442001_22, .int .i64 x442002_22] 36 (0, 0)) (by (with_reducible repeat (first | refine blk_drewN ?_ _ | refine blk_drew ?_ | refine blk_alloc ?_ _)); exact BK441.out) hb); have n7_ := Aside0.mk (below_step (by repeat (first | (with_reducible first | exact HB.out | apply below_alloc | apply pw_below_drewN | apply below_drew1 | refine below_set ?_ GE419.out | refine below_set ?_ GE420.out | refine below_set ?_ GE421.out | refine below_set ?_ GE441.out) | exact HB.out)) hb); clear HO_8; clear HO449; clear BK419; clear BK420; clear BK421; clear BK441; clear HB; clear HO452; clear HO_11; have HO_8 := n0_; have HO449 := n1_; have HO456 := n2_; have BK419 := n3_; have BK420 := n4_; have BK421 := n5_; have BK441 := n6_; have HB := n7_; clear n0_ n1_ n2_ n3_ n4_ n5_ n6_ n7_; clear hb ho72; obtain ⟨Ao73, co73, eo73⟩ := Kd.N_slice HO456.out; subst eo73) | (go_at_call 24; (with_reducible refine (api_Move_24.calls _ _ y454 t457 _ ?side1 ?side2 A63.out).mono ?_); (case side1 => repeat (first | exact (Kd.N_reads' HO456.out).2.2 | (with_reducible refine Kd.C_alloc ?_ _) | (with_reducible refine Kd.C_drewN ?_ _) | (with_reducible refine Kd.C_drew ?_))); (case side2 => exact (Kd.N_reads' HO456.out).2.1); rintro e w74 ⟨v458, rfl, ho0, hb⟩; have n0_ := Aside0.mk (Kd.R_elder' (by (with_reducible repeat (first | apply Kd.R_alloc | apply Kd.R_drewN | apply Kd.R_drew)); exact HO_8.out) (Kd.R_base ho0) hb); have n1_ := Aside0.mk (Kd.R_below (by (with_reducible repeat (first | apply Kd.R_alloc | apply Kd.R_drewN | apply Kd.R_drew)); exact HO449.out) hb); have n2_ := Aside0.mk (Kd.N_elder' (by (with_reducible repeat (first | apply Kd.N_alloc | apply Kd.N_drewN | apply Kd.N_drew)); exact HO456.out) (Kd.R_base ho0) hb); have n3_ := Aside0.mk (Kd.R_lower (Kd.R_new' ho0 (Kd.R_lt (by (with_reducible repeat (first | apply Kd.R_alloc | apply Kd.R_drewN | apply Kd.R_drew)); exact HO_8.out))) (below_size (by repeat (first | (with_reducible first | exact HB.out | apply below_alloc | apply pw_below_drewN | apply below_drew1 | refine below_set ?_ GE419.out | refine below_set ?_ GE420.out | refine below_set ?_ GE421.out | refine below_set ?_ GE441.out) | exact HB.out)))); have n4_ := Aside0.mk (blk_below (g := gb419) (o := .cells #[.int .i64 a0_0, .int .i64 a0_1, .int .i64 a0_2, .int .i64 a0_3, .int .i64 a0_4, .int .i64 a0_5, .bool a0_6] 23 (0, 0)) (by (with_reducible repeat (first | refine blk_drewN ?_ _ | refine blk_drew ?_ | refine blk_alloc ?_ _)); exact BK419.out) hb); have n5_ := Aside0.mk (blk_below (g := gb420) (o := .cells #[.int .i64 a1_0, .int .i64 a1_1, .int .i64 a1_2] 36 (0, 0)) (by (with_reducible repeat (first | refine blk_drewN ?_ _ | refine blk_drew ?_ | refine blk_alloc ?_ _)); exact BK420.out) hb); have n6_ := Aside0.mk (blk_below (g := gb421) (o := .cells #[.slice A2_0 l2_0.length c2_0, .int .u8 a2_1] 64 (0, 0)) (by (with_reducible repeat (first | refine blk_drewN ?_ _ | refine blk_drew ?_ | refine blk_alloc ?_ _)); exact BK421.out) hb); have n7_ := Aside0.mk (blk_below (g := gb441) (o := .cells #[.int .i64 x442000_22, .int .i64 x442001_22, .int .i64 x442002_22] 36 (0, 0)) (by (with_reducible repeat (first | refine blk_drewN ?_ _ | refine blk_drew ?_ | refine blk_alloc ?_ _)); exact BK441.out) hb); have n8_ := Aside0.mk (below_step (by repeat (first | (with_reducible first | exact HB.out | apply below_alloc | apply pw_below_drewN | apply below_drew1 | refine below_set ?_ GE419.out | refine below_set ?_ GE420.out | refine below_set ?_ GE421.out | refine below_set ?_ GE441.out) | exact HB.out)) hb); clear HO_8; clear HO449; clear HO456; clear BK419; clear BK420; clear BK421; clear BK441; clear HB; have HO_8 := n0_; have HO449 := n1_; have HO456 := n2_; have HO459 := n3_; have BK419 := n4_; have BK420 := n5_; have BK421 := n6_; have BK441 := n7_; have HB := n8_; clear n0_ n1_ n2_ n3_ n4_ n5_ n6_ n7_ n8_; (try clear hb); (try clear hb2); (try clear hk); (try clear hi); (try clear ho0); obtain ⟨Ao75, co75, eo75⟩ := Kd.R_slice HO_8.out; subst eo75; obtain ⟨Ao76, co76, eo76⟩ := Kd.R_slice HO459.out; subst eo76) | (go_at_call 23; (with_reducible refine (swarfref44_Same.calls kj22 _ _ t426 _ _ t457 t460 _ ?side1 ?side2 ?side3 ?side4 A64.out).mono ?_); (case side1 => repeat (first | exact (Kd.R_reads' HO_8.out).2.2 | (with_reducible refine Kd.C_alloc ?_ _) | (with_reducible refine Kd.C_drewN ?_ _) | (with_reducible refine Kd.C_drew ?_))); (case side2 => exact (Kd.R_reads' HO_8.out).2.1); (case side3 => repeat (first | exact (Kd.R_reads' HO459.out).2.2 | (with_reducible refine Kd.C_alloc ?_ _) | (with_reducible refine Kd.C_drewN ?_ _) | (with_reducible refine Kd.C_drew ?_))); (case side4 => exact (Kd.R_reads' HO459.out).2.1); rintro e w' ⟨rfl, ⟨nd, rfl⟩⟩))
                          go_ret
                          exact ⟨by first | rfl | (simp [errW_none, errW_some] <;> rfl) | (simp only [← hji18]; first | rfl | (simp [errW_none, errW_some] <;> rfl)) | (simp [*, errW_none, errW_some] <;> rfl), by repeat (first | (with_reducible first | exact HB.out | apply below_alloc | apply pw_below_drewN | apply below_drew1 | refine below_set ?_ GE419.out | refine below_set ?_ GE420.out | refine below_set ?_ GE421.out | refine below_set ?_ GE441.out) | exact HB.out)⟩
                        · rw [if_neg c62] at H
                          have c62b0 : (t453 == 0) = false := beq_eq_false_iff_ne.mpr c62
                          have c62b1 : (t453 != 0) = true := bne_iff_ne.mpr c62
                          obtain rfl := Option.some.inj H
                          try go_wp2
                          have n0_ := Aside0.mk (Kd.R_drew HO_8.out)
                          have n1_ := Aside0.mk (Kd.R_drew HO_11.out)
                          have n2_ := Aside0.mk (blk_drew BK419.out)
                          have n3_ := Aside0.mk (blk_drew BK420.out)
                          have n4_ := Aside0.mk (blk_drew BK421.out)
                          have n5_ := Aside0.mk (blk_drew BK441.out)
                          have n6_ := Aside0.mk (below_drew1 HB.out)
                          clear HO_8
                          clear HO_11
                          clear BK419
                          clear BK420
                          clear BK421
                          clear BK441
                          clear HB
                          have HO_8 := n0_
                          have HO_11 := n1_
                          have BK419 := n2_
                          have BK420 := n3_
                          have BK421 := n4_
                          have BK441 := n5_
                          have HB := n6_
                          clear n0_ n1_ n2_ n3_ n4_ n5_ n6_
                          have q78 : (ji18 : Int) ≤ ((l2_0.length : Int) : Int) := of_decide_eq_true (by first | (with_reducible assumption) | assumption)
                          obtain ⟨i078, hi078, _, hsz78, _⟩ := info_parts info43
                          have hroom78 : l2_0.length ≤ c2_0 := HC2_0.out
                          have hC78 : Kd.C k43 _ A2_0 l2_0.length l2_0 := HR2_0.out
                          have q078 : (0 : Int) ≤ (ji18 : Int) := of_decide_eq_true (by first | (with_reducible assumption) | assumption)
                          have hcut78 := cut_from (P := Try.prog) 37 43 .i64 Try.underlying37 hi078 2 hsz78 A2_0 l2_0.length c2_0 ji18 q078 q78
                          have hr78 := Kd.C_drop (m := (ji18 : Int).toNat) (c := c2_0) hC78 (by omega) hroom78
                          obtain ⟨A78, hA78⟩ : ∃ A1, A1 = (if c2_0 = (ji18 : Int).toNat then A2_0 else (A2_0 : Option Addr).map (·.add ((ji18 : Int).toNat * 2))) := ⟨_, rfl⟩
                          obtain ⟨c78, hc78⟩ : ∃ c1, c1 = c2_0 - (ji18 : Int).toNat := ⟨_, rfl⟩
                          have hy78 : y443.length = l2_0.length - (ji18 : Int).toNat := (by rw [Ny443.out, List.length_drop] <;> omega)
                          rw [show (l2_0).drop (ji18 : Int).toNat = y443 from Ny443.out.symm] at hr78
                          replace hr78 : Kd.C k43 _ A78 y443.length y443 := (by rw [hA78]; exact hr78)
                          rw [← hy78, ← hA78, ← hc78] at hcut78
                          have HR446 := Aside0.mk hr78
                          have HC446 := Aside0.mk (show y443.length ≤ c78 from by rw [hy78, hc78]; exact Nat.sub_le_sub_right hroom78 _)
                          clear hr78 hC78 hroom78 hi078 hsz78 hc78
                          have KY78 := Aside0.mk hy78
                          have KA78 := Aside0.mk hA78
                          clear hy78 hA78
                          replace q78 := eq_true q78
                          refine start_ (n := 12) (S := fun w' => w'.cell? ⟨gb419, 0, none⟩ = some (.int .i64 a0_0) ∧ w'.cell? ⟨gb419, 1, none⟩ = some (.int .i64 a0_1) ∧ w'.cell? ⟨gb419, 2, none⟩ = some (.int .i64 a0_2) ∧ w'.cell? ⟨gb419, 3, none⟩ = some (.int .i64 a0_3) ∧ w'.cell? ⟨gb419, 4, none⟩ = some (.int .i64 a0_4) ∧ w'.cell? ⟨gb419, 5, none⟩ = some (.int .i64 a0_5) ∧ w'.cell? ⟨gb419, 6, none⟩ = some (.bool a0_6) ∧ w'.cell? ⟨gb441, 0, none⟩ = some (.int .i64 x442000_22) ∧ w'.cell? ⟨gb441, 1, none⟩ = some (.int .i64 x442001_22) ∧ w'.cell? ⟨gb441, 2, none⟩ = some (.int .i64 x442002_22)) (ds := []) #[false, false, false, false, false, false, false, false, false, false, false, false] (by kernel_rfl) rfl rfl ⟨(blk_cell BK419.out 0).trans rfl, (blk_cell BK419.out 1).trans rfl, (blk_cell BK419.out 2).trans rfl, (blk_cell BK419.out 3).trans rfl, (blk_cell BK419.out 4).trans rfl, (blk_cell BK419.out 5).trans rfl, (blk_cell BK419.out 6).trans rfl, (blk_cell BK441.out 0).trans rfl, (blk_cell BK441.out 1).trans rfl, (blk_cell BK441.out 2).trans rfl⟩ (fun hHeld => ?_); refine with_tabW swarflaw44_CycleParts.tab14 swarflaw44_CycleParts.bits14 (fun HT_ HW_ => ?_)
                          generalize wc.drew = w77 at HO_8 HO_11 BK419 BK420 BK421 BK441 HB HR446 hHeld ⊢
                          refine pure_ (i := 2) (N := some 64) (v := ?_) (a' := ?_) #[false, false, true, false, false, false, false, false, false, false, false, false] rfl rfl (any_of HT_.out (by kernel_rfl)) (fun _ _ _ h => h) (Or.inl ⟨by rfl, ?_⟩) ?_ ?_
                          rotate_left
                          · intro w'
                            go_simp
                            with_reducible rfl
                          rotate_left
                          · simp only [Act.put, List.setIfInBounds_toArray, List.set_cons_zero, List.set_cons_succ, i64_w, i32_w]
                            rfl
                          refine pure_ (i := 3) (N := some 65) (v := ?_) (a' := ?_) #[false, false, true, true, false, false, false, false, false, false, false, false] rfl rfl (any_of HT_.out (by kernel_rfl)) (fun _ _ _ h => h) (Or.inl ⟨by rfl, ?_⟩) ?_ ?_
                          rotate_left
                          · intro w'
                            go_simp
                            with_reducible rfl
                          rotate_left
                          · simp only [Act.put, List.setIfInBounds_toArray, List.set_cons_zero, List.set_cons_succ, i64_w, i32_w]
                            rfl
                          refine pure_ (i := 4) (N := some 66) (v := ?_) (a' := ?_) #[false, false, true, true, true, false, false, false, false, false, false, false] rfl rfl (any_of HT_.out (by kernel_rfl)) (fun _ _ _ h => h) (Or.inl ⟨by rfl, ?_⟩) ?_ ?_
                          rotate_left
                          · intro w'
                            go_simp
                            with_reducible rfl
                          rotate_left
                          · simp only [Act.put, List.setIfInBounds_toArray, List.set_cons_zero, List.set_cons_succ, i64_w, i32_w]
                            rfl
                          refine take_ (i := 0) (N := some 62) (v := ?_) (a' := ?_) #[true, false, true, true, true, false, false, false, false, false, false, false] rfl rfl (take_ofW HT_.out HW_.out (by kernel_rfl)) (fun _ _ _ h => h) (Or.inl ⟨by rfl, ?_⟩) hHeld ?_ ?_
                          rotate_left
                          · rintro w' ⟨s0, s1, s2, s3, s4, s5, s6, s7, s8, s9⟩
                            go_simp
                            with_reducible rfl
                          rotate_left
                          · simp only [Act.put, List.setIfInBounds_toArray, List.set_cons_zero, List.set_cons_succ, i64_w, i32_w]
                            rfl
                          refine take_ (i := 1) (N := some 63) (v := ?_) (a' := ?_) #[true, true, true, true, true, false, false, false, false, false, false, false] rfl rfl (take_ofW HT_.out HW_.out (by kernel_rfl)) (fun _ _ _ h => h) (Or.inl ⟨by rfl, ?_⟩) hHeld ?_ ?_
                          rotate_left
                          · rintro w' ⟨s0, s1, s2, s3, s4, s5, s6, s7, s8, s9⟩
                            go_simp
                            with_reducible rfl
                          rotate_left
                          · simp only [Act.put, List.setIfInBounds_toArray, List.set_cons_zero, List.set_cons_succ, i64_w, i32_w]
                            rfl
                          refine one_ (i := 5) (N := some 67) #[true, true, true, true, true, true, false, false, false, false, false, false] rfl rfl (one_of HT_.out (by kernel_rfl)) (by decide) (fun K hK => ?_)
                          refine goes_ Try.func16 (by kernel_rfl) rfl #[.slice A78 y443.length c78] (by rfl) rfl rfl (by (try simp only [List.map_toArray, List.map_cons, List.map_nil]); first | done | rfl | (simp only [List.length_drop, List.length_take]; rfl)) ?_
                          with_reducible refine (api_Grid2.calls _ _ y443 t447 _ ?side1 ?side2 A59.out).mono ?_
                          (case side1 => repeat (first | exact (Kd.C_below HR446.out HB.out) | (with_reducible refine Kd.C_alloc ?_ _) | (with_reducible refine Kd.C_drewN ?_ _) | (with_reducible refine Kd.C_drew ?_)))
                          (case side2 => exact HC446.out)
                          rintro e w79 ⟨v448, rfl, ho0, hb⟩
                          refine ⟨_, rfl, ?_⟩
                          have n0_ := Aside0.mk (Kd.R_below (by (with_reducible repeat (first | apply Kd.R_alloc | apply Kd.R_drewN | apply Kd.R_drew)); exact HO_8.out) hb)
                          have n1_ := Aside0.mk (Kd.R_below (by (with_reducible repeat (first | apply Kd.R_alloc | apply Kd.R_drewN | apply Kd.R_drew)); exact HO_11.out) hb)
                          have n2_ := Aside0.mk (Kd.R_lower ho0 (below_size (by repeat (first | (with_reducible first | exact HB.out | apply below_alloc | apply pw_below_drewN | apply below_drew1 | refine below_set ?_ GE419.out | refine below_set ?_ GE420.out | refine below_set ?_ GE421.out | refine below_set ?_ GE441.out) | exact HB.out))))
                          have n3_ := Aside0.mk (blk_below (g := gb419) (o := .cells #[.int .i64 a0_0, .int .i64 a0_1, .int .i64 a0_2, .int .i64 a0_3, .int .i64 a0_4, .int .i64 a0_5, .bool a0_6] 23 (0, 0)) (by (with_reducible repeat (first | refine blk_drewN ?_ _ | refine blk_drew ?_ | refine blk_alloc ?_ _)); exact BK419.out) hb)
                          have n4_ := Aside0.mk (blk_below (g := gb420) (o := .cells #[.int .i64 a1_0, .int .i64 a1_1, .int .i64 a1_2] 36 (0, 0)) (by (with_reducible repeat (first | refine blk_drewN ?_ _ | refine blk_drew ?_ | refine blk_alloc ?_ _)); exact BK420.out) hb)
                          have n5_ := Aside0.mk (blk_below (g := gb421) (o := .cells #[.slice A2_0 l2_0.length c2_0, .int .u8 a2_1] 64 (0, 0)) (by (with_reducible repeat (first | refine blk_drewN ?_ _ | refine blk_drew ?_ | refine blk_alloc ?_ _)); exact BK421.out) hb)
                          have n6_ := Aside0.mk (blk_below (g := gb441) (o := .cells #[.int .i64 x442000_22, .int .i64 x442001_22, .int .i64 x442002_22] 36 (0, 0)) (by (with_reducible repeat (first | refine blk_drewN ?_ _ | refine blk_drew ?_ | refine blk_alloc ?_ _)); exact BK441.out) hb)
                          have n7_ := Aside0.mk (below_step (by repeat (first | (with_reducible first | exact HB.out | apply below_alloc | apply pw_below_drewN | apply below_drew1 | refine below_set ?_ GE419.out | refine below_set ?_ GE420.out | refine below_set ?_ GE421.out | refine below_set ?_ GE441.out) | exact HB.out)) hb)
                          clear HO_8
                          clear HO_11
                          clear BK419
                          clear BK420
                          clear BK421
                          clear BK441
                          clear HB
                          have HO_8 := n0_
                          have HO_11 := n1_
                          have HO449 := n2_
                          have BK419 := n3_
                          have BK420 := n4_
                          have BK421 := n5_
                          have BK441 := n6_
                          have HB := n7_
                          clear n0_ n1_ n2_ n3_ n4_ n5_ n6_ n7_
                          (try clear hb)
                          (try clear hb2)
                          (try clear hk)
                          (try clear hi)
                          (try clear ho0)
                          obtain ⟨Ao80, co80, eo80⟩ := Kd.R_slice HO449.out
                          (first | subst eo80 | (injection eo80 with f1_ f2_ f3_; have f4_ := f1_.symm; have f5_ := f3_.symm; clear f1_ f2_ f3_; subst f4_; subst f5_))
                          refine hK.out _ _ ⟨(blk_cell BK419.out 0).trans rfl, (blk_cell BK419.out 1).trans rfl, (blk_cell BK419.out 2).trans rfl, (blk_cell BK419.out 3).trans rfl, (blk_cell BK419.out 4).trans rfl, (blk_cell BK419.out 5).trans rfl, (blk_cell BK419.out 6).trans rfl, (blk_cell BK441.out 0).trans rfl, (blk_cell BK441.out 1).trans rfl, (blk_cell BK441.out 2).trans rfl⟩ (fun hHeld => ?_)
                          clear hK K
                          refine norm_ (a' := ?_) ?_ ?_
                          rotate_left
                          · show Act.put _ (some 67) _ = _
                            simp only [Act.put, List.setIfInBounds_toArray, List.set_cons_zero, List.set_cons_succ, i64_w, i32_w]
                            rfl
                          refine one_ (i := 6) (N := some 68) #[true, true, true, true, true, true, true, false, false, false, false, false] rfl rfl (one_of HT_.out (by kernel_rfl)) (by decide) (fun K hK => ?_)
                          refine goes_ Try.func15 (by kernel_rfl) rfl #[.agg #[.int .i64 a0_0, .int .i64 a0_1, .int .i64 a0_2, .int .i64 a0_3, .int .i64 a0_4, .int .i64 a0_5, .bool a0_6], .agg #[.int .i64 x442000_22, .int .i64 x442001_22, .int .i64 x442002_22], .slice Ao80 t447.length co80] (by rfl) rfl rfl (by (try simp only [List.map_toArray, List.map_cons, List.map_nil]); first | done | rfl | (simp only [List.length_drop, List.length_take]; rfl)) ?_
                          with_reducible refine (cycle_Expand.calls kj22 a0_0 a0_1 a0_2 a0_3 a0_4 a0_5 a0_6 x442000_22 x442001_22 x442002_22 _ _ t447 t450 t453 _ ?side1 ?side2 A60.out).mono ?_
                          (case side1 => repeat (first | exact (Kd.R_reads' HO449.out).2.2 | (with_reducible refine Kd.C_alloc ?_ _) | (with_reducible refine Kd.C_drewN ?_ _) | (with_reducible refine Kd.C_drew ?_)))
                          (case side2 => exact (Kd.R_reads' HO449.out).2.1)
                          rintro e w81 ⟨v451, rfl, ho0, hb⟩
                          refine ⟨_, rfl, ?_⟩
                          have n0_ := Aside0.mk (Kd.R_elder' (by (with_reducible repeat (first | apply Kd.R_alloc | apply Kd.R_drewN | apply Kd.R_drew)); exact HO_8.out) (Kd.R_base ho0) hb)
                          have n1_ := Aside0.mk (Kd.R_elder' (by (with_reducible repeat (first | apply Kd.R_alloc | apply Kd.R_drewN | apply Kd.R_drew)); exact HO_11.out) (Kd.R_base ho0) hb)
                          have n2_ := Aside0.mk (Kd.R_below (by (with_reducible repeat (first | apply Kd.R_alloc | apply Kd.R_drewN | apply Kd.R_drew)); exact HO449.out) hb)
                          have n3_ := Aside0.mk (Kd.R_lower (Kd.R_new' (Kd.R_new' ho0 (Kd.R_lt (by (with_reducible repeat (first | apply Kd.R_alloc | apply Kd.R_drewN | apply Kd.R_drew)); exact HO_8.out))) (Kd.R_lt (by (with_reducible repeat (first | apply Kd.R_alloc | apply Kd.R_drewN | apply Kd.R_drew)); exact HO_11.out))) (below_size (by repeat (first | (with_reducible first | exact HB.out | apply below_alloc | apply pw_below_drewN | apply below_drew1 | refine below_set ?_ GE419.out | refine below_set ?_ GE420.out | refine below_set ?_ GE421.out | refine below_set ?_ GE441.out) | exact HB.out))))
                          have n4_ := Aside0.mk (blk_below (g := gb419) (o := .cells #[.int .i64 a0_0, .int .i64 a0_1, .int .i64 a0_2, .int .i64 a0_3, .int .i64 a0_4, .int .i64 a0_5, .bool a0_6] 23 (0, 0)) (by (with_reducible repeat (first | refine blk_drewN ?_ _ | refine blk_drew ?_ | refine blk_alloc ?_ _)); exact BK419.out) hb)
                          have n5_ := Aside0.mk (blk_below (g := gb420) (o := .cells #[.int .i64 a1_0, .int .i64 a1_1, .int .i64 a1_2] 36 (0, 0)) (by (with_reducible repeat (first | refine blk_drewN ?_ _ | refine blk_drew ?_ | refine blk_alloc ?_ _)); exact BK420.out) hb)
                          have n6_ := Aside0.mk (blk_below (g := gb421) (o := .cells #[.slice A2_0 l2_0.length c2_0, .int .u8 a2_1] 64 (0, 0)) (by (with_reducible repeat (first | refine blk_drewN ?_ _ | refine blk_drew ?_ | refine blk_alloc ?_ _)); exact BK421.out) hb)
                          have n7_ := Aside0.mk (blk_below (g := gb441) (o := .cells #[.int .i64 x442000_22, .int .i64 x442001_22, .int .i64 x442002_22] 36 (0, 0)) (by (with_reducible repeat (first | refine blk_drewN ?_ _ | refine blk_drew ?_ | refine blk_alloc ?_ _)); exact BK441.out) hb)
                          have n8_ := Aside0.mk (below_step (by repeat (first | (with_reducible first | exact HB.out | apply below_alloc | apply pw_below_drewN | apply below_drew1 | refine below_set ?_ GE419.out | refine below_set ?_ GE420.out | refine below_set ?_ GE421.out | refine below_set ?_ GE441.out) | exact HB.out)) hb)
                          clear HO_8
                          clear HO_11
                          clear HO449
                          clear BK419
                          clear BK420
                          clear BK421
                          clear BK441
                          clear HB
                          have HO_8 := n0_
                          have HO_11 := n1_
                          have HO449 := n2_
                          have HO452 := n3_
                          have BK419 := n4_
                          have BK420 := n5_
                          have BK421 := n6_
                          have BK441 := n7_
                          have HB := n8_
                          clear n0_ n1_ n2_ n3_ n4_ n5_ n6_ n7_ n8_
                          (try clear hb)
                          (try clear hb2)
                          (try clear hk)
                          (try clear hi)
                          (try clear ho0)
                          refine hK.out _ _ ⟨(blk_cell BK419.out 0).trans rfl, (blk_cell BK419.out 1).trans rfl, (blk_cell BK419.out 2).trans rfl, (blk_cell BK419.out 3).trans rfl, (blk_cell BK419.out 4).trans rfl, (blk_cell BK419.out 5).trans rfl, (blk_cell BK419.out 6).trans rfl, (blk_cell BK441.out 0).trans rfl, (blk_cell BK441.out 1).trans rfl, (blk_cell BK441.out 2).trans rfl⟩ (fun hHeld => ?_)
                          clear hK K
                          refine norm_ (a' := ?_) ?_ ?_
                          rotate_left
                          · show Act.put _ (some 68) _ = _
                            simp only [Act.put, List.setIfInBounds_toArray, List.set_cons_zero, List.set_cons_succ, i64_w, i32_w]
                            rfl
                          refine pure_ (i := 7) (N := some 61) (v := ?_) (a' := ?_) #[true, true, true, true, true, true, true, true, false, false, false, false] rfl rfl (any_of HT_.out (by kernel_rfl)) (fun _ _ _ h => h) (Or.inl ⟨by rfl, ?_⟩) ?_ ?_
                          rotate_left
                          · intro w'
                            go_simp
                            with_reducible rfl
                          rotate_left
                          · simp only [Act.put, List.setIfInBounds_toArray, List.set_cons_zero, List.set_cons_succ, i64_w, i32_w]
                            rfl
                          refine pure_ (i := 8) (N := some 69) (v := ?_) (a' := ?_) #[true, true, true, true, true, true, true, true, true, false, false, false] rfl rfl (any_of HT_.out (by kernel_rfl)) (fun _ _ _ h => h) (Or.inl ⟨by rfl, ?_⟩) ?_ ?_
                          rotate_left
                          · intro w'
                            go_simp
                            with_reducible rfl
                          rotate_left
                          · simp only [Act.put, List.setIfInBounds_toArray, List.set_cons_zero, List.set_cons_succ, i64_w, i32_w]
                            rfl
                          refine pure_ (i := 9) (N := some 70) (v := ?_) (a' := ?_) #[true, true, true, true, true, true, true, true, true, true, false, false] rfl rfl (any_of HT_.out (by kernel_rfl)) (fun _ _ _ h => h) (Or.inl ⟨by rfl, ?_⟩) ?_ ?_
                          rotate_left
                          · intro w'
                            go_simp
                            with_reducible rfl
                          rotate_left
                          · simp only [Act.put, List.setIfInBounds_toArray, List.set_cons_zero, List.set_cons_succ, i64_w, i32_w]
                            rfl
                          refine pure_ (i := 10) (N := some 14) (v := ?_) (a' := ?_) #[true, true, true, true, true, true, true, true, true, true, true, false] rfl rfl (any_of HT_.out (by kernel_rfl)) (fun _ _ _ h => h) (Or.inl ⟨by rfl, ?_⟩) ?_ ?_
                          rotate_left
                          · intro w'
                            go_simp
                            with_reducible rfl
                          rotate_left
                          · simp only [Act.put, List.setIfInBounds_toArray, List.set_cons_zero, List.set_cons_succ, i64_w, i32_w]
                            rfl
                          refine pure_ (i := 11) (N := some 15) (v := ?_) (a' := ?_) #[true, true, true, true, true, true, true, true, true, true, true, true] rfl rfl (any_of HT_.out (by kernel_rfl)) (fun _ _ _ h => h) (Or.inl ⟨by rfl, ?_⟩) ?_ ?_
                          rotate_left
                          · intro w'
                            go_simp
                            with_reducible rfl
                          rotate_left
                          · simp only [Act.put, List.setIfInBounds_toArray, List.set_cons_zero, List.set_cons_succ, i64_w, i32_w]
                            rfl
                          refine done_ (done_of HT_.out (by kernel_rfl)) ?_
                          try go_wp2
                          go_ret
                          exact ⟨by first | rfl | (simp [errW_none, errW_some] <;> rfl) | (simp only [← hji18]; first | rfl | (simp [errW_none, errW_some] <;> rfl)) | (simp [*, errW_none, errW_some] <;> rfl), by repeat (first | (with_reducible first | exact HB.out | apply below_alloc | apply pw_below_drewN | apply below_drew1 | refine below_set ?_ GE419.out | refine below_set ?_ GE420.out | refine below_set ?_ GE421.out | refine below_set ?_ GE441.out) | exact HB.out)⟩
                      · rw [if_neg c61] at H
                        have c61b0 : (t440 == 0) = false := beq_eq_false_iff_ne.mpr c61
                        have c61b1 : (t440 != 0) = true := bne_iff_ne.mpr c61
                        obtain rfl := Option.some.inj H
                        try go_wp2
                        have n0_ := Aside0.mk (Kd.R_drew HO_8.out)
                        have n1_ := Aside0.mk (Kd.R_drew HO_11.out)
                        have n2_ := Aside0.mk (blk_drew BK419.out)
                        have n3_ := Aside0.mk (blk_drew BK420.out)
                        have n4_ := Aside0.mk (blk_drew BK421.out)
                        have n5_ := Aside0.mk (blk_drew BK441.out)
                        have n6_ := Aside0.mk (below_drew1 HB.out)
                        clear HO_8
                        clear HO_11
                        clear BK419
                        clear BK420
                        clear BK421
                        clear BK441
                        clear HB
                        have HO_8 := n0_
                        have HO_11 := n1_
                        have BK419 := n2_
                        have BK420 := n3_
                        have BK421 := n4_
                        have BK441 := n5_
                        have HB := n6_
                        clear n0_ n1_ n2_ n3_ n4_ n5_ n6_
                        have q83 : (ji18 : Int) ≤ ((l2_0.length : Int) : Int) := of_decide_eq_true (by first | (with_reducible assumption) | assumption)
                        obtain ⟨i083, hi083, _, hsz83, _⟩ := info_parts info43
                        have hroom83 : l2_0.length ≤ c2_0 := HC2_0.out
                        have hC83 : Kd.C k43 _ A2_0 l2_0.length l2_0 := HR2_0.out
                        have q083 : (0 : Int) ≤ (ji18 : Int) := of_decide_eq_true (by first | (with_reducible assumption) | assumption)
                        have hcut83 := cut_from (P := Try.prog) 37 43 .i64 Try.underlying37 hi083 2 hsz83 A2_0 l2_0.length c2_0 ji18 q083 q83
                        have hr83 := Kd.C_drop (m := (ji18 : Int).toNat) (c := c2_0) hC83 (by omega) hroom83
                        obtain ⟨A83, hA83⟩ : ∃ A1, A1 = (if c2_0 = (ji18 : Int).toNat then A2_0 else (A2_0 : Option Addr).map (·.add ((ji18 : Int).toNat * 2))) := ⟨_, rfl⟩
                        obtain ⟨c83, hc83⟩ : ∃ c1, c1 = c2_0 - (ji18 : Int).toNat := ⟨_, rfl⟩
                        have hy83 : y443.length = l2_0.length - (ji18 : Int).toNat := (by rw [Ny443.out, List.length_drop] <;> omega)
                        rw [show (l2_0).drop (ji18 : Int).toNat = y443 from Ny443.out.symm] at hr83
                        replace hr83 : Kd.C k43 _ A83 y443.length y443 := (by rw [hA83]; exact hr83)
                        rw [← hy83, ← hA83, ← hc83] at hcut83
                        have HR446 := Aside0.mk hr83
                        have HC446 := Aside0.mk (show y443.length ≤ c83 from by rw [hy83, hc83]; exact Nat.sub_le_sub_right hroom83 _)
                        clear hr83 hC83 hroom83 hi083 hsz83 hc83
                        have KY83 := Aside0.mk hy83
                        have KA83 := Aside0.mk hA83
                        clear hy83 hA83
                        replace q83 := eq_true q83
                        refine start_ (n := 12) (S := fun w' => w'.cell? ⟨gb419, 0, none⟩ = some (.int .i64 a0_0) ∧ w'.cell? ⟨gb419, 1, none⟩ = some (.int .i64 a0_1) ∧ w'.cell? ⟨gb419, 2, none⟩ = some (.int .i64 a0_2) ∧ w'.cell? ⟨gb419, 3, none⟩ = some (.int .i64 a0_3) ∧ w'.cell? ⟨gb419, 4, none⟩ = some (.int .i64 a0_4) ∧ w'.cell? ⟨gb419, 5, none⟩ = some (.int .i64 a0_5) ∧ w'.cell? ⟨gb419, 6, none⟩ = some (.bool a0_6) ∧ w'.cell? ⟨gb441, 0, none⟩ = some (.int .i64 x442000_22) ∧ w'.cell? ⟨gb441, 1, none⟩ = some (.int .i64 x442001_22) ∧ w'.cell? ⟨gb441, 2, none⟩ = some (.int .i64 x442002_22)) (ds := []) #[false, false, false, false, false, false, false, false, false, false, false, false] (by kernel_rfl) rfl rfl ⟨(blk_cell BK419.out 0).trans rfl, (blk_cell BK419.out 1).trans rfl, (blk_cell BK419.out 2).trans rfl, (blk_cell BK419.out 3).trans rfl, (blk_cell BK419.out 4).trans rfl, (blk_cell BK419.out 5).trans rfl, (blk_cell BK419.out 6).trans rfl, (blk_cell BK441.out 0).trans rfl, (blk_cell BK441.out 1).trans rfl, (blk_cell BK441.out 2).trans rfl⟩ (fun hHeld => ?_); refine with_tabW swarflaw44_CycleParts.tab14 swarflaw44_CycleParts.bits14 (fun HT_ HW_ => ?_)
                        generalize wc.drew = w82 at HO_8 HO_11 BK419 BK420 BK421 BK441 HB HR446 hHeld ⊢
                        refine pure_ (i := 2) (N := some 64) (v := ?_) (a' := ?_) #[false, false, true, false, false, false, false, false, false, false, false, false] rfl rfl (any_of HT_.out (by kernel_rfl)) (fun _ _ _ h => h) (Or.inl ⟨by rfl, ?_⟩) ?_ ?_
                        rotate_left
                        · intro w'
                          go_simp
                          with_reducible rfl
                        rotate_left
                        · simp only [Act.put, List.setIfInBounds_toArray, List.set_cons_zero, List.set_cons_succ, i64_w, i32_w]
                          rfl
                        refine pure_ (i := 3) (N := some 65) (v := ?_) (a' := ?_) #[false, false, true, true, false, false, false, false, false, false, false, false] rfl rfl (any_of HT_.out (by kernel_rfl)) (fun _ _ _ h => h) (Or.inl ⟨by rfl, ?_⟩) ?_ ?_
                        rotate_left
                        · intro w'
                          go_simp
                          with_reducible rfl
                        rotate_left
                        · simp only [Act.put, List.setIfInBounds_toArray, List.set_cons_zero, List.set_cons_succ, i64_w, i32_w]
                          rfl
                        refine pure_ (i := 4) (N := some 66) (v := ?_) (a' := ?_) #[false, false, true, true, true, false, false, false, false, false, false, false] rfl rfl (any_of HT_.out (by kernel_rfl)) (fun _ _ _ h => h) (Or.inl ⟨by rfl, ?_⟩) ?_ ?_
                        rotate_left
                        · intro w'
                          go_simp
                          with_reducible rfl
                        rotate_left
                        · simp only [Act.put, List.setIfInBounds_toArray, List.set_cons_zero, List.set_cons_succ, i64_w, i32_w]
                          rfl
                        refine take_ (i := 0) (N := some 62) (v := ?_) (a' := ?_) #[true, false, true, true, true, false, false, false, false, false, false, false] rfl rfl (take_ofW HT_.out HW_.out (by kernel_rfl)) (fun _ _ _ h => h) (Or.inl ⟨by rfl, ?_⟩) hHeld ?_ ?_
                        rotate_left
                        · rintro w' ⟨s0, s1, s2, s3, s4, s5, s6, s7, s8, s9⟩
                          go_simp
                          with_reducible rfl
                        rotate_left
                        · simp only [Act.put, List.setIfInBounds_toArray, List.set_cons_zero, List.set_cons_succ, i64_w, i32_w]
                          rfl
                        refine take_ (i := 1) (N := some 63) (v := ?_) (a' := ?_) #[true, true, true, true, true, false, false, false, false, false, false, false] rfl rfl (take_ofW HT_.out HW_.out (by kernel_rfl)) (fun _ _ _ h => h) (Or.inl ⟨by rfl, ?_⟩) hHeld ?_ ?_
                        rotate_left
                        · rintro w' ⟨s0, s1, s2, s3, s4, s5, s6, s7, s8, s9⟩
                          go_simp
                          with_reducible rfl
                        rotate_left
                        · simp only [Act.put, List.setIfInBounds_toArray, List.set_cons_zero, List.set_cons_succ, i64_w, i32_w]
                          rfl
                        refine one_ (i := 5) (N := some 67) #[true, true, true, true, true, true, false, false, false, false, false, false] rfl rfl (one_of HT_.out (by kernel_rfl)) (by decide) (fun K hK => ?_)
                        refine goes_ Try.func16 (by kernel_rfl) rfl #[.slice A83 y443.length c83] (by rfl) rfl rfl (by (try simp only [List.map_toArray, List.map_cons, List.map_nil]); first | done | rfl | (simp only [List.length_drop, List.length_take]; rfl)) ?_
                        with_reducible refine (api_Grid2.calls _ _ y443 t447 _ ?side1 ?side2 A59.out).mono ?_
                        (case side1 => repeat (first | exact (Kd.C_below HR446.out HB.out) | (with_reducible refine Kd.C_alloc ?_ _) | (with_reducible refine Kd.C_drewN ?_ _) | (with_reducible refine Kd.C_drew ?_)))
                        (case side2 => exact HC446.out)
                        rintro e w84 ⟨v448, rfl, ho0, hb⟩
                        refine ⟨_, rfl, ?_⟩
                        have n0_ := Aside0.mk (Kd.R_below (by (with_reducible repeat (first | apply Kd.R_alloc | apply Kd.R_drewN | apply Kd.R_drew)); exact HO_8.out) hb)
                        have n1_ := Aside0.mk (Kd.R_below (by (with_reducible repeat (first | apply Kd.R_alloc | apply Kd.R_drewN | apply Kd.R_drew)); exact HO_11.out) hb)
                        have n2_ := Aside0.mk (Kd.R_lower ho0 (below_size (by repeat (first | (with_reducible first | exact HB.out | apply below_alloc | apply pw_below_drewN | apply below_drew1 | refine below_set ?_ GE419.out | refine below_set ?_ GE420.out | refine below_set ?_ GE421.out | refine below_set ?_ GE441.out) | exact HB.out))))
                        have n3_ := Aside0.mk (blk_below (g := gb419) (o := .cells #[.int .i64 a0_0, .int .i64 a0_1, .int .i64 a0_2, .int .i64 a0_3, .int .i64 a0_4, .int .i64 a0_5, .bool a0_6] 23 (0, 0)) (by (with_reducible repeat (first | refine blk_drewN ?_ _ | refine blk_drew ?_ | refine blk_alloc ?_ _)); exact BK419.out) hb)
                        have n4_ := Aside0.mk (blk_below (g := gb420) (o := .cells #[.int .i64 a1_0, .int .i64 a1_1, .int .i64 a1_2] 36 (0, 0)) (by (with_reducible repeat (first | refine blk_drewN ?_ _ | refine blk_drew ?_ | refine blk_alloc ?_ _)); exact BK420.out) hb)
                        have n5_ := Aside0.mk (blk_below (g := gb421) (o := .cells #[.slice A2_0 l2_0.length c2_0, .int .u8 a2_1] 64 (0, 0)) (by (with_reducible repeat (first | refine blk_drewN ?_ _ | refine blk_drew ?_ | refine blk_alloc ?_ _)); exact BK421.out) hb)
                        have n6_ := Aside0.mk (blk_below (g := gb441) (o := .cells #[.int .i64 x442000_22, .int .i64 x442001_22, .int .i64 x442002_22] 36 (0, 0)) (by (with_reducible repeat (first | refine blk_drewN ?_ _ | refine blk_drew ?_ | refine blk_alloc ?_ _)); exact BK441.out) hb)
                        have n7_ := Aside0.mk (below_step (by repeat (first | (with_reducible first | exact HB.out | apply below_alloc | apply pw_below_drewN | apply below_drew1 | refine below_set ?_ GE419.out | refine below_set ?_ GE420.out | refine below_set ?_ GE421.out | refine below_set ?_ GE441.out) | exact HB.out)) hb)
                        clear HO_8
                        clear HO_11
                        clear BK419
                        clear BK420
                        clear BK421
                        clear BK441
                        clear HB
                        have HO_8 := n0_
                        have HO_11 := n1_
                        have HO449 := n2_
                        have BK419 := n3_
                        have BK420 := n4_
                        have BK421 := n5_
                        have BK441 := n6_
                        have HB := n7_
                        clear n0_ n1_ n2_ n3_ n4_ n5_ n6_ n7_
                        (try clear hb)
                        (try clear hb2)
                        (try clear hk)
                        (try clear hi)
                        (try clear ho0)
                        obtain ⟨Ao85, co85, eo85⟩ := Kd.R_slice HO449.out
                        (first | subst eo85 | (injection eo85 with f1_ f2_ f3_; have f4_ := f1_.symm; have f5_ := f3_.symm; clear f1_ f2_ f3_; subst f4_; subst f5_))
                        refine hK.out _ _ ⟨(blk_cell BK419.out 0).trans rfl, (blk_cell BK419.out 1).trans rfl, (blk_cell BK419.out 2).trans rfl, (blk_cell BK419.out 3).trans rfl, (blk_cell BK419.out 4).trans rfl, (blk_cell BK419.out 5).trans rfl, (blk_cell BK419.out 6).trans rfl, (blk_cell BK441.out 0).trans rfl, (blk_cell BK441.out 1).trans rfl, (blk_cell BK441.out 2).trans rfl⟩ (fun hHeld => ?_)
                        clear hK K
                        refine norm_ (a' := ?_) ?_ ?_
                        rotate_left
                        · show Act.put _ (some 67) _ = _
                          simp only [Act.put, List.setIfInBounds_toArray, List.set_cons_zero, List.set_cons_succ, i64_w, i32_w]
                          rfl
                        refine one_ (i := 6) (N := some 68) #[true, true, true, true, true, true, true, false, false, false, false, false] rfl rfl (one_of HT_.out (by kernel_rfl)) (by decide) (fun K hK => ?_)
                        refine goes_ Try.func15 (by kernel_rfl) rfl #[.agg #[.int .i64 a0_0, .int .i64 a0_1, .int .i64 a0_2, .int .i64 a0_3, .int .i64 a0_4, .int .i64 a0_5, .bool a0_6], .agg #[.int .i64 x442000_22, .int .i64 x442001_22, .int .i64 x442002_22], .slice Ao85 t447.length co85] (by rfl) rfl rfl (by (try simp only [List.map_toArray, List.map_cons, List.map_nil]); first | done | rfl | (simp only [List.length_drop, List.length_take]; rfl)) ?_
                        with_reducible refine (cycle_Expand.calls kj22 a0_0 a0_1 a0_2 a0_3 a0_4 a0_5 a0_6 x442000_22 x442001_22 x442002_22 _ _ t447 t450 t453 _ ?side1 ?side2 A60.out).mono ?_
                        (case side1 => repeat (first | exact (Kd.R_reads' HO449.out).2.2 | (with_reducible refine Kd.C_alloc ?_ _) | (with_reducible refine Kd.C_drewN ?_ _) | (with_reducible refine Kd.C_drew ?_)))
                        (case side2 => exact (Kd.R_reads' HO449.out).2.1)
                        rintro e w86 ⟨v451, rfl, ho0, hb⟩
                        refine ⟨_, rfl, ?_⟩
                        have n0_ := Aside0.mk (Kd.R_elder' (by (with_reducible repeat (first | apply Kd.R_alloc | apply Kd.R_drewN | apply Kd.R_drew)); exact HO_8.out) (Kd.R_base ho0) hb)
                        have n1_ := Aside0.mk (Kd.R_elder' (by (with_reducible repeat (first | apply Kd.R_alloc | apply Kd.R_drewN | apply Kd.R_drew)); exact HO_11.out) (Kd.R_base ho0) hb)
                        have n2_ := Aside0.mk (Kd.R_below (by (with_reducible repeat (first | apply Kd.R_alloc | apply Kd.R_drewN | apply Kd.R_drew)); exact HO449.out) hb)
                        have n3_ := Aside0.mk (Kd.R_lower (Kd.R_new' (Kd.R_new' ho0 (Kd.R_lt (by (with_reducible repeat (first | apply Kd.R_alloc | apply Kd.R_drewN | apply Kd.R_drew)); exact HO_8.out))) (Kd.R_lt (by (with_reducible repeat (first | apply Kd.R_alloc | apply Kd.R_drewN | apply Kd.R_drew)); exact HO_11.out))) (below_size (by repeat (first | (with_reducible first | exact HB.out | apply below_alloc | apply pw_below_drewN | apply below_drew1 | refine below_set ?_ GE419.out | refine below_set ?_ GE420.out | refine below_set ?_ GE421.out | refine below_set ?_ GE441.out) | exact HB.out))))
                        have n4_ := Aside0.mk (blk_below (g := gb419) (o := .cells #[.int .i64 a0_0, .int .i64 a0_1, .int .i64 a0_2, .int .i64 a0_3, .int .i64 a0_4, .int .i64 a0_5, .bool a0_6] 23 (0, 0)) (by (with_reducible repeat (first | refine blk_drewN ?_ _ | refine blk_drew ?_ | refine blk_alloc ?_ _)); exact BK419.out) hb)
                        have n5_ := Aside0.mk (blk_below (g := gb420) (o := .cells #[.int .i64 a1_0, .int .i64 a1_1, .int .i64 a1_2] 36 (0, 0)) (by (with_reducible repeat (first | refine blk_drewN ?_ _ | refine blk_drew ?_ | refine blk_alloc ?_ _)); exact BK420.out) hb)
                        have n6_ := Aside0.mk (blk_below (g := gb421) (o := .cells #[.slice A2_0 l2_0.length c2_0, .int .u8 a2_1] 64 (0, 0)) (by (with_reducible repeat (first | refine blk_drewN ?_ _ | refine blk_drew ?_ | refine blk_alloc ?_ _)); exact BK421.out) hb)
                        have n7_ := Aside0.mk (blk_below (g := gb441) (o := .cells #[.int .i64 x442000_22, .int .i64 x442001_22, .int .i64 x442002_22] 36 (0, 0)) (by (with_reducible repeat (first | refine blk_drewN ?_ _ | refine blk_drew ?_ | refine blk_alloc ?_ _)); exact BK441.out) hb)
                        have n8_ := Aside0.mk (below_step (by repeat (first | (with_reducible first | exact HB.out | apply below_alloc | apply pw_below_drewN | apply below_drew1 | refine below_set ?_ GE419.out | refine below_set ?_ GE420.out | refine below_set ?_ GE421.out | refine below_set ?_ GE441.out) | exact HB.out)) hb)
                        clear HO_8
                        clear HO_11
                        clear HO449
                        clear BK419
                        clear BK420
                        clear BK421
                        clear BK441
                        clear HB
                        have HO_8 := n0_
                        have HO_11 := n1_
                        have HO449 := n2_
                        have HO452 := n3_
                        have BK419 := n4_
                        have BK420 := n5_
                        have BK421 := n6_
                        have BK441 := n7_
                        have HB := n8_
                        clear n0_ n1_ n2_ n3_ n4_ n5_ n6_ n7_ n8_
                        (try clear hb)
                        (try clear hb2)
                        (try clear hk)
                        (try clear hi)
                        (try clear ho0)
                        refine hK.out _ _ ⟨(blk_cell BK419.out 0).trans rfl, (blk_cell BK419.out 1).trans rfl, (blk_cell BK419.out 2).trans rfl, (blk_cell BK419.out 3).trans rfl, (blk_cell BK419.out 4).trans rfl, (blk_cell BK419.out 5).trans rfl, (blk_cell BK419.out 6).trans rfl, (blk_cell BK441.out 0).trans rfl, (blk_cell BK441.out 1).trans rfl, (blk_cell BK441.out 2).trans rfl⟩ (fun hHeld => ?_)
                        clear hK K
                        refine norm_ (a' := ?_) ?_ ?_
                        rotate_left
                        · show Act.put _ (some 68) _ = _
                          simp only [Act.put, List.setIfInBounds_toArray, List.set_cons_zero, List.set_cons_succ, i64_w, i32_w]
                          rfl
                        refine pure_ (i := 7) (N := some 61) (v := ?_) (a' := ?_) #[true, true, true, true, true, true, true, true, false, false, false, false] rfl rfl (any_of HT_.out (by kernel_rfl)) (fun _ _ _ h => h) (Or.inl ⟨by rfl, ?_⟩) ?_ ?_
                        rotate_left
                        · intro w'
                          go_simp
                          with_reducible rfl
                        rotate_left
                        · simp only [Act.put, List.setIfInBounds_toArray, List.set_cons_zero, List.set_cons_succ, i64_w, i32_w]
                          rfl
                        refine pure_ (i := 8) (N := some 69) (v := ?_) (a' := ?_) #[true, true, true, true, true, true, true, true, true, false, false, false] rfl rfl (any_of HT_.out (by kernel_rfl)) (fun _ _ _ h => h) (Or.inl ⟨by rfl, ?_⟩) ?_ ?_
                        rotate_left
                        · intro w'
                          go_simp
                          with_reducible rfl
                        rotate_left
                        · simp only [Act.put, List.setIfInBounds_toArray, List.set_cons_zero, List.set_cons_succ, i64_w, i32_w]
                          rfl
                        refine pure_ (i := 9) (N := some 70) (v := ?_) (a' := ?_) #[true, true, true, true, true, true, true, true, true, true, false, false] rfl rfl (any_of HT_.out (by kernel_rfl)) (fun _ _ _ h => h) (Or.inl ⟨by rfl, ?_⟩) ?_ ?_
                        rotate_left
                        · intro w'
                          go_simp
                          with_reducible rfl
                        rotate_left
                        · simp only [Act.put, List.setIfInBounds_toArray, List.set_cons_zero, List.set_cons_succ, i64_w, i32_w]
                          rfl
                        refine pure_ (i := 10) (N := some 14) (v := ?_) (a' := ?_) #[true, true, true, true, true, true, true, true, true, true, true, false] rfl rfl (any_of HT_.out (by kernel_rfl)) (fun _ _ _ h => h) (Or.inl ⟨by rfl, ?_⟩) ?_ ?_
                        rotate_left
                        · intro w'
                          go_simp
                          with_reducible rfl
                        rotate_left
                        · simp only [Act.put, List.setIfInBounds_toArray, List.set_cons_zero, List.set_cons_succ, i64_w, i32_w]
                          rfl
                        refine pure_ (i := 11) (N := some 15) (v := ?_) (a' := ?_) #[true, true, true, true, true, true, true, true, true, true, true, true] rfl rfl (any_of HT_.out (by kernel_rfl)) (fun _ _ _ h => h) (Or.inl ⟨by rfl, ?_⟩) ?_ ?_
                        rotate_left
                        · intro w'
                          go_simp
                          with_reducible rfl
                        rotate_left
                        · simp only [Act.put, List.setIfInBounds_toArray, List.set_cons_zero, List.set_cons_succ, i64_w, i32_w]
                          rfl
                        refine done_ (done_of HT_.out (by kernel_rfl)) ?_
                        try go_wp2
                        go_ret
                        exact ⟨by first | rfl | (simp [errW_none, errW_some] <;> rfl) | (simp only [← hji18]; first | rfl | (simp [errW_none, errW_some] <;> rfl)) | (simp [*, errW_none, errW_some] <;> rfl), by repeat (first | (with_reducible first | exact HB.out | apply below_alloc | apply pw_below_drewN | apply below_drew1 | refine below_set ?_ GE419.out | refine below_set ?_ GE420.out | refine below_set ?_ GE421.out | refine below_set ?_ GE441.out) | exact HB.out)⟩
                    · rw [if_neg c58] at H
                      exact absurd H (by simp)
                  · rw [if_neg c57] at H
                    exact absurd H (by simp)
            · rw [if_neg c20] at H
              exact absurd H (by simp)
          · rw [if_neg c19] at H
            exact absurd H (by simp)
      · rw [if_neg c16] at H
        have c16b0 : (t429 == 0) = false := beq_eq_false_iff_ne.mpr c16
        have c16b1 : (t429 != 0) = true := bne_iff_ne.mpr c16
        obtain rfl := Option.some.inj H
        go_enter Try.func8, Try.ntmps8
        try go_wp2_with (first | ((with_reducible refine gate_dst (N := 3) rfl ?_); (try (refine gate_guard (by rfl) ?_; dsimp only)); refine box_event ?hg (N := 3) ?hd (cs := #[.int .i64 a0_0, .int .i64 a0_1, .int .i64 a0_2, .int .i64 a0_3, .int .i64 a0_4, .int .i64 a0_5, .bool a0_6]) (t := 23) ?hr ?_; (case hd => rfl); (case hg => rfl); (case hr => first | (go_simp; done) | (go_simp; rfl)); intro gb419 hg w87 hbox hb; have n0_ := Aside0.mk (below_step (by repeat (first | (with_reducible first | exact HB.out | apply below_alloc | apply pw_below_drewN | apply below_drew1) | exact HB.out)) hb); have n1_ := Aside0.mk (hbox); have n2_ := Aside0.mk ((by rw [hg]; exact (below_size (by repeat (first | (with_reducible first | exact HB.out | apply below_alloc | apply pw_below_drewN | apply below_drew1) | exact HB.out))) : w.heap.size ≤ gb419)); have n3_ := Aside0.mk ((by rw [hg]; exact (below_size (by repeat (first | (with_reducible first | exact HB.out | apply below_alloc | apply pw_below_drewN | apply below_drew1) | exact HB.out))) : w.heap.size ≤ gb419)); clear HB; have HB := n0_; have BK419 := n1_; have GW419 := n2_; have GE419 := n3_; clear n0_ n1_ n2_ n3_; clear hb hbox hg) | ((with_reducible refine gate_dst (N := 4) rfl ?_); (try (refine gate_guard (by rfl) ?_; dsimp only)); refine box_event ?hg (N := 4) ?hd (cs := #[.int .i64 a1_0, .int .i64 a1_1, .int .i64 a1_2]) (t := 36) ?hr ?_; (case hd => rfl); (case hg => rfl); (case hr => first | (go_simp; done) | (go_simp; rfl)); intro gb420 hg w88 hbox hb; have n0_ := Aside0.mk (blk_below (g := gb419) (o := .cells #[.int .i64 a0_0, .int .i64 a0_1, .int .i64 a0_2, .int .i64 a0_3, .int .i64 a0_4, .int .i64 a0_5, .bool a0_6] 23 (0, 0)) (by (with_reducible repeat (first | refine blk_drewN ?_ _ | refine blk_drew ?_ | refine blk_alloc ?_ _)); exact BK419.out) hb); have n1_ := Aside0.mk (below_step (by repeat (first | (with_reducible first | exact HB.out | apply below_alloc | apply pw_below_drewN | apply below_drew1 | refine below_set ?_ GE419.out) | exact HB.out)) hb); have n2_ := Aside0.mk (hbox); have n3_ := Aside0.mk ((by rw [hg]; exact (below_size (by repeat (first | (with_reducible first | exact HB.out | apply below_alloc | apply pw_below_drewN | apply below_drew1 | refine below_set ?_ GE419.out) | exact HB.out))) : w.heap.size ≤ gb420)); have n4_ := Aside0.mk ((by rw [hg]; exact (below_size (by repeat (first | (with_reducible first | exact HB.out | apply below_alloc | apply pw_below_drewN | apply below_drew1 | refine below_set ?_ GE419.out) | exact HB.out))) : w.heap.size ≤ gb420)); have n5_ := Aside0.mk ((by rw [hg]; exact Nat.ne_of_lt (blk_lt (g := gb419) (o := .cells #[.int .i64 a0_0, .int .i64 a0_1, .int .i64 a0_2, .int .i64 a0_3, .int .i64 a0_4, .int .i64 a0_5, .bool a0_6] 23 (0, 0)) (by (with_reducible repeat (first | refine blk_drewN ?_ _ | refine blk_drew ?_ | refine blk_alloc ?_ _)); exact BK419.out)) : gb419 ≠ gb420)); have n6_ := Aside0.mk ((by rw [hg]; exact Nat.ne_of_gt (blk_lt (g := gb419) (o := .cells #[.int .i64 a0_0, .int .i64 a0_1, .int .i64 a0_2, .int .i64 a0_3, .int .i64 a0_4, .int .i64 a0_5, .bool a0_6] 23 (0, 0)) (by (with_reducible repeat (first | refine blk_drewN ?_ _ | refine blk_drew ?_ | refine blk_alloc ?_ _)); exact BK419.out)) : gb420 ≠ gb419)); clear BK419; clear HB; have BK419 := n0_; have HB := n1_; have BK420 := n2_; have GW420 := n3_; have GE420 := n4_; have NB419_420 := n5_; have NB420_419 := n6_; clear n0_ n1_ n2_ n3_ n4_ n5_ n6_; clear hb hbox hg) | ((with_reducible refine gate_dst (N := 5) rfl ?_); (try (refine gate_guard (by rfl) ?_; dsimp only)); refine box_event ?hg (N := 5) ?hd (cs := #[.slice A2_0 l2_0.length c2_0, .int .u8 a2_1]) (t := 64) ?hr ?_; (case hd => rfl); (case hg => rfl); (case hr => first | (go_simp; done) | (go_simp; rfl)); intro gb421 hg w89 hbox hb; have n0_ := Aside0.mk (blk_below (g := gb419) (o := .cells #[.int .i64 a0_0, .int .i64 a0_1, .int .i64 a0_2, .int .i64 a0_3, .int .i64 a0_4, .int .i64 a0_5, .bool a0_6] 23 (0, 0)) (by (with_reducible repeat (first | refine blk_drewN ?_ _ | refine blk_drew ?_ | refine blk_alloc ?_ _)); exact BK419.out) hb); have n1_ := Aside0.mk (blk_below (g := gb420) (o := .cells #[.int .i64 a1_0, .int .i64 a1_1, .int .i64 a1_2] 36 (0, 0)) (by (with_reducible repeat (first | refine blk_drewN ?_ _ | refine blk_drew ?_ | refine blk_alloc ?_ _)); exact BK420.out) hb); have n2_ := Aside0.mk (below_step (by repeat (first | (with_reducible first | exact HB.out | apply below_alloc | apply pw_below_drewN | apply below_drew1 | refine below_set ?_ GE419.out | refine below_set ?_ GE420.out) | exact HB.out)) hb); have n3_ := Aside0.mk (hbox); have n4_ := Aside0.mk ((by rw [hg]; exact (below_size (by repeat (first | (with_reducible first | exact HB.out | apply below_alloc | apply pw_below_drewN | apply below_drew1 | refine below_set ?_ GE419.out | refine below_set ?_ GE420.out) | exact HB.out))) : w.heap.size ≤ gb421)); have n5_ := Aside0.mk ((by rw [hg]; exact (below_size (by repeat (first | (with_reducible first | exact HB.out | apply below_alloc | apply pw_below_drewN | apply below_drew1 | refine below_set ?_ GE419.out | refine below_set ?_ GE420.out) | exact HB.out))) : w.heap.size ≤ gb421)); have n6_ := Aside0.mk ((by rw [hg]; exact Nat.ne_of_lt (blk_lt (g := gb419) (o := .cells #[.int .i64 a0_0, .int .i64 a0_1, .int .i64 a0_2, .int .i64 a0_3, .int .i64 a0_4, .int .i64 a0_5, .bool a0_6] 23 (0, 0)) (by (with_reducible repeat (first | refine blk_drewN ?_ _ | refine blk_drew ?_ | refine blk_alloc ?_ _)); exact BK419.out)) : gb419 ≠ gb421)); have n7_ := Aside0.mk ((by rw [hg]; exact Nat.ne_of_gt (blk_lt (g := gb419) (o := .cells #[.int .i64 a0_0, .int .i64 a0_1, .int .i64 a0_2, .int .i64 a0_3, .int .i64 a0_4, .int .i64 a0_5, .bool a0_6] 23 (0, 0)) (by (with_reducible repeat (first | refine blk_drewN ?_ _ | refine blk_drew ?_ | refine blk_alloc ?_ _)); exact BK419.out)) : gb421 ≠ gb419)); have n8_ := Aside0.mk ((by rw [hg]; exact Nat.ne_of_lt (blk_lt (g := gb420) (o := .cells #[.int .i64 a1_0, .int .i64 a1_1, .int .i64 a1_2] 36 (0, 0)) (by (with_reducible repeat (first | refine blk_drewN ?_ _ | refine blk_drew ?_ | refine blk_alloc ?_ _)); exact BK420.out)) : gb420 ≠ gb421)); have n9_ := Aside0.mk ((by rw [hg]; exact Nat.ne_of_gt (blk_lt (g := gb420) (o := .cells #[.int .i64 a1_0, .int .i64 a1_1, .int .i64 a1_2] 36 (0, 0)) (by (with_reducible repeat (first | refine blk_drewN ?_ _ | refine blk_drew ?_ | refine blk_alloc ?_ _)); exact BK420.out)) : gb421 ≠ gb420)); clear BK419; clear BK420; clear HB; have BK419 := n0_; have BK420 := n1_; have HB := n2_; have BK421 := n3_; have GW421 := n4_; have GE421 := n5_; have NB419_421 := n6_; have NB421_419 := n7_; have NB420_421 := n8_; have NB421_420 := n9_; clear n0_ n1_ n2_ n3_ n4_ n5_ n6_ n7_ n8_ n9_; clear hb hbox hg) | ((with_reducible refine gate_callee (f := 9) rfl ?_); refine goesL_ (some 16) rfl rfl Try.func9 (by kernel_rfl) rfl #[] rfl (by (try simp only [List.map_toArray, List.map_cons, List.map_nil]); first | done | rfl | (simp only [List.length_drop, List.length_take]; rfl)) ?_; (with_reducible refine (swarflaw44_awake.calls k  true _ A4.out).mono ?_); rintro e w90 ⟨rfl, hb⟩; refine ⟨_, rfl, ?_⟩; have n0_ := Aside0.mk (blk_below (g := gb419) (o := .cells #[.int .i64 a0_0, .int .i64 a0_1, .int .i64 a0_2, .int .i64 a0_3, .int .i64 a0_4, .int .i64 a0_5, .bool a0_6] 23 (0, 0)) (by (with_reducible repeat (first | refine blk_drewN ?_ _ | refine blk_drew ?_ | refine blk_alloc ?_ _)); exact BK419.out) hb); have n1_ := Aside0.mk (blk_below (g := gb420) (o := .cells #[.int .i64 a1_0, .int .i64 a1_1, .int .i64 a1_2] 36 (0, 0)) (by (with_reducible repeat (first | refine blk_drewN ?_ _ | refine blk_drew ?_ | refine blk_alloc ?_ _)); exact BK420.out) hb); have n2_ := Aside0.mk (blk_below (g := gb421) (o := .cells #[.slice A2_0 l2_0.length c2_0, .int .u8 a2_1] 64 (0, 0)) (by (with_reducible repeat (first | refine blk_drewN ?_ _ | refine blk_drew ?_ | refine blk_alloc ?_ _)); exact BK421.out) hb); have n3_ := Aside0.mk (below_step (by repeat (first | (with_reducible first | exact HB.out | apply below_alloc | apply pw_below_drewN | apply below_drew1 | refine below_set ?_ GE419.out | refine below_set ?_ GE420.out | refine below_set ?_ GE421.out) | exact HB.out)) hb); clear BK419; clear BK420; clear BK421; clear HB; have BK419 := n0_; have BK420 := n1_; have BK421 := n2_; have HB := n3_; clear n0_ n1_ n2_ n3_; (try clear hb); (try clear hb2); (try clear hk); (try clear hi); have hnb91 := NB421_419.out; have hnc91 := NB419_421.out; have hnb92 := NB421_420.out; have hnc92 := NB420_421.out; have hcz93_0 : w90.cell? ⟨gb421, 0, none⟩ = some (.slice A2_0 l2_0.length c2_0) := (blk_cell BK421.out 0).trans rfl; have hcz93_1 : w90.cell? ⟨gb421, 1, none⟩ = some (.int .u8 a2_1) := (blk_cell BK421.out 1).trans rfl; have hfz93_0 := blk_frozen BK421.out 0; have hfz93_1 := blk_frozen BK421.out 1))
        have n0_ := Aside0.mk (blk_drew BK419.out)
        have n1_ := Aside0.mk (blk_drew BK420.out)
        have n2_ := Aside0.mk (blk_drew BK421.out)
        have n3_ := Aside0.mk (below_drew1 HB.out)
        clear BK419
        clear BK420
        clear BK421
        clear HB
        have BK419 := n0_
        have BK420 := n1_
        have BK421 := n2_
        have HB := n3_
        clear n0_ n1_ n2_ n3_
        refine start_ (n := 10) (S := fun w' => w'.cell? ⟨gb419, 0, none⟩ = some (.int .i64 a0_0) ∧ w'.cell? ⟨gb419, 1, none⟩ = some (.int .i64 a0_1) ∧ w'.cell? ⟨gb419, 2, none⟩ = some (.int .i64 a0_2) ∧ w'.cell? ⟨gb419, 3, none⟩ = some (.int .i64 a0_3) ∧ w'.cell? ⟨gb419, 4, none⟩ = some (.int .i64 a0_4) ∧ w'.cell? ⟨gb419, 5, none⟩ = some (.int .i64 a0_5) ∧ w'.cell? ⟨gb419, 6, none⟩ = some (.bool a0_6) ∧ w'.cell? ⟨gb420, 0, none⟩ = some (.int .i64 a1_0) ∧ w'.cell? ⟨gb420, 1, none⟩ = some (.int .i64 a1_1) ∧ w'.cell? ⟨gb420, 2, none⟩ = some (.int .i64 a1_2)) (ds := []) #[false, false, false, false, false, false, false, false, false, false] (by kernel_rfl) rfl rfl ⟨(blk_cell BK419.out 0).trans rfl, (blk_cell BK419.out 1).trans rfl, (blk_cell BK419.out 2).trans rfl, (blk_cell BK419.out 3).trans rfl, (blk_cell BK419.out 4).trans rfl, (blk_cell BK419.out 5).trans rfl, (blk_cell BK419.out 6).trans rfl, (blk_cell BK420.out 0).trans rfl, (blk_cell BK420.out 1).trans rfl, (blk_cell BK420.out 2).trans rfl⟩ (fun hHeld => ?_); refine with_tabW swarflaw44_CycleParts.tab6 swarflaw44_CycleParts.bits6 (fun HT_ HW_ => ?_)
        generalize w90.drew = w94 at BK419 BK420 BK421 HB hHeld ⊢
        refine pure_ (i := 2) (N := some 26) (v := ?_) (a' := ?_) #[false, false, true, false, false, false, false, false, false, false] rfl rfl (any_of HT_.out (by kernel_rfl)) (fun _ _ _ h => h) (Or.inl ⟨by rfl, ?_⟩) ?_ ?_
        rotate_left
        · intro w'
          go_simp
          with_reducible rfl
        rotate_left
        · simp only [Act.put, List.setIfInBounds_toArray, List.set_cons_zero, List.set_cons_succ, i64_w, i32_w]
          rfl
        refine take_ (i := 0) (N := some 24) (v := ?_) (a' := ?_) #[true, false, true, false, false, false, false, false, false, false] rfl rfl (take_ofW HT_.out HW_.out (by kernel_rfl)) (fun _ _ _ h => h) (Or.inl ⟨by rfl, ?_⟩) hHeld ?_ ?_
        rotate_left
        · rintro w' ⟨s0, s1, s2, s3, s4, s5, s6, s7, s8, s9⟩
          go_simp
          with_reducible rfl
        rotate_left
        · simp only [Act.put, List.setIfInBounds_toArray, List.set_cons_zero, List.set_cons_succ, i64_w, i32_w]
          rfl
        refine take_ (i := 1) (N := some 25) (v := ?_) (a' := ?_) #[true, true, true, false, false, false, false, false, false, false] rfl rfl (take_ofW HT_.out HW_.out (by kernel_rfl)) (fun _ _ _ h => h) (Or.inl ⟨by rfl, ?_⟩) hHeld ?_ ?_
        rotate_left
        · rintro w' ⟨s0, s1, s2, s3, s4, s5, s6, s7, s8, s9⟩
          go_simp
          with_reducible rfl
        rotate_left
        · simp only [Act.put, List.setIfInBounds_toArray, List.set_cons_zero, List.set_cons_succ, i64_w, i32_w]
          rfl
        refine one_ (i := 3) (N := some 27) #[true, true, true, true, false, false, false, false, false, false] rfl rfl (one_of HT_.out (by kernel_rfl)) (by decide) (fun K hK => ?_)
        refine goes_ Try.func16 (by kernel_rfl) rfl #[.slice A2_0 l2_0.length c2_0] (by rfl) rfl rfl (by (try simp only [List.map_toArray, List.map_cons, List.map_nil]); first | done | rfl | (simp only [List.length_drop, List.length_take]; rfl)) ?_
        with_reducible refine (api_Grid2.calls _ _ l2_0 t423 _ ?side1 ?side2 A14.out).mono ?_
        (case side1 => repeat (first | exact (Kd.C_below HR2_0.out HB.out) | (with_reducible refine Kd.C_alloc ?_ _) | (with_reducible refine Kd.C_drewN ?_ _) | (with_reducible refine Kd.C_drew ?_)))
        (case side2 => exact HC2_0.out)
        rintro e w95 ⟨v424, rfl, ho0, hb⟩
        refine ⟨_, rfl, ?_⟩
        have n0_ := Aside0.mk (Kd.R_lower ho0 (below_size (by repeat (first | (with_reducible first | exact HB.out | apply below_alloc | apply pw_below_drewN | apply below_drew1 | refine below_set ?_ GE419.out | refine below_set ?_ GE420.out | refine below_set ?_ GE421.out) | exact HB.out))))
        have n1_ := Aside0.mk (blk_below (g := gb419) (o := .cells #[.int .i64 a0_0, .int .i64 a0_1, .int .i64 a0_2, .int .i64 a0_3, .int .i64 a0_4, .int .i64 a0_5, .bool a0_6] 23 (0, 0)) (by (with_reducible repeat (first | refine blk_drewN ?_ _ | refine blk_drew ?_ | refine blk_alloc ?_ _)); exact BK419.out) hb)
        have n2_ := Aside0.mk (blk_below (g := gb420) (o := .cells #[.int .i64 a1_0, .int .i64 a1_1, .int .i64 a1_2] 36 (0, 0)) (by (with_reducible repeat (first | refine blk_drewN ?_ _ | refine blk_drew ?_ | refine blk_alloc ?_ _)); exact BK420.out) hb)
        have n3_ := Aside0.mk (blk_below (g := gb421) (o := .cells #[.slice A2_0 l2_0.length c2_0, .int .u8 a2_1] 64 (0, 0)) (by (with_reducible repeat (first | refine blk_drewN ?_ _ | refine blk_drew ?_ | refine blk_alloc ?_ _)); exact BK421.out) hb)
        have n4_ := Aside0.mk (below_step (by repeat (first | (with_reducible first | exact HB.out | apply below_alloc | apply pw_below_drewN | apply below_drew1 | refine below_set ?_ GE419.out | refine below_set ?_ GE420.out | refine below_set ?_ GE421.out) | exact HB.out)) hb)
        clear BK419
        clear BK420
        clear BK421
        clear HB
        have HO425 := n0_
        have BK419 := n1_
        have BK420 := n2_
        have BK421 := n3_
        have HB := n4_
        clear n0_ n1_ n2_ n3_ n4_
        (try clear hb)
        (try clear hb2)
        (try clear hk)
        (try clear hi)
        (try clear ho0)
        obtain ⟨Ao96, co96, eo96⟩ := Kd.R_slice HO425.out
        (first | subst eo96 | (injection eo96 with f1_ f2_ f3_; have f4_ := f1_.symm; have f5_ := f3_.symm; clear f1_ f2_ f3_; subst f4_; subst f5_))
        refine hK.out _ _ ⟨(blk_cell BK419.out 0).trans rfl, (blk_cell BK419.out 1).trans rfl, (blk_cell BK419.out 2).trans rfl, (blk_cell BK419.out 3).trans rfl, (blk_cell BK419.out 4).trans rfl, (blk_cell BK419.out 5).trans rfl, (blk_cell BK419.out 6).trans rfl, (blk_cell BK420.out 0).trans rfl, (blk_cell BK420.out 1).trans rfl, (blk_cell BK420.out 2).trans rfl⟩ (fun hHeld => ?_)
        clear hK K
        refine norm_ (a' := ?_) ?_ ?_
        rotate_left
        · show Act.put _ (some 27) _ = _
          simp only [Act.put, List.setIfInBounds_toArray, List.set_cons_zero, List.set_cons_succ, i64_w, i32_w]
          rfl
        refine one_ (i := 4) (N := some 28) #[true, true, true, true, true, false, false, false, false, false] rfl rfl (one_of HT_.out (by kernel_rfl)) (by decide) (fun K hK => ?_)
        refine goes_ Try.func15 (by kernel_rfl) rfl #[.agg #[.int .i64 a0_0, .int .i64 a0_1, .int .i64 a0_2, .int .i64 a0_3, .int .i64 a0_4, .int .i64 a0_5, .bool a0_6], .agg #[.int .i64 a1_0, .int .i64 a1_1, .int .i64 a1_2], .slice Ao96 t423.length co96] (by rfl) rfl rfl (by (try simp only [List.map_toArray, List.map_cons, List.map_nil]); first | done | rfl | (simp only [List.length_drop, List.length_take]; rfl)) ?_
        with_reducible refine (cycle_Expand.calls k a0_0 a0_1 a0_2 a0_3 a0_4 a0_5 a0_6 a1_0 a1_1 a1_2 _ _ t423 t426 t429 _ ?side1 ?side2 A15.out).mono ?_
        (case side1 => repeat (first | exact (Kd.R_reads' HO425.out).2.2 | (with_reducible refine Kd.C_alloc ?_ _) | (with_reducible refine Kd.C_drewN ?_ _) | (with_reducible refine Kd.C_drew ?_)))
        (case side2 => exact (Kd.R_reads' HO425.out).2.1)
        rintro e w97 ⟨v427, rfl, ho0, hb⟩
        refine ⟨_, rfl, ?_⟩
        have n0_ := Aside0.mk (Kd.R_below (by (with_reducible repeat (first | apply Kd.R_alloc | apply Kd.R_drewN | apply Kd.R_drew)); exact HO425.out) hb)
        have n1_ := Aside0.mk (Kd.R_lower ho0 (below_size (by repeat (first | (with_reducible first | exact HB.out | apply below_alloc | apply pw_below_drewN | apply below_drew1 | refine below_set ?_ GE419.out | refine below_set ?_ GE420.out | refine below_set ?_ GE421.out) | exact HB.out))))
        have n2_ := Aside0.mk (blk_below (g := gb419) (o := .cells #[.int .i64 a0_0, .int .i64 a0_1, .int .i64 a0_2, .int .i64 a0_3, .int .i64 a0_4, .int .i64 a0_5, .bool a0_6] 23 (0, 0)) (by (with_reducible repeat (first | refine blk_drewN ?_ _ | refine blk_drew ?_ | refine blk_alloc ?_ _)); exact BK419.out) hb)
        have n3_ := Aside0.mk (blk_below (g := gb420) (o := .cells #[.int .i64 a1_0, .int .i64 a1_1, .int .i64 a1_2] 36 (0, 0)) (by (with_reducible repeat (first | refine blk_drewN ?_ _ | refine blk_drew ?_ | refine blk_alloc ?_ _)); exact BK420.out) hb)
        have n4_ := Aside0.mk (blk_below (g := gb421) (o := .cells #[.slice A2_0 l2_0.length c2_0, .int .u8 a2_1] 64 (0, 0)) (by (with_reducible repeat (first | refine blk_drewN ?_ _ | refine blk_drew ?_ | refine blk_alloc ?_ _)); exact BK421.out) hb)
        have n5_ := Aside0.mk (below_step (by repeat (first | (with_reducible first | exact HB.out | apply below_alloc | apply pw_below_drewN | apply below_drew1 | refine below_set ?_ GE419.out | refine below_set ?_ GE420.out | refine below_set ?_ GE421.out) | exact HB.out)) hb)
        clear HO425
        clear BK419
        clear BK420
        clear BK421
        clear HB
        have HO425 := n0_
        have HO428 := n1_
        have BK419 := n2_
        have BK420 := n3_
        have BK421 := n4_
        have HB := n5_
        clear n0_ n1_ n2_ n3_ n4_ n5_
        (try clear hb)
        (try clear hb2)
        (try clear hk)
        (try clear hi)
        (try clear ho0)
        refine hK.out _ _ ⟨(blk_cell BK419.out 0).trans rfl, (blk_cell BK419.out 1).trans rfl, (blk_cell BK419.out 2).trans rfl, (blk_cell BK419.out 3).trans rfl, (blk_cell BK419.out 4).trans rfl, (blk_cell BK419.out 5).trans rfl, (blk_cell BK419.out 6).trans rfl, (blk_cell BK420.out 0).trans rfl, (blk_cell BK420.out 1).trans rfl, (blk_cell BK420.out 2).trans rfl⟩ (fun hHeld => ?_)
        clear hK K
        refine norm_ (a' := ?_) ?_ ?_
        rotate_left
        · show Act.put _ (some 28) _ = _
          simp only [Act.put, List.setIfInBounds_toArray, List.set_cons_zero, List.set_cons_succ, i64_w, i32_w]
          rfl
        refine pure_ (i := 5) (N := some 23) (v := ?_) (a' := ?_) #[true, true, true, true, true, true, false, false, false, false] rfl rfl (any_of HT_.out (by kernel_rfl)) (fun _ _ _ h => h) (Or.inl ⟨by rfl, ?_⟩) ?_ ?_
        rotate_left
        · intro w'
          go_simp
          with_reducible rfl
        rotate_left
        · simp only [Act.put, List.setIfInBounds_toArray, List.set_cons_zero, List.set_cons_succ, i64_w, i32_w]
          rfl
        refine pure_ (i := 6) (N := some 29) (v := ?_) (a' := ?_) #[true, true, true, true, true, true, true, false, false, false] rfl rfl (any_of HT_.out (by kernel_rfl)) (fun _ _ _ h => h) (Or.inl ⟨by rfl, ?_⟩) ?_ ?_
        rotate_left
        · intro w'
          go_simp
          with_reducible rfl
        rotate_left
        · simp only [Act.put, List.setIfInBounds_toArray, List.set_cons_zero, List.set_cons_succ, i64_w, i32_w]
          rfl
        refine pure_ (i := 7) (N := some 30) (v := ?_) (a' := ?_) #[true, true, true, true, true, true, true, true, false, false] rfl rfl (any_of HT_.out (by kernel_rfl)) (fun _ _ _ h => h) (Or.inl ⟨by rfl, ?_⟩) ?_ ?_
        rotate_left
        · intro w'
          go_simp
          with_reducible rfl
        rotate_left
        · simp only [Act.put, List.setIfInBounds_toArray, List.set_cons_zero, List.set_cons_succ, i64_w, i32_w]
          rfl
        refine pure_ (i := 8) (N := some 8) (v := ?_) (a' := ?_) #[true, true, true, true, true, true, true, true, true, false] rfl rfl (any_of HT_.out (by kernel_rfl)) (fun _ _ _ h => h) (Or.inl ⟨by rfl, ?_⟩) ?_ ?_
        rotate_left
        · intro w'
          go_simp
          with_reducible rfl
        rotate_left
        · simp only [Act.put, List.setIfInBounds_toArray, List.set_cons_zero, List.set_cons_succ, i64_w, i32_w]
          rfl
        refine pure_ (i := 9) (N := some 9) (v := ?_) (a' := ?_) #[true, true, true, true, true, true, true, true, true, true] rfl rfl (any_of HT_.out (by kernel_rfl)) (fun _ _ _ h => h) (Or.inl ⟨by rfl, ?_⟩) ?_ ?_
        rotate_left
        · intro w'
          go_simp
          with_reducible rfl
        rotate_left
        · simp only [Act.put, List.setIfInBounds_toArray, List.set_cons_zero, List.set_cons_succ, i64_w, i32_w]
          rfl
        refine done_ (done_of HT_.out (by kernel_rfl)) ?_
        try go_wp2
        go_ret
        exact ⟨by first | rfl | (simp [errW_none, errW_some] <;> rfl) | (simp [*, errW_none, errW_some] <;> rfl), by repeat (first | (with_reducible first | exact HB.out | apply below_alloc | apply pw_below_drewN | apply below_drew1 | refine below_set ?_ GE419.out | refine below_set ?_ GE420.out | refine below_set ?_ GE421.out) | exact HB.out)⟩
  · replace c5 := Bool.eq_false_iff.mpr c5
    subst c5
    have H1 : (some false) = some r := by rw [if_neg (show ¬ (false = true) by decide)] at H; exact H
    clear H
    have H := H1
    clear H1
    obtain rfl := Option.some.inj H
    go_enter Try.func8, Try.ntmps8
    go_wp2_with (first | ((with_reducible refine gate_dst (N := 3) rfl ?_); (try (refine gate_guard (by rfl) ?_; dsimp only)); refine box_event ?hg (N := 3) ?hd (cs := #[.int .i64 a0_0, .int .i64 a0_1, .int .i64 a0_2, .int .i64 a0_3, .int .i64 a0_4, .int .i64 a0_5, .bool a0_6]) (t := 23) ?hr ?_; (case hd => rfl); (case hg => rfl); (case hr => first | (go_simp; done) | (go_simp; rfl)); intro gb419 hg w98 hbox hb; have n0_ := Aside0.mk (below_step (by repeat (first | (with_reducible first | exact HB.out | apply below_alloc | apply pw_below_drewN | apply below_drew1) | exact HB.out)) hb); have n1_ := Aside0.mk (hbox); have n2_ := Aside0.mk ((by rw [hg]; exact (below_size (by repeat (first | (with_reducible first | exact HB.out | apply below_alloc | apply pw_below_drewN | apply below_drew1) | exact HB.out))) : w.heap.size ≤ gb419)); have n3_ := Aside0.mk ((by rw [hg]; exact (below_size (by repeat (first | (with_reducible first | exact HB.out | apply below_alloc | apply pw_below_drewN | apply below_drew1) | exact HB.out))) : w.heap.size ≤ gb419)); clear HB; have HB := n0_; have BK419 := n1_; have GW419 := n2_; have GE419 := n3_; clear n0_ n1_ n2_ n3_; clear hb hbox hg) | ((with_reducible refine gate_dst (N := 4) rfl ?_); (try (refine gate_guard (by rfl) ?_; dsimp only)); refine box_event ?hg (N := 4) ?hd (cs := #[.int .i64 a1_0, .int .i64 a1_1, .int .i64 a1_2]) (t := 36) ?hr ?_; (case hd => rfl); (case hg => rfl); (case hr => first | (go_simp; done) | (go_simp; rfl)); intro gb420 hg w99 hbox hb; have n0_ := Aside0.mk (blk_below (g := gb419) (o := .cells #[.int .i64 a0_0, .int .i64 a0_1, .int .i64 a0_2, .int .i64 a0_3, .int .i64 a0_4, .int .i64 a0_5, .bool a0_6] 23 (0, 0)) (by (with_reducible repeat (first | refine blk_drewN ?_ _ | refine blk_drew ?_ | refine blk_alloc ?_ _)); exact BK419.out) hb); have n1_ := Aside0.mk (below_step (by repeat (first | (with_reducible first | exact HB.out | apply below_alloc | apply pw_below_drewN | apply below_drew1 | refine below_set ?_ GE419.out) | exact HB.out)) hb); have n2_ := Aside0.mk (hbox); have n3_ := Aside0.mk ((by rw [hg]; exact (below_size (by repeat (first | (with_reducible first | exact HB.out | apply below_alloc | apply pw_below_drewN | apply below_drew1 | refine below_set ?_ GE419.out) | exact HB.out))) : w.heap.size ≤ gb420)); have n4_ := Aside0.mk ((by rw [hg]; exact (below_size (by repeat (first | (with_reducible first | exact HB.out | apply below_alloc | apply pw_below_drewN | apply below_drew1 | refine below_set ?_ GE419.out) | exact HB.out))) : w.heap.size ≤ gb420)); have n5_ := Aside0.mk ((by rw [hg]; exact Nat.ne_of_lt (blk_lt (g := gb419) (o := .cells #[.int .i64 a0_0, .int .i64 a0_1, .int .i64 a0_2, .int .i64 a0_3, .int .i64 a0_4, .int .i64 a0_5, .bool a0_6] 23 (0, 0)) (by (with_reducible repeat (first | refine blk_drewN ?_ _ | refine blk_drew ?_ | refine blk_alloc ?_ _)); exact BK419.out)) : gb419 ≠ gb420)); have n6_ := Aside0.mk ((by rw [hg]; exact Nat.ne_of_gt (blk_lt (g := gb419) (o := .cells #[.int .i64 a0_0, .int .i64 a0_1, .int .i64 a0_2, .int .i64 a0_3, .int .i64 a0_4, .int .i64 a0_5, .bool a0_6] 23 (0, 0)) (by (with_reducible repeat (first | refine blk_drewN ?_ _ | refine blk_drew ?_ | refine blk_alloc ?_ _)); exact BK419.out)) : gb420 ≠ gb419)); clear BK419; clear HB; have BK419 := n0_; have HB := n1_; have BK420 := n2_; have GW420 := n3_; have GE420 := n4_; have NB419_420 := n5_; have NB420_419 := n6_; clear n0_ n1_ n2_ n3_ n4_ n5_ n6_; clear hb hbox hg) | ((with_reducible refine gate_dst (N := 5) rfl ?_); (try (refine gate_guard (by rfl) ?_; dsimp only)); refine box_event ?hg (N := 5) ?hd (cs := #[.slice A2_0 l2_0.length c2_0, .int .u8 a2_1]) (t := 64) ?hr ?_; (case hd => rfl); (case hg => rfl); (case hr => first | (go_simp; done) | (go_simp; rfl)); intro gb421 hg w100 hbox hb; have n0_ := Aside0.mk (blk_below (g := gb419) (o := .cells #[.int .i64 a0_0, .int .i64 a0_1, .int .i64 a0_2, .int .i64 a0_3, .int .i64 a0_4, .int .i64 a0_5, .bool a0_6] 23 (0, 0)) (by (with_reducible repeat (first | refine blk_drewN ?_ _ | refine blk_drew ?_ | refine blk_alloc ?_ _)); exact BK419.out) hb); have n1_ := Aside0.mk (blk_below (g := gb420) (o := .cells #[.int .i64 a1_0, .int .i64 a1_1, .int .i64 a1_2] 36 (0, 0)) (by (with_reducible repeat (first | refine blk_drewN ?_ _ | refine blk_drew ?_ | refine blk_alloc ?_ _)); exact BK420.out) hb); have n2_ := Aside0.mk (below_step (by repeat (first | (with_reducible first | exact HB.out | apply below_alloc | apply pw_below_drewN | apply below_drew1 | refine below_set ?_ GE419.out | refine below_set ?_ GE420.out) | exact HB.out)) hb); have n3_ := Aside0.mk (hbox); have n4_ := Aside0.mk ((by rw [hg]; exact (below_size (by repeat (first | (with_reducible first | exact HB.out | apply below_alloc | apply pw_below_drewN | apply below_drew1 | refine below_set ?_ GE419.out | refine below_set ?_ GE420.out) | exact HB.out))) : w.heap.size ≤ gb421)); have n5_ := Aside0.mk ((by rw [hg]; exact (below_size (by repeat (first | (with_reducible first | exact HB.out | apply below_alloc | apply pw_below_drewN | apply below_drew1 | refine below_set ?_ GE419.out | refine below_set ?_ GE420.out) | exact HB.out))) : w.heap.size ≤ gb421)); have n6_ := Aside0.mk ((by rw [hg]; exact Nat.ne_of_lt (blk_lt (g := gb419) (o := .cells #[.int .i64 a0_0, .int .i64 a0_1, .int .i64 a0_2, .int .i64 a0_3, .int .i64 a0_4, .int .i64 a0_5, .bool a0_6] 23 (0, 0)) (by (with_reducible repeat (first | refine blk_drewN ?_ _ | refine blk_drew ?_ | refine blk_alloc ?_ _)); exact BK419.out)) : gb419 ≠ gb421)); have n7_ := Aside0.mk ((by rw [hg]; exact Nat.ne_of_gt (blk_lt (g := gb419) (o := .cells #[.int .i64 a0_0, .int .i64 a0_1, .int .i64 a0_2, .int .i64 a0_3, .int .i64 a0_4, .int .i64 a0_5, .bool a0_6] 23 (0, 0)) (by (with_reducible repeat (first | refine blk_drewN ?_ _ | refine blk_drew ?_ | refine blk_alloc ?_ _)); exact BK419.out)) : gb421 ≠ gb419)); have n8_ := Aside0.mk ((by rw [hg]; exact Nat.ne_of_lt (blk_lt (g := gb420) (o := .cells #[.int .i64 a1_0, .int .i64 a1_1, .int .i64 a1_2] 36 (0, 0)) (by (with_reducible repeat (first | refine blk_drewN ?_ _ | refine blk_drew ?_ | refine blk_alloc ?_ _)); exact BK420.out)) : gb420 ≠ gb421)); have n9_ := Aside0.mk ((by rw [hg]; exact Nat.ne_of_gt (blk_lt (g := gb420) (o := .cells #[.int .i64 a1_0, .int .i64 a1_1, .int .i64 a1_2] 36 (0, 0)) (by (with_reducible repeat (first | refine blk_drewN ?_ _ | refine blk_drew ?_ | refine blk_alloc ?_ _)); exact BK420.out)) : gb421 ≠ gb420)); clear BK419; clear BK420; clear HB; have BK419 := n0_; have BK420 := n1_; have HB := n2_; have BK421 := n3_; have GW421 := n4_; have GE421 := n5_; have NB419_421 := n6_; have NB421_419 := n7_; have NB420_421 := n8_; have NB421_420 := n9_; clear n0_ n1_ n2_ n3_ n4_ n5_ n6_ n7_ n8_ n9_; clear hb hbox hg) | ((with_reducible refine gate_callee (f := 9) rfl ?_); refine goesL_ (some 16) rfl rfl Try.func9 (by kernel_rfl) rfl #[] rfl (by (try simp only [List.map_toArray, List.map_cons, List.map_nil]); first | done | rfl | (simp only [List.length_drop, List.length_take]; rfl)) ?_; (with_reducible refine (swarflaw44_awake.calls k  false _ A4.out).mono ?_); rintro e w101 ⟨rfl, hb⟩; refine ⟨_, rfl, ?_⟩; have n0_ := Aside0.mk (blk_below (g := gb419) (o := .cells #[.int .i64 a0_0, .int .i64 a0_1, .int .i64 a0_2, .int .i64 a0_3, .int .i64 a0_4, .int .i64 a0_5, .bool a0_6] 23 (0, 0)) (by (with_reducible repeat (first | refine blk_drewN ?_ _ | refine blk_drew ?_ | refine blk_alloc ?_ _)); exact BK419.out) hb); have n1_ := Aside0.mk (blk_below (g := gb420) (o := .cells #[.int .i64 a1_0, .int .i64 a1_1, .int .i64 a1_2] 36 (0, 0)) (by (with_reducible repeat (first | refine blk_drewN ?_ _ | refine blk_drew ?_ | refine blk_alloc ?_ _)); exact BK420.out) hb); have n2_ := Aside0.mk (blk_below (g := gb421) (o := .cells #[.slice A2_0 l2_0.length c2_0, .int .u8 a2_1] 64 (0, 0)) (by (with_reducible repeat (first | refine blk_drewN ?_ _ | refine blk_drew ?_ | refine blk_alloc ?_ _)); exact BK421.out) hb); have n3_ := Aside0.mk (below_step (by repeat (first | (with_reducible first | exact HB.out | apply below_alloc | apply pw_below_drewN | apply below_drew1 | refine below_set ?_ GE419.out | refine below_set ?_ GE420.out | refine below_set ?_ GE421.out) | exact HB.out)) hb); clear BK419; clear BK420; clear BK421; clear HB; have BK419 := n0_; have BK420 := n1_; have BK421 := n2_; have HB := n3_; clear n0_ n1_ n2_ n3_; (try clear hb); (try clear hb2); (try clear hk); (try clear hi)))
    go_ret
    exact ⟨by first | rfl | (simp [errW_none, errW_some] <;> rfl) | (simp [*, errW_none, errW_some] <;> rfl), by repeat (first | (with_reducible first | exact HB.out | apply below_alloc | apply pw_below_drewN | apply below_drew1 | refine below_set ?_ GE419.out | refine below_set ?_ GE420.out | refine below_set ?_ GE421.out) | exact HB.out)⟩

end Go.Proofs.Ytmaochcdjmnffaa.P
