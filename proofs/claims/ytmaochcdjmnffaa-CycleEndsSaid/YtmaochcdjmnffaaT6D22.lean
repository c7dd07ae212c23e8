-- PRINTED by print.py (a twelfth state) out of the translation. Not trusted: Lean checks it.
import Derived.Test.YtmaochcdjmnffaaT6Px0
import Derived.Test.YtmaochcdjmnffaaT6Px2
import Derived.Test.YtmaochcdjmnffaaT6Px16
import Derived.Test.YtmaochcdjmnffaaT6GClone
import Derived.Test.YtmaochcdjmnffaaT6GExpand
namespace Go.Proofs.Ytmaochcdjmnffaa.P
open Go.RowKit Go.Proofs.YtmaochcdjmnffaaW.PrintWords Go.Proofs.YtmaochcdjmnffaaW.PrintLast Go.Proofs.YtmaochcdjmnffaaW.PrintMore
attribute [local go_sem] max2_int min2_int max_two min_two max_three min_three max_four min_four   -- for this text's walks alone
set_option linter.unusedVariables false
set_option linter.unusedSimpArgs false

attribute [local go_sem high] eqA36
/-! ### swarflaw44_CycleEnds: function 4 -/
mutual
def swarflaw44_CycleEnds.j0 : Nat → List (S43) → Bool → Int → Int → Int → Int → Int → Int → Bool → Int → Int → Int → Option (Bool)
  | 0, _, _, _, _, _, _, _, _, _, _, _, _ => none
  | k + 1, x2, x23, x219000, x219001, x219002, x219003, x219004, x219005, x219006, x220000, x220001, x220002 => if x23 = true then (some true) else ((api_Grid2.f x2).bind fun t221 => ((cycle_Expand.f k x219000 x219001 x219002 x219003 x219004 x219005 x219006 x220000 x220001 x220002 t221).bind fun bt224 => (if bt224.2 = 0 then (swarflaw44_CycleEnds.l0 k x2 bt224.1 (bt224.1.length : Int) 0 x219000 x219001 x219002 x219003 x219004 x219005 x219006 x220000 x220001 x220002 x220000 x220001 x220002) else (some ((bt224.1.length : Int) == 0)))))
def swarflaw44_CycleEnds.l0 : Nat → List (S43) → List (S45) → Int → Int → Int → Int → Int → Int → Int → Int → Bool → Int → Int → Int → Int → Int → Int → Option (Bool)
  | 0, _, _, _, _, _, _, _, _, _, _, _, _, _, _, _, _, _ => none
  | k + 1, x2, x38, x39, x40, x219000, x219001, x219002, x219003, x219004, x219005, x219006, x220000, x220001, x220002, x229000, x229001, x229002 => if x40 < x39 then (if 0 ≤ x40 then (if x40 < (x38.length : Int) then (if (((rd_T45 x38 x40).f1.f0) == x229000 && (((rd_T45 x38 x40).f1.f1) == x229001 && (((rd_T45 x38 x40).f1.f2) == x229002))) = true then (some false) else (if ((rd_T45 x38 x40).f1.f2) < (mn x219002 x220002) then (some false) else (if ((rd_T45 x38 x40).f0) = 2 then (if ((rd_T45 x38 x40).f1.f0) = x229000 then (if ((rd_T45 x38 x40).f1.f1) = x229001 then (if ((rd_T45 x38 x40).f1.f2) ≥ x229002 then (some false) else (if ((rd_T45 x38 x40).f3) = x219004 then (swarflaw44_CycleEnds.l0 k x2 x38 x39 (wrap64 (x40 + 1)) x219000 x219001 x219002 x219003 x219004 x219005 x219006 x220000 x220001 x220002 ((rd_T45 x38 x40).f1.f0) ((rd_T45 x38 x40).f1.f1) ((rd_T45 x38 x40).f1.f2)) else (some false))) else (some false)) else (some false)) else (if ((rd_T45 x38 x40).f0) = 1 then (if ((rd_T45 x38 x40).f3) = 0 then (swarflaw44_CycleEnds.l0 k x2 x38 x39 (wrap64 (x40 + 1)) x219000 x219001 x219002 x219003 x219004 x219005 x219006 x220000 x220001 x220002 ((rd_T45 x38 x40).f1.f0) ((rd_T45 x38 x40).f1.f1) ((rd_T45 x38 x40).f1.f2)) else (some false)) else (some false))))) else (none)) else (none)) else (if x219006 = true then (if 0 ≤ (wrap64 ((x2.length : Int) - 1)) then (if (wrap64 ((x2.length : Int) - 1)) < (x2.length : Int) then (some (x229000 == ((rd_T43 x2 (wrap64 ((x2.length : Int) - 1))).f0) && (x229001 == ((rd_T43 x2 (wrap64 ((x2.length : Int) - 1))).f1) && (x229002 == x219005)))) else (none)) else (none)) else (if 0 ≤ (wrap64 ((x2.length : Int) - 1)) then (if (wrap64 ((x2.length : Int) - 1)) < (x2.length : Int) then (some (x229000 == ((rd_T43 x2 (wrap64 ((x2.length : Int) - 1))).f0) && (x229001 == ((rd_T43 x2 (wrap64 ((x2.length : Int) - 1))).f1) && (x229002 == x219001)))) else (none)) else (none)))
end
def swarflaw44_CycleEnds.f (k : Nat) (a0_0 : Int) (a0_1 : Int) (a0_2 : Int) (a0_3 : Int) (a0_4 : Int) (a0_5 : Int) (a0_6 : Bool) (a1_0 : Int) (a1_1 : Int) (a1_2 : Int) (l2 : List (S43)) : Option (Bool) := (swarflaw44_awake.f k).bind fun t220 => (if t220 = true then (if (l2.length : Int) = 0 then (swarflaw44_CycleEnds.j0 k l2 true a0_0 a0_1 a0_2 a0_3 a0_4 a0_5 a0_6 a1_0 a1_1 a1_2) else (swarflaw44_CycleEnds.j0 k l2 (decide ((l2.length : Int) > 20)) a0_0 a0_1 a0_2 a0_3 a0_4 a0_5 a0_6 a1_0 a1_1 a1_2)) else (some false))
theorem swarflaw44_CycleEnds.mono_l : ∀ k, (∀ y0 y1 y2 y3 y4 y5 y6 y7 y8 y9 y10 y11, LeO (swarflaw44_CycleEnds.j0 k y0 y1 y2 y3 y4 y5 y6 y7 y8 y9 y10 y11) (swarflaw44_CycleEnds.j0 (k + 1) y0 y1 y2 y3 y4 y5 y6 y7 y8 y9 y10 y11)) ∧ (∀ y0 y1 y2 y3 y4 y5 y6 y7 y8 y9 y10 y11 y12 y13 y14 y15 y16, LeO (swarflaw44_CycleEnds.l0 k y0 y1 y2 y3 y4 y5 y6 y7 y8 y9 y10 y11 y12 y13 y14 y15 y16) (swarflaw44_CycleEnds.l0 (k + 1) y0 y1 y2 y3 y4 y5 y6 y7 y8 y9 y10 y11 y12 y13 y14 y15 y16))
  | 0 => ⟨fun _ _ _ _ _ _ _ _ _ _ _ _ r h => by simp [swarflaw44_CycleEnds.j0] at h, fun _ _ _ _ _ _ _ _ _ _ _ _ _ _ _ _ _ r h => by simp [swarflaw44_CycleEnds.l0] at h⟩
  | k + 1 => by
    obtain ⟨ih0, ih1⟩ := swarflaw44_CycleEnds.mono_l k
    refine ⟨?_, ?_⟩
    · intro y0 y1 y2 y3 y4 y5 y6 y7 y8 y9 y10 y11
      unfold swarflaw44_CycleEnds.j0
      repeat' first
      | (with_reducible exact ih0 _ _ _ _ _ _ _ _ _ _ _ _)
      | (with_reducible exact ih1 _ _ _ _ _ _ _ _ _ _ _ _ _ _ _ _ _)
      | (with_reducible exact cycle_Expand.mono _ _ _ _ _ _ _ _ _ _ _ _)
      | (with_reducible exact swarflaw44_awake.mono _)
      | (with_reducible exact LeO.refl _)
      | (with_reducible exact LeO.none _)
      | (with_reducible refine LeO.ite ?_ ?_)
      | (with_reducible refine LeO.bind ?_ (fun _ => ?_))
      | exact ih0 _ _ _ _ _ _ _ _ _ _ _ _
      | exact ih1 _ _ _ _ _ _ _ _ _ _ _ _ _ _ _ _ _
      | exact cycle_Expand.mono _ _ _ _ _ _ _ _ _ _ _ _
      | exact swarflaw44_awake.mono _
      | exact LeO.none _
      | refine LeO.ite ?_ ?_
      | refine LeO.bind ?_ (fun _ => ?_)
    · intro y0 y1 y2 y3 y4 y5 y6 y7 y8 y9 y10 y11 y12 y13 y14 y15 y16
      unfold swarflaw44_CycleEnds.l0
      repeat' first
      | (with_reducible exact ih0 _ _ _ _ _ _ _ _ _ _ _ _)
      | (with_reducible exact ih1 _ _ _ _ _ _ _ _ _ _ _ _ _ _ _ _ _)
      | (with_reducible exact cycle_Expand.mono _ _ _ _ _ _ _ _ _ _ _ _)
      | (with_reducible exact swarflaw44_awake.mono _)
      | (with_reducible exact LeO.refl _)
      | (with_reducible exact LeO.none _)
      | (with_reducible refine LeO.ite ?_ ?_)
      | (with_reducible refine LeO.bind ?_ (fun _ => ?_))
      | exact ih0 _ _ _ _ _ _ _ _ _ _ _ _
      | exact ih1 _ _ _ _ _ _ _ _ _ _ _ _ _ _ _ _ _
      | exact cycle_Expand.mono _ _ _ _ _ _ _ _ _ _ _ _
      | exact swarflaw44_awake.mono _
      | exact LeO.none _
      | refine LeO.ite ?_ ?_
      | refine LeO.bind ?_ (fun _ => ?_)
theorem swarflaw44_CycleEnds.mono : ∀ a0 a1 a2 a3 a4 a5 a6 a7 a8 a9 a10 k, LeO (swarflaw44_CycleEnds.f k a0 a1 a2 a3 a4 a5 a6 a7 a8 a9 a10) (swarflaw44_CycleEnds.f (k + 1) a0 a1 a2 a3 a4 a5 a6 a7 a8 a9 a10) := by
  intro a0 a1 a2 a3 a4 a5 a6 a7 a8 a9 a10 k
  obtain ⟨ih0, ih1⟩ := swarflaw44_CycleEnds.mono_l k
  unfold swarflaw44_CycleEnds.f
  repeat' first
      | (with_reducible exact ih0 _ _ _ _ _ _ _ _ _ _ _ _)
      | (with_reducible exact ih1 _ _ _ _ _ _ _ _ _ _ _ _ _ _ _ _ _)
      | (with_reducible exact cycle_Expand.mono _ _ _ _ _ _ _ _ _ _ _ _)
      | (with_reducible exact swarflaw44_awake.mono _)
      | (with_reducible exact LeO.refl _)
      | (with_reducible exact LeO.none _)
      | (with_reducible refine LeO.ite ?_ ?_)
      | (with_reducible refine LeO.bind ?_ (fun _ => ?_))
      | exact ih0 _ _ _ _ _ _ _ _ _ _ _ _
      | exact ih1 _ _ _ _ _ _ _ _ _ _ _ _ _ _ _ _ _
      | exact cycle_Expand.mono _ _ _ _ _ _ _ _ _ _ _ _
      | exact swarflaw44_awake.mono _
      | exact LeO.none _
      | refine LeO.ite ?_ ?_
      | refine LeO.bind ?_ (fun _ => ?_)
end Go.Proofs.Ytmaochcdjmnffaa.P
