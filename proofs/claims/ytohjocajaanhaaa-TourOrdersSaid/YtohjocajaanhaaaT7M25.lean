import Derived.Test.YtohjocajaanhaaaT7M21
import Derived.Test.YtohjocajaanhaaaT7M22
import Derived.Test.YtohjocajaanhaaaT7M24
-- PRINTED by print.py (a twelfth state) out of the translation. Not trusted: Lean checks it.

namespace Go.Proofs.Ytohjocajaanhaaa.P
open Go.RowKit Go.Proofs.YtohjocajaanhaaaW.PrintWords Go.Proofs.YtohjocajaanhaaaW.PrintLast Go.Proofs.YtohjocajaanhaaaW.PrintMore
attribute [local go_sem] max2_int min2_int max_two min_two max_three min_three max_four min_four   -- for this text's walks alone
set_option linter.unusedVariables false
set_option linter.unusedSimpArgs false

/-! ### swarflaw38_awake: function 10 -/
def swarflaw38_awake.f (k : Nat)  : Option (Bool) := (some (([(⟨0, 0⟩ : S31), (⟨10, 0⟩ : S31), (⟨1, 0⟩ : S31), (⟨5, 5⟩ : S31)] : List (S31)) : List (S31))).bind fun y198 => ((tour_Length.f k y198 (([0, 2, 3, 1] : List Int))).bind fun bt204 => ((some (([(⟨0, 0⟩ : S31), (⟨4, 0⟩ : S31), (⟨(-4), 0⟩ : S31)] : List (S31)) : List (S31))).bind fun y206 => ((tour_Exact.f k y206).bind fun bt209 => ((tour_Bound.f k y206 (([4, 0, 0] : List Int))).bind fun bt217 => ((tour_Nearest.f k y198).bind fun t219 => ((swarfref38_Same.f k t219 (([0, 2, 3, 1] : List Int))).bind fun t225 => (if t225 = true then (if bt204.2 = 0 then (if bt204.1 = 11 then ((tour_Tree.f k y198).bind fun t226 => (if t226 = 11 then ((tour_Tree.f k y206).bind fun t227 => (if t227 = 8 then (if bt209.2.2 = 0 then (if bt209.2.1 = 12 then ((swarfref38_Same.f k bt209.1 (([0, 1, 2] : List Int))).bind fun t231 => (if t231 = true then (if bt217.2 = 0 then (some (bt217.1 == 12)) else (some false)) else (some false))) else (some false)) else (some false)) else (some false))) else (some false))) else (some false)) else (some false)) else (some false))))))))
theorem swarflaw38_awake.mono : ∀ k, LeO (swarflaw38_awake.f k ) (swarflaw38_awake.f (k + 1) ) := by
 intro  k
 unfold swarflaw38_awake.f
 repeat' first
   | (with_reducible exact swarfref38_Same.mono _ _ _)
   | (with_reducible exact tour_Bound.mono _ _ _)
   | (with_reducible exact tour_Exact.mono _ _)
   | (with_reducible exact tour_Length.mono _ _ _)
   | (with_reducible exact tour_Nearest.mono _ _)
   | (with_reducible exact tour_Tree.mono _ _)
   | (with_reducible exact LeO.refl _)
   | (with_reducible exact LeO.none _)
   | (with_reducible refine LeO.ite ?_ ?_)
   | (with_reducible refine LeO.bind ?_ (fun _ => ?_))
   | exact swarfref38_Same.mono _ _ _
   | exact tour_Bound.mono _ _ _
   | exact tour_Exact.mono _ _
   | exact tour_Length.mono _ _ _
   | exact tour_Nearest.mono _ _
   | exact tour_Tree.mono _ _
   | exact LeO.none _
   | refine LeO.ite ?_ ?_
   | refine LeO.bind ?_ (fun _ => ?_)
theorem swarflaw38_awake.small : swarflaw38_awake.f 60 = some true := by decide +kernel
set_option maxHeartbeats 8000000 in
set_option maxRecDepth 100000 in
theorem swarflaw38_awake.calls (k : Nat)  (r : Bool) (w : World) (h : swarflaw38_awake.f k  = some r) :
  Calls Try.prog 10 #[] w fun e w' => e = .returned (.bool r) ∧ Below w.heap.size w w' := by
 have HRT := Aside0.mk (show r = true from by
  have e1 := at_rounds (fun k => swarflaw38_awake.mono k) (Nat.le_max_right k 60) swarflaw38_awake.small
  have e2 := at_rounds (fun k => swarflaw38_awake.mono k) (Nat.le_max_left k 60) h
  rw [e2] at e1
  exact Option.some.inj e1)
 have hu31 := Try.underlying31
 have HB := Aside0.mk (Below.refl w.heap.size w)
 have H : ((some (([(⟨0, 0⟩ : S31), (⟨10, 0⟩ : S31), (⟨1, 0⟩ : S31), (⟨5, 5⟩ : S31)] : List (S31)) : List (S31))).bind fun y198 => ((tour_Length.f k y198 (([0, 2, 3, 1] : List Int))).bind fun bt204 => ((some (([(⟨0, 0⟩ : S31), (⟨4, 0⟩ : S31), (⟨(-4), 0⟩ : S31)] : List (S31)) : List (S31))).bind fun y206 => ((tour_Exact.f k y206).bind fun bt209 => ((tour_Bound.f k y206 (([4, 0, 0] : List Int))).bind fun bt217 => ((tour_Nearest.f k y198).bind fun t219 => ((swarfref38_Same.f k t219 (([0, 2, 3, 1] : List Int))).bind fun t225 => (if t225 = true then (if bt204.2 = 0 then (if bt204.1 = 11 then ((tour_Tree.f k y198).bind fun t226 => (if t226 = 11 then ((tour_Tree.f k y206).bind fun t227 => (if t227 = 8 then (if bt209.2.2 = 0 then (if bt209.2.1 = 12 then ((swarfref38_Same.f k bt209.1 (([0, 1, 2] : List Int))).bind fun t231 => (if t231 = true then (if bt217.2 = 0 then (some (bt217.1 == 12)) else (some false)) else (some false))) else (some false)) else (some false)) else (some false))) else (some false))) else (some false)) else (some false)) else (some false))))))))) = some r := h
 clear h
 obtain ⟨y198, hy198⟩ : ∃ y_ : List (S31), y_ = (([(⟨0, 0⟩ : S31), (⟨10, 0⟩ : S31), (⟨1, 0⟩ : S31), (⟨5, 5⟩ : S31)] : List (S31))) := ⟨_, rfl⟩
 replace H : ((tour_Length.f k y198 (([0, 2, 3, 1] : List Int))).bind fun bt204 => ((some (([(⟨0, 0⟩ : S31), (⟨4, 0⟩ : S31), (⟨(-4), 0⟩ : S31)] : List (S31)) : List (S31))).bind fun y206 => ((tour_Exact.f k y206).bind fun bt209 => ((tour_Bound.f k y206 (([4, 0, 0] : List Int))).bind fun bt217 => ((tour_Nearest.f k y198).bind fun t219 => ((swarfref38_Same.f k t219 (([0, 2, 3, 1] : List Int))).bind fun t225 => (if t225 = true then (if bt204.2 = 0 then (if bt204.1 = 11 then ((tour_Tree.f k y198).bind fun t226 => (if t226 = 11 then ((tour_Tree.f k y206).bind fun t227 => (if t227 = 8 then (if bt209.2.2 = 0 then (if bt209.2.1 = 12 then ((swarfref38_Same.f k bt209.1 (([0, 1, 2] : List Int))).bind fun t231 => (if t231 = true then (if bt217.2 = 0 then (some (bt217.1 == 12)) else (some false)) else (some false))) else (some false)) else (some false)) else (some false))) else (some false))) else (some false)) else (some false)) else (some false)))))))) = some r := by first | (rw [hy198]; with_reducible exact H) | (have H2_ := (Option.bind_some _ _).symm.trans H; rw [hy198]; with_reducible exact H2_) | (have H2_ := (Option.bind_some _ _).symm.trans H; with_reducible exact H2_) | with_reducible exact H | (rw [hy198]; exact H) | exact H
 have Ny198 := Aside0.mk hy198
 clear hy198
 obtain ⟨y201, hy201⟩ : ∃ y_ : List Int, y_ = (([0, 2, 3, 1] : List Int)) := ⟨_, rfl⟩
 replace H : ((tour_Length.f k y198 y201).bind fun bt204 => ((some (([(⟨0, 0⟩ : S31), (⟨4, 0⟩ : S31), (⟨(-4), 0⟩ : S31)] : List (S31)) : List (S31))).bind fun y206 => ((tour_Exact.f k y206).bind fun bt209 => ((tour_Bound.f k y206 (([4, 0, 0] : List Int))).bind fun bt217 => ((tour_Nearest.f k y198).bind fun t219 => ((swarfref38_Same.f k t219 (([0, 2, 3, 1] : List Int))).bind fun t225 => (if t225 = true then (if bt204.2 = 0 then (if bt204.1 = 11 then ((tour_Tree.f k y198).bind fun t226 => (if t226 = 11 then ((tour_Tree.f k y206).bind fun t227 => (if t227 = 8 then (if bt209.2.2 = 0 then (if bt209.2.1 = 12 then ((swarfref38_Same.f k bt209.1 (([0, 1, 2] : List Int))).bind fun t231 => (if t231 = true then (if bt217.2 = 0 then (some (bt217.1 == 12)) else (some false)) else (some false))) else (some false)) else (some false)) else (some false))) else (some false))) else (some false)) else (some false)) else (some false)))))))) = some r := by first | (rw [hy201]; with_reducible exact H) | (have H2_ := (Option.bind_some _ _).symm.trans H; rw [hy201]; with_reducible exact H2_) | (have H2_ := (Option.bind_some _ _).symm.trans H; with_reducible exact H2_) | with_reducible exact H | (rw [hy201]; exact H) | exact H
 have Ny201 := Aside0.mk hy201
 clear hy201
 replace H := Option.bind_eq_some_iff.mp H
 obtain ⟨⟨t204, t205⟩, A10, H⟩ := H
 replace H : ((some (([(⟨0, 0⟩ : S31), (⟨4, 0⟩ : S31), (⟨(-4), 0⟩ : S31)] : List (S31)) : List (S31))).bind fun y206 => ((tour_Exact.f k y206).bind fun bt209 => ((tour_Bound.f k y206 (([4, 0, 0] : List Int))).bind fun bt217 => ((tour_Nearest.f k y198).bind fun t219 => ((swarfref38_Same.f k t219 (([0, 2, 3, 1] : List Int))).bind fun t225 => (if t225 = true then (if t205 = 0 then (if t204 = 11 then ((tour_Tree.f k y198).bind fun t226 => (if t226 = 11 then ((tour_Tree.f k y206).bind fun t227 => (if t227 = 8 then (if bt209.2.2 = 0 then (if bt209.2.1 = 12 then ((swarfref38_Same.f k bt209.1 (([0, 1, 2] : List Int))).bind fun t231 => (if t231 = true then (if bt217.2 = 0 then (some (bt217.1 == 12)) else (some false)) else (some false))) else (some false)) else (some false)) else (some false))) else (some false))) else (some false)) else (some false)) else (some false))))))) = some r := H
 have A1 := Aside0.mk A10
 clear A10
 obtain ⟨y206, hy206⟩ : ∃ y_ : List (S31), y_ = (([(⟨0, 0⟩ : S31), (⟨4, 0⟩ : S31), (⟨(-4), 0⟩ : S31)] : List (S31))) := ⟨_, rfl⟩
 replace H : ((tour_Exact.f k y206).bind fun bt209 => ((tour_Bound.f k y206 (([4, 0, 0] : List Int))).bind fun bt217 => ((tour_Nearest.f k y198).bind fun t219 => ((swarfref38_Same.f k t219 (([0, 2, 3, 1] : List Int))).bind fun t225 => (if t225 = true then (if t205 = 0 then (if t204 = 11 then ((tour_Tree.f k y198).bind fun t226 => (if t226 = 11 then ((tour_Tree.f k y206).bind fun t227 => (if t227 = 8 then (if bt209.2.2 = 0 then (if bt209.2.1 = 12 then ((swarfref38_Same.f k bt209.1 (([0, 1, 2] : List Int))).bind fun t231 => (if t231 = true then (if bt217.2 = 0 then (some (bt217.1 == 12)) else (some false)) else (some false))) else (some false)) else (some false)) else (some false))) else (some false))) else (some false)) else (some false)) else (some false)))))) = some r := by first | (rw [hy206]; with_reducible exact H) | (have H2_ := (Option.bind_some _ _).symm.trans H; rw [hy206]; with_reducible exact H2_) | (have H2_ := (Option.bind_some _ _).symm.trans H; with_reducible exact H2_) | with_reducible exact H | (rw [hy206]; exact H) | exact H
 have Ny206 := Aside0.mk hy206
 clear hy206
 replace H := Option.bind_eq_some_iff.mp H
 obtain ⟨⟨t209, t210, t211⟩, A20, H⟩ := H
 replace H : ((tour_Bound.f k y206 (([4, 0, 0] : List Int))).bind fun bt217 => ((tour_Nearest.f k y198).bind fun t219 => ((swarfref38_Same.f k t219 (([0, 2, 3, 1] : List Int))).bind fun t225 => (if t225 = true then (if t205 = 0 then (if t204 = 11 then ((tour_Tree.f k y198).bind fun t226 => (if t226 = 11 then ((tour_Tree.f k y206).bind fun t227 => (if t227 = 8 then (if t211 = 0 then (if t210 = 12 then ((swarfref38_Same.f k t209 (([0, 1, 2] : List Int))).bind fun t231 => (if t231 = true then (if bt217.2 = 0 then (some (bt217.1 == 12)) else (some false)) else (some false))) else (some false)) else (some false)) else (some false))) else (some false))) else (some false)) else (some false)) else (some false))))) = some r := H
 have A2 := Aside0.mk A20
 clear A20
 obtain ⟨y214, hy214⟩ : ∃ y_ : List Int, y_ = (([4, 0, 0] : List Int)) := ⟨_, rfl⟩
 replace H : ((tour_Bound.f k y206 y214).bind fun bt217 => ((tour_Nearest.f k y198).bind fun t219 => ((swarfref38_Same.f k t219 (([0, 2, 3, 1] : List Int))).bind fun t225 => (if t225 = true then (if t205 = 0 then (if t204 = 11 then ((tour_Tree.f k y198).bind fun t226 => (if t226 = 11 then ((tour_Tree.f k y206).bind fun t227 => (if t227 = 8 then (if t211 = 0 then (if t210 = 12 then ((swarfref38_Same.f k t209 (([0, 1, 2] : List Int))).bind fun t231 => (if t231 = true then (if bt217.2 = 0 then (some (bt217.1 == 12)) else (some false)) else (some false))) else (some false)) else (some false)) else (some false))) else (some false))) else (some false)) else (some false)) else (some false))))) = some r := by first | (rw [hy214]; with_reducible exact H) | (have H2_ := (Option.bind_some _ _).symm.trans H; rw [hy214]; with_reducible exact H2_) | (have H2_ := (Option.bind_some _ _).symm.trans H; with_reducible exact H2_) | with_reducible exact H | (rw [hy214]; exact H) | exact H
 have Ny214 := Aside0.mk hy214
 clear hy214
 replace H := Option.bind_eq_some_iff.mp H
 obtain ⟨⟨t217, t218⟩, A30, H⟩ := H
 replace H : ((tour_Nearest.f k y198).bind fun t219 => ((swarfref38_Same.f k t219 (([0, 2, 3, 1] : List Int))).bind fun t225 => (if t225 = true then (if t205 = 0 then (if t204 = 11 then ((tour_Tree.f k y198).bind fun t226 => (if t226 = 11 then ((tour_Tree.f k y206).bind fun t227 => (if t227 = 8 then (if t211 = 0 then (if t210 = 12 then ((swarfref38_Same.f k t209 (([0, 1, 2] : List Int))).bind fun t231 => (if t231 = true then (if t218 = 0 then (some (t217 == 12)) else (some false)) else (some false))) else (some false)) else (some false)) else (some false))) else (some false))) else (some false)) else (some false)) else (some false)))) = some r := H
 have A3 := Aside0.mk A30
 clear A30
 replace H := Option.bind_eq_some_iff.mp H
 obtain ⟨t219, A40, H⟩ := H
 replace H : ((swarfref38_Same.f k t219 (([0, 2, 3, 1] : List Int))).bind fun t225 => (if t225 = true then (if t205 = 0 then (if t204 = 11 then ((tour_Tree.f k y198).bind fun t226 => (if t226 = 11 then ((tour_Tree.f k y206).bind fun t227 => (if t227 = 8 then (if t211 = 0 then (if t210 = 12 then ((swarfref38_Same.f k t209 (([0, 1, 2] : List Int))).bind fun t231 => (if t231 = true then (if t218 = 0 then (some (t217 == 12)) else (some false)) else (some false))) else (some false)) else (some false)) else (some false))) else (some false))) else (some false)) else (some false)) else (some false))) = some r := H
 have A4 := Aside0.mk A40
 clear A40
 obtain ⟨y222, hy222⟩ : ∃ y_ : List Int, y_ = (([0, 2, 3, 1] : List Int)) := ⟨_, rfl⟩
 replace H : ((swarfref38_Same.f k t219 y222).bind fun t225 => (if t225 = true then (if t205 = 0 then (if t204 = 11 then ((tour_Tree.f k y198).bind fun t226 => (if t226 = 11 then ((tour_Tree.f k y206).bind fun t227 => (if t227 = 8 then (if t211 = 0 then (if t210 = 12 then ((swarfref38_Same.f k t209 (([0, 1, 2] : List Int))).bind fun t231 => (if t231 = true then (if t218 = 0 then (some (t217 == 12)) else (some false)) else (some false))) else (some false)) else (some false)) else (some false))) else (some false))) else (some false)) else (some false)) else (some false))) = some r := by first | (rw [hy222]; with_reducible exact H) | (have H2_ := (Option.bind_some _ _).symm.trans H; rw [hy222]; with_reducible exact H2_) | (have H2_ := (Option.bind_some _ _).symm.trans H; with_reducible exact H2_) | with_reducible exact H | (rw [hy222]; exact H) | exact H
 have Ny222 := Aside0.mk hy222
 clear hy222
 replace H := Option.bind_eq_some_iff.mp H
 obtain ⟨t225, A50, H⟩ := H
 replace H : (if t225 = true then (if t205 = 0 then (if t204 = 11 then ((tour_Tree.f k y198).bind fun t226 => (if t226 = 11 then ((tour_Tree.f k y206).bind fun t227 => (if t227 = 8 then (if t211 = 0 then (if t210 = 12 then ((swarfref38_Same.f k t209 (([0, 1, 2] : List Int))).bind fun t231 => (if t231 = true then (if t218 = 0 then (some (t217 == 12)) else (some false)) else (some false))) else (some false)) else (some false)) else (some false))) else (some false))) else (some false)) else (some false)) else (some false)) = some r := H
 have A5 := Aside0.mk A50
 clear A50
 by_cases c6 : t225 = true
 ·subst c6
  have H1 : (if t205 = 0 then (if t204 = 11 then ((tour_Tree.f k y198).bind fun t226 => (if t226 = 11 then ((tour_Tree.f k y206).bind fun t227 => (if t227 = 8 then (if t211 = 0 then (if t210 = 12 then ((swarfref38_Same.f k t209 (([0, 1, 2] : List Int))).bind fun t231 => (if t231 = true then (if t218 = 0 then (some (t217 == 12)) else (some false)) else (some false))) else (some false)) else (some false)) else (some false))) else (some false))) else (some false)) else (some false)) = some r := by rw [if_pos rfl] at H; exact H
  clear H; have H := H1; clear H1
  by_cases c7 : t205 = 0
  ·rw [if_pos c7] at H
   have c7b0 : (t205 == 0) = true := beq_iff_eq.mpr c7
   have c7b1 : (t205 != 0) = false := bne_eq_false_iff_eq.mpr c7
   clear c7
   by_cases c8 : t204 = 11
   ·rw [if_pos c8] at H
    have c8b0 : (t204 == 11) = true := beq_iff_eq.mpr c8
    have c8b1 : (t204 != 11) = false := bne_eq_false_iff_eq.mpr c8
    clear c8; replace H := Option.bind_eq_some_iff.mp H
    obtain ⟨t226, A90, H⟩ := H
    replace H : (if t226 = 11 then ((tour_Tree.f k y206).bind fun t227 => (if t227 = 8 then (if t211 = 0 then (if t210 = 12 then ((swarfref38_Same.f k t209 (([0, 1, 2] : List Int))).bind fun t231 => (if t231 = true then (if t218 = 0 then (some (t217 == 12)) else (some false)) else (some false))) else (some false)) else (some false)) else (some false))) else (some false)) = some r := H
    have A9 := Aside0.mk A90; clear A90
    by_cases c10 : t226 = 11
    ·rw [if_pos c10] at H
     have c10b0 : (t226 == 11) = true := beq_iff_eq.mpr c10
     have c10b1 : (t226 != 11) = false := bne_eq_false_iff_eq.mpr c10
     clear c10; replace H := Option.bind_eq_some_iff.mp H
     obtain ⟨t227, A110, H⟩ := H
     replace H : (if t227 = 8 then (if t211 = 0 then (if t210 = 12 then ((swarfref38_Same.f k t209 (([0, 1, 2] : List Int))).bind fun t231 => (if t231 = true then (if t218 = 0 then (some (t217 == 12)) else (some false)) else (some false))) else (some false)) else (some false)) else (some false)) = some r := H
     have A11 := Aside0.mk A110; clear A110
     by_cases c12 : t227 = 8
     ·rw [if_pos c12] at H
      have c12b0 : (t227 == 8) = true := beq_iff_eq.mpr c12
      have c12b1 : (t227 != 8) = false := bne_eq_false_iff_eq.mpr c12
      clear c12
      by_cases c13 : t211 = 0
      ·rw [if_pos c13] at H
       have c13b0 : (t211 == 0) = true := beq_iff_eq.mpr c13
       have c13b1 : (t211 != 0) = false := bne_eq_false_iff_eq.mpr c13
       clear c13
       by_cases c14 : t210 = 12
       ·rw [if_pos c14] at H
        have c14b0 : (t210 == 12) = true := beq_iff_eq.mpr c14
        have c14b1 : (t210 != 12) = false := bne_eq_false_iff_eq.mpr c14
        clear c14
        obtain ⟨y228, hy228⟩ : ∃ y_ : List Int, y_ = (([0, 1, 2] : List Int)) := ⟨_, rfl⟩
        replace H : ((swarfref38_Same.f k t209 y228).bind fun t231 => (if t231 = true then (if t218 = 0 then (some (t217 == 12)) else (some false)) else (some false))) = some r := by first | (rw [hy228]; with_reducible exact H) | (have H2_ := (Option.bind_some _ _).symm.trans H; rw [hy228]; with_reducible exact H2_) | (have H2_ := (Option.bind_some _ _).symm.trans H; with_reducible exact H2_) | with_reducible exact H | (rw [hy228]; exact H) | exact H
        have Ny228 := Aside0.mk hy228; clear hy228; replace H := Option.bind_eq_some_iff.mp H
        obtain ⟨t231, A150, H⟩ := H
        replace H : (if t231 = true then (if t218 = 0 then (some (t217 == 12)) else (some false)) else (some false)) = some r := H
        have A15 := Aside0.mk A150; clear A150
        by_cases c16 : t231 = true
        ·subst c16
         have H1 : (if t218 = 0 then (some (t217 == 12)) else (some false)) = some r := by rw [if_pos rfl] at H; exact H
         clear H; have H := H1; clear H1
         by_cases c17 : t218 = 0
         ·rw [if_pos c17] at H
          have c17b0 : (t218 == 0) = true := beq_iff_eq.mpr c17
          have c17b1 : (t218 != 0) = false := bne_eq_false_iff_eq.mpr c17
          clear c17; obtain rfl := Option.some.inj H
          go_enter Try.func10, Try.ntmps10
          go_wp2_with (first | ((with_reducible refine gate_dst (N := 14) rfl ?_); (try (refine gate_guard (by rfl) ?_; dsimp only)); refine Kd.R_lit k31 _ 31 ?hg (N := 14) ?hd (xs := ([(⟨0, 0⟩ : S31), (⟨10, 0⟩ : S31), (⟨1, 0⟩ : S31), (⟨5, 5⟩ : S31)] : List (S31))) (inner := [.int .i64 0, .int .i64 0, .int .i64 10, .int .i64 0, .int .i64 1, .int .i64 0, .int .i64 5, .int .i64 5]) (ok := fun _ => True) (okp := fun _ => True) ?hr ?hp (fun _ hk => hk) trivial (Below.refl _ _) (Nat.le_refl _) (by simp) ?_; (case hd => rfl); (case hg => rfl); (case hr => first | (go_simp; done) | (go_simp; rfl)); (case hp => exact (Reps.c2 (show Kd.M k31 _ _ _ (⟨0, 0⟩ : S31) [.int .i64 0, .int .i64 0] from (k31_mkM _ _ _ (⟨0, 0⟩ : S31) )) (Reps.c2 (show Kd.M k31 _ _ _ (⟨10, 0⟩ : S31) [.int .i64 10, .int .i64 0] from (k31_mkM _ _ _ (⟨10, 0⟩ : S31) )) (Reps.c2 (show Kd.M k31 _ _ _ (⟨1, 0⟩ : S31) [.int .i64 1, .int .i64 0] from (k31_mkM _ _ _ (⟨1, 0⟩ : S31) )) (Reps.c2 (show Kd.M k31 _ _ _ (⟨5, 5⟩ : S31) [.int .i64 5, .int .i64 5] from (k31_mkM _ _ _ (⟨5, 5⟩ : S31) )) (Reps.none _ _)))))); intro v199 w18 ho19 hb hg_ hnew_; clear hg_ hnew_; (first | rw [← Ny198.out] at ho19 | (simp only [Int.reduceToNat] at ho19; rw [← Ny198.out] at ho19)); have n0_ := Aside0.mk (Kd.R_lower ho19 (below_size (by repeat (first | (with_reducible first | exact HB.out | apply below_alloc | apply pw_below_drewN | apply below_drew1) | exact HB.out)))); have n1_ := Aside0.mk (below_step (by repeat (first | (with_reducible first | exact HB.out | apply below_alloc | apply pw_below_drewN | apply below_drew1) | exact HB.out)) hb); clear HB; have HO200 := n0_; have HB := n1_; clear n0_ n1_; clear hb ho19) | ((with_reducible refine gate_dst (N := 17) rfl ?_); (try (refine gate_guard (by rfl) ?_; dsimp only)); refine Kd.R_lit (Kd.int .i64) _ 3 ?hg (N := 17) ?hd (xs := ([0, 2, 3, 1] : List Int)) (inner := [.int .i64 0, .int .i64 2, .int .i64 3, .int .i64 1]) (ok := fun _ => True) (okp := fun _ => True) ?hr ?hp (fun _ hk => hk) trivial (Below.refl _ _) (Nat.le_refl _) (by simp) ?_; (case hd => rfl); (case hg => rfl); (case hr => first | (go_simp; done) | (go_simp; rfl)); (case hp => exact (Reps.one (show Kd.M (Kd.int .i64) _ _ _ 0 [.int .i64 0] from rfl) (Reps.one (show Kd.M (Kd.int .i64) _ _ _ 2 [.int .i64 2] from rfl) (Reps.one (show Kd.M (Kd.int .i64) _ _ _ 3 [.int .i64 3] from rfl) (Reps.one (show Kd.M (Kd.int .i64) _ _ _ 1 [.int .i64 1] from rfl) (Reps.none _ _)))))); intro v202 w20 ho21 hb hg_ hnew_; clear hg_ hnew_; (first | rw [← Ny201.out] at ho21 | (simp only [Int.reduceToNat] at ho21; rw [← Ny201.out] at ho21)); have n0_ := Aside0.mk (Kd.R_below (by (with_reducible repeat (first | apply Kd.R_alloc | apply Kd.R_drewN | apply Kd.R_drew)); exact HO200.out) hb); have n1_ := Aside0.mk (Kd.R_lower ho21 (below_size (by repeat (first | (with_reducible first | exact HB.out | apply below_alloc | apply pw_below_drewN | apply below_drew1) | exact HB.out)))); have n2_ := Aside0.mk (below_step (by repeat (first | (with_reducible first | exact HB.out | apply below_alloc | apply pw_below_drewN | apply below_drew1) | exact HB.out)) hb); clear HO200; clear HB; have HO200 := n0_; have HO203 := n1_; have HB := n2_; clear n0_ n1_ n2_; clear hb ho21; obtain ⟨Ao22, co22, eo22⟩ := Kd.R_slice HO200.out; subst eo22; obtain ⟨Ao23, co23, eo23⟩ := Kd.R_slice HO203.out; subst eo23) | ((with_reducible refine gate_callee (f := 12) rfl ?_); refine goesL_ (some 18) rfl rfl Try.func12 (by kernel_rfl) rfl #[.slice Ao22 y198.length co22, .slice Ao23 y201.length co23] rfl (by (try simp only [List.map_toArray, List.map_cons, List.map_nil]); first | done | rfl | (simp only [List.length_drop, List.length_take]; rfl)) ?_; (with_reducible refine (tour_Length.calls k _ _ y198 _ _ y201 t204 t205 _ ?side1 ?side2 ?side3 ?side4 A1.out).mono ?_); (case side1 => repeat (first | exact (Kd.R_reads' HO200.out).2.2 | (with_reducible refine Kd.C_alloc ?_ _) | (with_reducible refine Kd.C_drewN ?_ _) | (with_reducible refine Kd.C_drew ?_))); (case side2 => exact (Kd.R_reads' HO200.out).2.1); (case side3 => repeat (first | exact (Kd.R_reads' HO203.out).2.2 | (with_reducible refine Kd.C_alloc ?_ _) | (with_reducible refine Kd.C_drewN ?_ _) | (with_reducible refine Kd.C_drew ?_))); (case side4 => exact (Kd.R_reads' HO203.out).2.1); rintro e w24 ⟨rfl, hb⟩; refine ⟨_, rfl, ?_⟩; have n0_ := Aside0.mk (Kd.R_below (by (with_reducible repeat (first | apply Kd.R_alloc | apply Kd.R_drewN | apply Kd.R_drew)); exact HO200.out) hb); have n1_ := Aside0.mk (Kd.R_below (by (with_reducible repeat (first | apply Kd.R_alloc | apply Kd.R_drewN | apply Kd.R_drew)); exact HO203.out) hb); have n2_ := Aside0.mk (below_step (by repeat (first | (with_reducible first | exact HB.out | apply below_alloc | apply pw_below_drewN | apply below_drew1) | exact HB.out)) hb); clear HO200; clear HO203; clear HB; have HO200 := n0_; have HO203 := n1_; have HB := n2_; clear n0_ n1_ n2_; (try clear hb); (try clear hb2); (try clear hk); (try clear hi)) | ((with_reducible refine gate_dst (N := 24) rfl ?_); (try (refine gate_guard (by rfl) ?_; dsimp only)); refine Kd.R_lit k31 _ 31 ?hg (N := 24) ?hd (xs := ([(⟨0, 0⟩ : S31), (⟨4, 0⟩ : S31), (⟨(-4), 0⟩ : S31)] : List (S31))) (inner := [.int .i64 0, .int .i64 0, .int .i64 4, .int .i64 0, .int .i64 (-4), .int .i64 0]) (ok := fun _ => True) (okp := fun _ => True) ?hr ?hp (fun _ hk => hk) trivial (Below.refl _ _) (Nat.le_refl _) (by simp) ?_; (case hd => rfl); (case hg => rfl); (case hr => first | (go_simp; done) | (go_simp; rfl)); (case hp => exact (Reps.c2 (show Kd.M k31 _ _ _ (⟨0, 0⟩ : S31) [.int .i64 0, .int .i64 0] from (k31_mkM _ _ _ (⟨0, 0⟩ : S31) )) (Reps.c2 (show Kd.M k31 _ _ _ (⟨4, 0⟩ : S31) [.int .i64 4, .int .i64 0] from (k31_mkM _ _ _ (⟨4, 0⟩ : S31) )) (Reps.c2 (show Kd.M k31 _ _ _ (⟨(-4), 0⟩ : S31) [.int .i64 (-4), .int .i64 0] from (k31_mkM _ _ _ (⟨(-4), 0⟩ : S31) )) (Reps.none _ _))))); intro v207 w25 ho26 hb hg_ hnew_; clear hg_ hnew_; (first | rw [← Ny206.out] at ho26 | (simp only [Int.reduceToNat] at ho26; rw [← Ny206.out] at ho26)); have n0_ := Aside0.mk (Kd.R_elder' (by (with_reducible repeat (first | apply Kd.R_alloc | apply Kd.R_drewN | apply Kd.R_drew)); exact HO200.out) (Kd.R_base ho26) hb); have n1_ := Aside0.mk (Kd.R_below (by (with_reducible repeat (first | apply Kd.R_alloc | apply Kd.R_drewN | apply Kd.R_drew)); exact HO203.out) hb); have n2_ := Aside0.mk (Kd.R_lower (Kd.R_new' ho26 (Kd.R_lt (by (with_reducible repeat (first | apply Kd.R_alloc | apply Kd.R_drewN | apply Kd.R_drew)); exact HO200.out))) (below_size (by repeat (first | (with_reducible first | exact HB.out | apply below_alloc | apply pw_below_drewN | apply below_drew1) | exact HB.out)))); have n3_ := Aside0.mk (below_step (by repeat (first | (with_reducible first | exact HB.out | apply below_alloc | apply pw_below_drewN | apply below_drew1) | exact HB.out)) hb); clear HO200; clear HO203; clear HB; have HO200 := n0_; have HO203 := n1_; have HO208 := n2_; have HB := n3_; clear n0_ n1_ n2_ n3_; clear hb ho26; obtain ⟨Ao27, co27, eo27⟩ := Kd.R_slice HO208.out; subst eo27) | ((with_reducible refine gate_callee (f := 22) rfl ?_); refine goesL_ (some 27) rfl rfl Try.func22 (by kernel_rfl) rfl #[.slice Ao27 y206.length co27] rfl (by (try simp only [List.map_toArray, List.map_cons, List.map_nil]); first | done | rfl | (simp only [List.length_drop, List.length_take]; rfl)) ?_; (with_reducible refine (tour_Exact.calls k _ _ y206 t209 t210 t211 _ ?side1 ?side2 A2.out).mono ?_); (case side1 => repeat (first | exact (Kd.R_reads' HO208.out).2.2 | (with_reducible refine Kd.C_alloc ?_ _) | (with_reducible refine Kd.C_drewN ?_ _) | (with_reducible refine Kd.C_drew ?_))); (case side2 => exact (Kd.R_reads' HO208.out).2.1); rintro e w28 ⟨v212, rfl, ho0, hb⟩; refine ⟨_, rfl, ?_⟩; have n0_ := Aside0.mk (Kd.R_below (by (with_reducible repeat (first | apply Kd.R_alloc | apply Kd.R_drewN | apply Kd.R_drew)); exact HO200.out) hb); have n1_ := Aside0.mk (Kd.R_elder' (by (with_reducible repeat (first | apply Kd.R_alloc | apply Kd.R_drewN | apply Kd.R_drew)); exact HO203.out) (Kd.R_base ho0) hb); have n2_ := Aside0.mk (Kd.R_below (by (with_reducible repeat (first | apply Kd.R_alloc | apply Kd.R_drewN | apply Kd.R_drew)); exact HO208.out) hb); have n3_ := Aside0.mk (Kd.R_lower (Kd.R_new' ho0 (Kd.R_lt (by (with_reducible repeat (first | apply Kd.R_alloc | apply Kd.R_drewN | apply Kd.R_drew)); exact HO203.out))) (below_size (by repeat (first | (with_reducible first | exact HB.out | apply below_alloc | apply pw_below_drewN | apply below_drew1) | exact HB.out)))); have n4_ := Aside0.mk (below_step (by repeat (first | (with_reducible first | exact HB.out | apply below_alloc | apply pw_below_drewN | apply below_drew1) | exact HB.out)) hb); clear HO200; clear HO203; clear HO208; clear HB; have HO200 := n0_; have HO203 := n1_; have HO208 := n2_; have HO213 := n3_; have HB := n4_; clear n0_ n1_ n2_ n3_ n4_; (try clear hb); (try clear hb2); (try clear hk); (try clear hi); (try clear ho0)) | ((with_reducible refine gate_dst (N := 33) rfl ?_); (try (refine gate_guard (by rfl) ?_; dsimp only)); refine Kd.R_lit (Kd.int .i64) _ 2 ?hg (N := 33) ?hd (xs := ([4, 0, 0] : List Int)) (inner := [.int .i64 4, .int .i64 0, .int .i64 0]) (ok := fun _ => True) (okp := fun _ => True) ?hr ?hp (fun _ hk => hk) trivial (Below.refl _ _) (Nat.le_refl _) (by simp) ?_; (case hd => rfl); (case hg => rfl); (case hr => first | (go_simp; done) | (go_simp; rfl)); (case hp => exact (Reps.one (show Kd.M (Kd.int .i64) _ _ _ 4 [.int .i64 4] from rfl) (Reps.one (show Kd.M (Kd.int .i64) _ _ _ 0 [.int .i64 0] from rfl) (Reps.one (show Kd.M (Kd.int .i64) _ _ _ 0 [.int .i64 0] from rfl) (Reps.none _ _))))); intro v215 w29 ho30 hb hg_ hnew_; clear hg_ hnew_; (first | rw [← Ny214.out] at ho30 | (simp only [Int.reduceToNat] at ho30; rw [← Ny214.out] at ho30)); have n0_ := Aside0.mk (Kd.R_below (by (with_reducible repeat (first | apply Kd.R_alloc | apply Kd.R_drewN | apply Kd.R_drew)); exact HO200.out) hb); have n1_ := Aside0.mk (Kd.R_below (by (with_reducible repeat (first | apply Kd.R_alloc | apply Kd.R_drewN | apply Kd.R_drew)); exact HO203.out) hb); have n2_ := Aside0.mk (Kd.R_below (by (with_reducible repeat (first | apply Kd.R_alloc | apply Kd.R_drewN | apply Kd.R_drew)); exact HO208.out) hb); have n3_ := Aside0.mk (Kd.R_below (by (with_reducible repeat (first | apply Kd.R_alloc | apply Kd.R_drewN | apply Kd.R_drew)); exact HO213.out) hb); have n4_ := Aside0.mk (Kd.R_lower ho30 (below_size (by repeat (first | (with_reducible first | exact HB.out | apply below_alloc | apply pw_below_drewN | apply below_drew1) | exact HB.out)))); have n5_ := Aside0.mk (below_step (by repeat (first | (with_reducible first | exact HB.out | apply below_alloc | apply pw_below_drewN | apply below_drew1) | exact HB.out)) hb); clear HO200; clear HO203; clear HO208; clear HO213; clear HB; have HO200 := n0_; have HO203 := n1_; have HO208 := n2_; have HO213 := n3_; have HO216 := n4_; have HB := n5_; clear n0_ n1_ n2_ n3_ n4_ n5_; clear hb ho30; obtain ⟨Ao31, co31, eo31⟩ := Kd.R_slice HO216.out; subst eo31) | ((with_reducible refine gate_callee (f := 24) rfl ?_); refine goesL_ (some 34) rfl rfl Try.func24 (by kernel_rfl) rfl #[.slice Ao27 y206.length co27, .slice Ao31 y214.length co31] rfl (by (try simp only [List.map_toArray, List.map_cons, List.map_nil]); first | done | rfl | (simp only [List.length_drop, List.length_take]; rfl)) ?_; (with_reducible refine (tour_Bound.calls k _ _ y206 _ _ y214 t217 t218 _ ?side1 ?side2 ?side3 ?side4 A3.out).mono ?_); (case side1 => repeat (first | exact (Kd.R_reads' HO208.out).2.2 | (with_reducible refine Kd.C_alloc ?_ _) | (with_reducible refine Kd.C_drewN ?_ _) | (with_reducible refine Kd.C_drew ?_))); (case side2 => exact (Kd.R_reads' HO208.out).2.1); (case side3 => repeat (first | exact (Kd.R_reads' HO216.out).2.2 | (with_reducible refine Kd.C_alloc ?_ _) | (with_reducible refine Kd.C_drewN ?_ _) | (with_reducible refine Kd.C_drew ?_))); (case side4 => exact (Kd.R_reads' HO216.out).2.1); rintro e w32 ⟨rfl, hb⟩; refine ⟨_, rfl, ?_⟩; have n0_ := Aside0.mk (Kd.R_below (by (with_reducible repeat (first | apply Kd.R_alloc | apply Kd.R_drewN | apply Kd.R_drew)); exact HO200.out) hb); have n1_ := Aside0.mk (Kd.R_below (by (with_reducible repeat (first | apply Kd.R_alloc | apply Kd.R_drewN | apply Kd.R_drew)); exact HO203.out) hb); have n2_ := Aside0.mk (Kd.R_below (by (with_reducible repeat (first | apply Kd.R_alloc | apply Kd.R_drewN | apply Kd.R_drew)); exact HO208.out) hb); have n3_ := Aside0.mk (Kd.R_below (by (with_reducible repeat (first | apply Kd.R_alloc | apply Kd.R_drewN | apply Kd.R_drew)); exact HO213.out) hb); have n4_ := Aside0.mk (Kd.R_below (by (with_reducible repeat (first | apply Kd.R_alloc | apply Kd.R_drewN | apply Kd.R_drew)); exact HO216.out) hb); have n5_ := Aside0.mk (below_step (by repeat (first | (with_reducible first | exact HB.out | apply below_alloc | apply pw_below_drewN | apply below_drew1) | exact HB.out)) hb); clear HO200; clear HO203; clear HO208; clear HO213; clear HO216; clear HB; have HO200 := n0_; have HO203 := n1_; have HO208 := n2_; have HO213 := n3_; have HO216 := n4_; have HB := n5_; clear n0_ n1_ n2_ n3_ n4_ n5_; (try clear hb); (try clear hb2); (try clear hk); (try clear hi)) | ((with_reducible refine gate_callee (f := 17) rfl ?_); refine goesL_ (some 38) rfl rfl Try.func17 (by kernel_rfl) rfl #[.slice Ao22 y198.length co22] rfl (by (try simp only [List.map_toArray, List.map_cons, List.map_nil]); first | done | rfl | (simp only [List.length_drop, List.length_take]; rfl)) ?_; (with_reducible refine (tour_Nearest.calls k _ _ y198 t219 _ ?side1 ?side2 A4.out).mono ?_); (case side1 => repeat (first | exact (Kd.R_reads' HO200.out).2.2 | (with_reducible refine Kd.C_alloc ?_ _) | (with_reducible refine Kd.C_drewN ?_ _) | (with_reducible refine Kd.C_drew ?_))); (case side2 => exact (Kd.R_reads' HO200.out).2.1); rintro e w33 ⟨v220, rfl, ho0, hb⟩; refine ⟨_, rfl, ?_⟩; have n0_ := Aside0.mk (Kd.R_below (by (with_reducible repeat (first | apply Kd.R_alloc | apply Kd.R_drewN | apply Kd.R_drew)); exact HO200.out) hb); have n1_ := Aside0.mk (Kd.R_elder' (by (with_reducible repeat (first | apply Kd.R_alloc | apply Kd.R_drewN | apply Kd.R_drew)); exact HO203.out) (Kd.R_base ho0) hb); have n2_ := Aside0.mk (Kd.R_below (by (with_reducible repeat (first | apply Kd.R_alloc | apply Kd.R_drewN | apply Kd.R_drew)); exact HO208.out) hb); have n3_ := Aside0.mk (Kd.R_elder' (by (with_reducible repeat (first | apply Kd.R_alloc | apply Kd.R_drewN | apply Kd.R_drew)); exact HO213.out) (Kd.R_base ho0) hb); have n4_ := Aside0.mk (Kd.R_below (by (with_reducible repeat (first | apply Kd.R_alloc | apply Kd.R_drewN | apply Kd.R_drew)); exact HO216.out) hb); have n5_ := Aside0.mk (Kd.R_lower (Kd.R_new' (Kd.R_new' ho0 (Kd.R_lt (by (with_reducible repeat (first | apply Kd.R_alloc | apply Kd.R_drewN | apply Kd.R_drew)); exact HO203.out))) (Kd.R_lt (by (with_reducible repeat (first | apply Kd.R_alloc | apply Kd.R_drewN | apply Kd.R_drew)); exact HO213.out))) (below_size (by repeat (first | (with_reducible first | exact HB.out | apply below_alloc | apply pw_below_drewN | apply below_drew1) | exact HB.out)))); have n6_ := Aside0.mk (below_step (by repeat (first | (with_reducible first | exact HB.out | apply below_alloc | apply pw_below_drewN | apply below_drew1) | exact HB.out)) hb); clear HO200; clear HO203; clear HO208; clear HO213; clear HO216; clear HB; have HO200 := n0_; have HO203 := n1_; have HO208 := n2_; have HO213 := n3_; have HO216 := n4_; have HO221 := n5_; have HB := n6_; clear n0_ n1_ n2_ n3_ n4_ n5_ n6_; (try clear hb); (try clear hb2); (try clear hk); (try clear hi); (try clear ho0)) | ((with_reducible refine gate_dst (N := 39) rfl ?_); (try (refine gate_guard (by rfl) ?_; dsimp only)); refine Kd.R_lit (Kd.int .i64) _ 3 ?hg (N := 39) ?hd (xs := ([0, 2, 3, 1] : List Int)) (inner := [.int .i64 0, .int .i64 2, .int .i64 3, .int .i64 1]) (ok := fun _ => True) (okp := fun _ => True) ?hr ?hp (fun _ hk => hk) trivial (Below.refl _ _) (Nat.le_refl _) (by simp) ?_; (case hd => rfl); (case hg => rfl); (case hr => first | (go_simp; done) | (go_simp; rfl)); (case hp => exact (Reps.one (show Kd.M (Kd.int .i64) _ _ _ 0 [.int .i64 0] from rfl) (Reps.one (show Kd.M (Kd.int .i64) _ _ _ 2 [.int .i64 2] from rfl) (Reps.one (show Kd.M (Kd.int .i64) _ _ _ 3 [.int .i64 3] from rfl) (Reps.one (show Kd.M (Kd.int .i64) _ _ _ 1 [.int .i64 1] from rfl) (Reps.none _ _)))))); intro v223 w34 ho35 hb hg_ hnew_; clear hg_ hnew_; (first | rw [← Ny222.out] at ho35 | (simp only [Int.reduceToNat] at ho35; rw [← Ny222.out] at ho35)); have n0_ := Aside0.mk (Kd.R_below (by (with_reducible repeat (first | apply Kd.R_alloc | apply Kd.R_drewN | apply Kd.R_drew)); exact HO200.out) hb); have n1_ := Aside0.mk (Kd.R_elder' (by (with_reducible repeat (first | apply Kd.R_alloc | apply Kd.R_drewN | apply Kd.R_drew)); exact HO203.out) (Kd.R_base ho35) hb); have n2_ := Aside0.mk (Kd.R_below (by (with_reducible repeat (first | apply Kd.R_alloc | apply Kd.R_drewN | apply Kd.R_drew)); exact HO208.out) hb); have n3_ := Aside0.mk (Kd.R_elder' (by (with_reducible repeat (first | apply Kd.R_alloc | apply Kd.R_drewN | apply Kd.R_drew)); exact HO213.out) (Kd.R_base ho35) hb); have n4_ := Aside0.mk (Kd.R_below (by (with_reducible repeat (first | apply Kd.R_alloc | apply Kd.R_drewN | apply Kd.R_drew)); exact HO216.out) hb); have n5_ := Aside0.mk (Kd.R_elder' (by (with_reducible repeat (first | apply Kd.R_alloc | apply Kd.R_drewN | apply Kd.R_drew)); exact HO221.out) (Kd.R_base ho35) hb); have n6_ := Aside0.mk (Kd.R_lower (Kd.R_new' (Kd.R_new' (Kd.R_new' ho35 (Kd.R_lt (by (with_reducible repeat (first | apply Kd.R_alloc | apply Kd.R_drewN | apply Kd.R_drew)); exact HO203.out))) (Kd.R_lt (by (with_reducible repeat (first | apply Kd.R_alloc | apply Kd.R_drewN | apply Kd.R_drew)); exact HO213.out))) (Kd.R_lt (by (with_reducible repeat (first | apply Kd.R_alloc | apply Kd.R_drewN | apply Kd.R_drew)); exact HO221.out))) (below_size (by repeat (first | (with_reducible first | exact HB.out | apply below_alloc | apply pw_below_drewN | apply below_drew1) | exact HB.out)))); have n7_ := Aside0.mk (below_step (by repeat (first | (with_reducible first | exact HB.out | apply below_alloc | apply pw_below_drewN | apply below_drew1) | exact HB.out)) hb); clear HO200; clear HO203; clear HO208; clear HO213; clear HO216; clear HO221; clear HB; have HO200 := n0_; have HO203 := n1_; have HO208 := n2_; have HO213 := n3_; have HO216 := n4_; have HO221 := n5_; have HO224 := n6_; have HB := n7_; clear n0_ n1_ n2_ n3_ n4_ n5_ n6_ n7_; clear hb ho35; obtain ⟨Ao36, co36, eo36⟩ := Kd.R_slice HO221.out; subst eo36; obtain ⟨Ao37, co37, eo37⟩ := Kd.R_slice HO224.out; subst eo37) | ((with_reducible refine gate_callee (f := 18) rfl ?_); refine goesL_ (some 40) rfl rfl Try.func18 (by kernel_rfl) rfl #[.slice Ao36 t219.length co36, .slice Ao37 y222.length co37] rfl (by (try simp only [List.map_toArray, List.map_cons, List.map_nil]); first | done | rfl | (simp only [List.length_drop, List.length_take]; rfl)) ?_; (with_reducible refine (swarfref38_Same.calls k _ _ t219 _ _ y222 true _ ?side1 ?side2 ?side3 ?side4 A5.out).mono ?_); (case side1 => repeat (first | exact (Kd.R_reads' HO221.out).2.2 | (with_reducible refine Kd.C_alloc ?_ _) | (with_reducible refine Kd.C_drewN ?_ _) | (with_reducible refine Kd.C_drew ?_))); (case side2 => exact (Kd.R_reads' HO221.out).2.1); (case side3 => repeat (first | exact (Kd.R_reads' HO224.out).2.2 | (with_reducible refine Kd.C_alloc ?_ _) | (with_reducible refine Kd.C_drewN ?_ _) | (with_reducible refine Kd.C_drew ?_))); (case side4 => exact (Kd.R_reads' HO224.out).2.1); rintro e w' ⟨rfl, ⟨nd, rfl⟩⟩; refine ⟨_, rfl, ?_⟩) | (go_at_call 20; (with_reducible refine (tour_Tree.calls k _ _ y198 t226 _ ?side1 ?side2 A9.out).mono ?_); (case side1 => repeat (first | exact (Kd.R_reads' HO200.out).2.2 | (with_reducible refine Kd.C_alloc ?_ _) | (with_reducible refine Kd.C_drewN ?_ _) | (with_reducible refine Kd.C_drew ?_))); (case side2 => exact (Kd.R_reads' HO200.out).2.1); rintro e w38 ⟨rfl, hb⟩; have n0_ := Aside0.mk (Kd.R_below (by (with_reducible repeat (first | apply Kd.R_alloc | apply Kd.R_drewN | apply Kd.R_drew)); exact HO200.out) hb); have n1_ := Aside0.mk (Kd.R_below (by (with_reducible repeat (first | apply Kd.R_alloc | apply Kd.R_drewN | apply Kd.R_drew)); exact HO203.out) hb); have n2_ := Aside0.mk (Kd.R_below (by (with_reducible repeat (first | apply Kd.R_alloc | apply Kd.R_drewN | apply Kd.R_drew)); exact HO208.out) hb); have n3_ := Aside0.mk (Kd.R_below (by (with_reducible repeat (first | apply Kd.R_alloc | apply Kd.R_drewN | apply Kd.R_drew)); exact HO213.out) hb); have n4_ := Aside0.mk (Kd.R_below (by (with_reducible repeat (first | apply Kd.R_alloc | apply Kd.R_drewN | apply Kd.R_drew)); exact HO216.out) hb); have n5_ := Aside0.mk (Kd.R_below (by (with_reducible repeat (first | apply Kd.R_alloc | apply Kd.R_drewN | apply Kd.R_drew)); exact HO221.out) hb); have n6_ := Aside0.mk (Kd.R_below (by (with_reducible repeat (first | apply Kd.R_alloc | apply Kd.R_drewN | apply Kd.R_drew)); exact HO224.out) hb); have n7_ := Aside0.mk (below_step (by repeat (first | (with_reducible first | exact HB.out | apply below_alloc | apply pw_below_drewN | apply below_drew1) | exact HB.out)) hb); clear HO200; clear HO203; clear HO208; clear HO213; clear HO216; clear HO221; clear HO224; clear HB; have HO200 := n0_; have HO203 := n1_; have HO208 := n2_; have HO213 := n3_; have HO216 := n4_; have HO221 := n5_; have HO224 := n6_; have HB := n7_; clear n0_ n1_ n2_ n3_ n4_ n5_ n6_ n7_; (try clear hb); (try clear hb2); (try clear hk); (try clear hi)) | (go_at_call 20; (with_reducible refine (tour_Tree.calls k _ _ y206 t227 _ ?side1 ?side2 A11.out).mono ?_); (case side1 => repeat (first | exact (Kd.R_reads' HO208.out).2.2 | (with_reducible refine Kd.C_alloc ?_ _) | (with_reducible refine Kd.C_drewN ?_ _) | (with_reducible refine Kd.C_drew ?_))); (case side2 => exact (Kd.R_reads' HO208.out).2.1); rintro e w39 ⟨rfl, hb⟩; have n0_ := Aside0.mk (Kd.R_below (by (with_reducible repeat (first | apply Kd.R_alloc | apply Kd.R_drewN | apply Kd.R_drew)); exact HO200.out) hb); have n1_ := Aside0.mk (Kd.R_below (by (with_reducible repeat (first | apply Kd.R_alloc | apply Kd.R_drewN | apply Kd.R_drew)); exact HO203.out) hb); have n2_ := Aside0.mk (Kd.R_below (by (with_reducible repeat (first | apply Kd.R_alloc | apply Kd.R_drewN | apply Kd.R_drew)); exact HO208.out) hb); have n3_ := Aside0.mk (Kd.R_below (by (with_reducible repeat (first | apply Kd.R_alloc | apply Kd.R_drewN | apply Kd.R_drew)); exact HO213.out) hb); have n4_ := Aside0.mk (Kd.R_below (by (with_reducible repeat (first | apply Kd.R_alloc | apply Kd.R_drewN | apply Kd.R_drew)); exact HO216.out) hb); have n5_ := Aside0.mk (Kd.R_below (by (with_reducible repeat (first | apply Kd.R_alloc | apply Kd.R_drewN | apply Kd.R_drew)); exact HO221.out) hb); have n6_ := Aside0.mk (Kd.R_below (by (with_reducible repeat (first | apply Kd.R_alloc | apply Kd.R_drewN | apply Kd.R_drew)); exact HO224.out) hb); have n7_ := Aside0.mk (below_step (by repeat (first | (with_reducible first | exact HB.out | apply below_alloc | apply pw_below_drewN | apply below_drew1) | exact HB.out)) hb); clear HO200; clear HO203; clear HO208; clear HO213; clear HO216; clear HO221; clear HO224; clear HB; have HO200 := n0_; have HO203 := n1_; have HO208 := n2_; have HO213 := n3_; have HO216 := n4_; have HO221 := n5_; have HO224 := n6_; have HB := n7_; clear n0_ n1_ n2_ n3_ n4_ n5_ n6_ n7_; (try clear hb); (try clear hb2); (try clear hk); (try clear hi)) | ((with_reducible refine gate_dst (N := 69) rfl ?_); (try (refine gate_guard (by rfl) ?_; dsimp only)); refine Kd.R_lit (Kd.int .i64) _ 3 ?hg (N := 69) ?hd (xs := ([0, 1, 2] : List Int)) (inner := [.int .i64 0, .int .i64 1, .int .i64 2]) (ok := fun _ => True) (okp := fun _ => True) ?hr ?hp (fun _ hk => hk) trivial (Below.refl _ _) (Nat.le_refl _) (by simp) ?_; (case hd => rfl); (case hg => rfl); (case hr => first | (go_simp; done) | (go_simp; rfl)); (case hp => exact (Reps.one (show Kd.M (Kd.int .i64) _ _ _ 0 [.int .i64 0] from rfl) (Reps.one (show Kd.M (Kd.int .i64) _ _ _ 1 [.int .i64 1] from rfl) (Reps.one (show Kd.M (Kd.int .i64) _ _ _ 2 [.int .i64 2] from rfl) (Reps.none _ _))))); intro v229 w40 ho41 hb hg_ hnew_; clear hg_ hnew_; (first | rw [← Ny228.out] at ho41 | (simp only [Int.reduceToNat] at ho41; rw [← Ny228.out] at ho41)); have n0_ := Aside0.mk (Kd.R_below (by (with_reducible repeat (first | apply Kd.R_alloc | apply Kd.R_drewN | apply Kd.R_drew)); exact HO200.out) hb); have n1_ := Aside0.mk (Kd.R_elder' (by (with_reducible repeat (first | apply Kd.R_alloc | apply Kd.R_drewN | apply Kd.R_drew)); exact HO203.out) (Kd.R_base ho41) hb); have n2_ := Aside0.mk (Kd.R_below (by (with_reducible repeat (first | apply Kd.R_alloc | apply Kd.R_drewN | apply Kd.R_drew)); exact HO208.out) hb); have n3_ := Aside0.mk (Kd.R_elder' (by (with_reducible repeat (first | apply Kd.R_alloc | apply Kd.R_drewN | apply Kd.R_drew)); exact HO213.out) (Kd.R_base ho41) hb); have n4_ := Aside0.mk (Kd.R_below (by (with_reducible repeat (first | apply Kd.R_alloc | apply Kd.R_drewN | apply Kd.R_drew)); exact HO216.out) hb); have n5_ := Aside0.mk (Kd.R_elder' (by (with_reducible repeat (first | apply Kd.R_alloc | apply Kd.R_drewN | apply Kd.R_drew)); exact HO221.out) (Kd.R_base ho41) hb); have n6_ := Aside0.mk (Kd.R_elder' (by (with_reducible repeat (first | apply Kd.R_alloc | apply Kd.R_drewN | apply Kd.R_drew)); exact HO224.out) (Kd.R_base ho41) hb); have n7_ := Aside0.mk (Kd.R_lower (Kd.R_new' (Kd.R_new' (Kd.R_new' (Kd.R_new' ho41 (Kd.R_lt (by (with_reducible repeat (first | apply Kd.R_alloc | apply Kd.R_drewN | apply Kd.R_drew)); exact HO203.out))) (Kd.R_lt (by (with_reducible repeat (first | apply Kd.R_alloc | apply Kd.R_drewN | apply Kd.R_drew)); exact HO213.out))) (Kd.R_lt (by (with_reducible repeat (first | apply Kd.R_alloc | apply Kd.R_drewN | apply Kd.R_drew)); exact HO221.out))) (Kd.R_lt (by (with_reducible repeat (first | apply Kd.R_alloc | apply Kd.R_drewN | apply Kd.R_drew)); exact HO224.out))) (below_size (by repeat (first | (with_reducible first | exact HB.out | apply below_alloc | apply pw_below_drewN | apply below_drew1) | exact HB.out)))); have n8_ := Aside0.mk (below_step (by repeat (first | (with_reducible first | exact HB.out | apply below_alloc | apply pw_below_drewN | apply below_drew1) | exact HB.out)) hb); clear HO200; clear HO203; clear HO208; clear HO213; clear HO216; clear HO221; clear HO224; clear HB; have HO200 := n0_; have HO203 := n1_; have HO208 := n2_; have HO213 := n3_; have HO216 := n4_; have HO221 := n5_; have HO224 := n6_; have HO230 := n7_; have HB := n8_; clear n0_ n1_ n2_ n3_ n4_ n5_ n6_ n7_ n8_; clear hb ho41; obtain ⟨Ao42, co42, eo42⟩ := Kd.R_slice HO213.out; subst eo42; obtain ⟨Ao43, co43, eo43⟩ := Kd.R_slice HO230.out; subst eo43) | (go_at_call 18; (with_reducible refine (swarfref38_Same.calls k _ _ t209 _ _ y228 true _ ?side1 ?side2 ?side3 ?side4 A15.out).mono ?_); (case side1 => repeat (first | exact (Kd.R_reads' HO213.out).2.2 | (with_reducible refine Kd.C_alloc ?_ _) | (with_reducible refine Kd.C_drewN ?_ _) | (with_reducible refine Kd.C_drew ?_))); (case side2 => exact (Kd.R_reads' HO213.out).2.1); (case side3 => repeat (first | exact (Kd.R_reads' HO230.out).2.2 | (with_reducible refine Kd.C_alloc ?_ _) | (with_reducible refine Kd.C_drewN ?_ _) | (with_reducible refine Kd.C_drew ?_))); (case side4 => exact (Kd.R_reads' HO230.out).2.1); rintro e w' ⟨rfl, ⟨nd, rfl⟩⟩))
          go_ret
          exact ⟨by first | rfl | (simp [errW_none, errW_some] <;> rfl) | (simp [*, errW_none, errW_some] <;> rfl), by repeat (first | (with_reducible first | exact HB.out | apply below_alloc | apply pw_below_drewN | apply below_drew1) | exact HB.out)⟩
         ·rw [if_neg c17] at H
          have c17b0 : (t218 == 0) = false := beq_eq_false_iff_ne.mpr c17
          have c17b1 : (t218 != 0) = true := bne_iff_ne.mpr c17
          (rw [HRT.out] at H; exact absurd H (by decide))
        ·replace c16 := Bool.eq_false_iff.mpr c16
         subst c16
         have H1 : (some false) = some r := by rw [if_neg (show ¬ (false = true) by decide)] at H; exact H
         clear H; have H := H1; clear H1
         (rw [HRT.out] at H; exact absurd H (by decide))
       ·rw [if_neg c14] at H
        have c14b0 : (t210 == 12) = false := beq_eq_false_iff_ne.mpr c14
        have c14b1 : (t210 != 12) = true := bne_iff_ne.mpr c14
        (rw [HRT.out] at H; exact absurd H (by decide))
      ·rw [if_neg c13] at H
       have c13b0 : (t211 == 0) = false := beq_eq_false_iff_ne.mpr c13
       have c13b1 : (t211 != 0) = true := bne_iff_ne.mpr c13
       (rw [HRT.out] at H; exact absurd H (by decide))
     ·rw [if_neg c12] at H
      have c12b0 : (t227 == 8) = false := beq_eq_false_iff_ne.mpr c12
      have c12b1 : (t227 != 8) = true := bne_iff_ne.mpr c12
      (rw [HRT.out] at H; exact absurd H (by decide))
    ·rw [if_neg c10] at H
     have c10b0 : (t226 == 11) = false := beq_eq_false_iff_ne.mpr c10
     have c10b1 : (t226 != 11) = true := bne_iff_ne.mpr c10
     (rw [HRT.out] at H; exact absurd H (by decide))
   ·rw [if_neg c8] at H
    have c8b0 : (t204 == 11) = false := beq_eq_false_iff_ne.mpr c8
    have c8b1 : (t204 != 11) = true := bne_iff_ne.mpr c8
    (rw [HRT.out] at H; exact absurd H (by decide))
  ·rw [if_neg c7] at H
   have c7b0 : (t205 == 0) = false := beq_eq_false_iff_ne.mpr c7
   have c7b1 : (t205 != 0) = true := bne_iff_ne.mpr c7
   (rw [HRT.out] at H; exact absurd H (by decide))
 ·replace c6 := Bool.eq_false_iff.mpr c6
  subst c6
  have H1 : (some false) = some r := by rw [if_neg (show ¬ (false = true) by decide)] at H; exact H
  clear H; have H := H1; clear H1
  (rw [HRT.out] at H; exact absurd H (by decide))
end Go.Proofs.Ytohjocajaanhaaa.P

-- PRINTED by print.py (a twelfth state) out of the translation. Not trusted: Lean checks it.

namespace Go.Proofs.Ytohjocajaanhaaa.P
open Go.RowKit Go.Proofs.YtohjocajaanhaaaW.PrintWords Go.Proofs.YtohjocajaanhaaaW.PrintLast Go.Proofs.YtohjocajaanhaaaW.PrintMore
attribute [local go_sem] max2_int min2_int max_two min_two max_three min_three max_four min_four   -- for this text's walks alone
set_option linter.unusedVariables false
set_option linter.unusedSimpArgs false

/-! ### swarfref38_Valid: function 31 -/
def swarfref38_Valid.l0 : Nat → List (S31) → Int → Option (Int)
 | 0, _, _ => none
 | k + 1, x0, x5 => if x5 < (x0.length : Int) then (if 0 ≤ x5 then (if ((rd_T31 x0 x5).f0) > 10000000 then (some 11) else (if ((rd_T31 x0 x5).f0) < (-10000000) then (some 11) else (if ((rd_T31 x0 x5).f1) > 10000000 then (some 11) else (if ((rd_T31 x0 x5).f1) < (-10000000) then (some 11) else (swarfref38_Valid.l0 k x0 (wrap64 (x5 + 1))))))) else (none)) else (some 0)
def swarfref38_Valid.f (k : Nat) (l0 : List (S31)) (a1 : Int) : Option (Int) := if (l0.length : Int) > a1 then (some 3) else (swarfref38_Valid.l0 k l0 0)
theorem swarfref38_Valid.mono_l : ∀ k, (∀ y0 y1, LeO (swarfref38_Valid.l0 k y0 y1) (swarfref38_Valid.l0 (k + 1) y0 y1))
 | 0 => fun _ _ r h => by simp [swarfref38_Valid.l0] at h
 | k + 1 => by
  have ih0 := swarfref38_Valid.mono_l k
  ·intro y0 y1
   unfold swarfref38_Valid.l0
   repeat' first
   | (with_reducible exact ih0 _ _)
   | (with_reducible exact LeO.refl _)
   | (with_reducible exact LeO.none _)
   | (with_reducible refine LeO.ite ?_ ?_)
   | (with_reducible refine LeO.bind ?_ (fun _ => ?_))
   | exact ih0 _ _
   | exact LeO.none _
   | refine LeO.ite ?_ ?_
   | refine LeO.bind ?_ (fun _ => ?_)
theorem swarfref38_Valid.mono : ∀ a0 a1 k, LeO (swarfref38_Valid.f k a0 a1) (swarfref38_Valid.f (k + 1) a0 a1) := by
 intro a0 a1 k
 have ih0 := swarfref38_Valid.mono_l k
 unfold swarfref38_Valid.f
 repeat' first
   | (with_reducible exact ih0 _ _)
   | (with_reducible exact LeO.refl _)
   | (with_reducible exact LeO.none _)
   | (with_reducible refine LeO.ite ?_ ?_)
   | (with_reducible refine LeO.bind ?_ (fun _ => ?_))
   | exact ih0 _ _
   | exact LeO.none _
   | refine LeO.ite ?_ ?_
   | refine LeO.bind ?_ (fun _ => ?_)
set_option maxHeartbeats 8000000 in
set_option maxRecDepth 100000 in
theorem swarfref38_Valid.calls (k : Nat) (A0 : Option Addr) (c0 : Nat) (l0 : List (S31)) (a1 : Int) (r : Int) (w : World) (hr0 : Kd.C k31 w A0 l0.length l0) (hc0 : l0.length ≤ c0) (h : swarfref38_Valid.f k l0 a1 = some r) :
  Calls Try.prog 31 #[.slice A0 l0.length c0, .int .i64 a1] w fun e w' => e = .returned (.int .i64 r) ∧ Drawn0 w w' := by
 have HR0 := Aside0.mk hr0
 have HC0 := Aside0.mk hc0
 clear hr0 hc0
 have H : (if (l0.length : Int) > a1 then (some 3) else (swarfref38_Valid.l0 k l0 0)) = some r := h
 clear h
 by_cases c3 : (l0.length : Int) > a1
 ·rw [if_pos c3] at H
  have c3b0 : decide (a1 < (l0.length : Int)) = true := decide_eq_true c3
  clear c3; obtain rfl := Option.some.inj H
  go_enter Try.func31, Try.ntmps31
  go_wp2; go_ret
  exact ⟨by first | rfl | (simp; done) | (simp [*]; done), by repeat (first | exact Drawn0.refl _ | apply Drawn0.step)⟩
 ·rw [if_neg c3] at H
  have c3b0 : decide (a1 < (l0.length : Int)) = false := decide_eq_false c3
  clear c3; have H' := Aside0.mk H; clear H
  go_enter Try.func31, Try.ntmps31
  go_wp2
  go_loopg [5] k (fun kq v5 w' => ∃ (x5_1 : Int), v5 = .int .i64 x5_1 ∧ Aside0 (swarfref38_Valid.l0 kq l0 x5_1 = some r) ∧ Aside0 (kq ≤ k) ∧ Drawn0 w w')
  case atStart => exact ⟨(0), (by first | rfl | (simp; done) | (simp [*]; done)), H', ⟨Nat.le_refl _⟩, by repeat (first | exact Drawn0.refl _ | apply Drawn0.step)⟩
  case round =>
   clear H'; try clear p2; try clear c3; try clear c3b0
   obtain ⟨x5_1, rfl, HA, HK1, ⟨m1, rfl⟩⟩ := hrel
   cases gk with
   | zero => exact absurd HA.out (by simp [swarfref38_Valid.l0])
   | succ k1 =>
    have H := HA.out
    clear HA
    simp only [swarfref38_Valid.l0] at H
    by_cases c4 : x5_1 < (l0.length : Int)
    ·rw [if_pos c4] at H
     have c4b0 : decide (x5_1 < (l0.length : Int)) = true := decide_eq_true c4
     clear c4
     by_cases c5 : 0 ≤ x5_1
     ·rw [if_pos c5] at H
      have c5b0 : decide (0 ≤ x5_1) = true := decide_eq_true c5
      clear c5
      by_cases c6 : ((rd_T31 l0 x5_1).f0) > 10000000
      ·rw [if_pos c6] at H
       have c6b0 : decide (10000000 < ((rd_T31 l0 x5_1).f0)) = true := decide_eq_true c6
       clear c6; obtain rfl := Option.some.inj H
       have p232 : 0 ≤ (x5_1 : Int) := of_decide_eq_true (by first | (with_reducible assumption) | assumption)
       have q232 : x5_1 < (l0.length : Int) := of_decide_eq_true (by first | (with_reducible assumption) | assumption)
       obtain ⟨ad232, e232, hx232_0, hx232_1⟩ := at_T31 HR0.out x5_1 p232 q232
       cases e232; replace p232 := eq_true p232; replace q232 := eq_true q232; go_wp2; go_ret
       exact ⟨by first | rfl | (simp; done) | (simp [*]; done), by repeat (first | exact Drawn0.refl _ | apply Drawn0.step)⟩
      ·rw [if_neg c6] at H
       have c6b0 : decide (10000000 < ((rd_T31 l0 x5_1).f0)) = false := decide_eq_false c6
       clear c6
       by_cases c7 : ((rd_T31 l0 x5_1).f0) < (-10000000)
       ·rw [if_pos c7] at H
        have c7b0 : decide (((rd_T31 l0 x5_1).f0) < (-10000000)) = true := decide_eq_true c7
        clear c7; obtain rfl := Option.some.inj H
        have p232 : 0 ≤ (x5_1 : Int) := of_decide_eq_true (by first | (with_reducible assumption) | assumption)
        have q232 : x5_1 < (l0.length : Int) := of_decide_eq_true (by first | (with_reducible assumption) | assumption)
        obtain ⟨ad232, e232, hx232_0, hx232_1⟩ := at_T31 HR0.out x5_1 p232 q232
        cases e232; replace p232 := eq_true p232; replace q232 := eq_true q232
        have p233 : 0 ≤ (x5_1 : Int) := of_decide_eq_true (by first | (with_reducible assumption) | assumption)
        have q233 : x5_1 < (l0.length : Int) := of_decide_eq_true (by first | (with_reducible assumption) | assumption)
        obtain ⟨ad233, e233, hx233_0, hx233_1⟩ := at_T31 HR0.out x5_1 p233 q233
        obtain rfl : ad232 = ad233 := (by injection e233)
        replace p233 := eq_true p233; replace q233 := eq_true q233; go_wp2; go_ret
        exact ⟨by first | rfl | (simp; done) | (simp [*]; done), by repeat (first | exact Drawn0.refl _ | apply Drawn0.step)⟩
       ·rw [if_neg c7] at H
        have c7b0 : decide (((rd_T31 l0 x5_1).f0) < (-10000000)) = false := decide_eq_false c7
        clear c7
        by_cases c8 : ((rd_T31 l0 x5_1).f1) > 10000000
        ·rw [if_pos c8] at H
         have c8b0 : decide (10000000 < ((rd_T31 l0 x5_1).f1)) = true := decide_eq_true c8
         clear c8; obtain rfl := Option.some.inj H
         have p232 : 0 ≤ (x5_1 : Int) := of_decide_eq_true (by first | (with_reducible assumption) | assumption)
         have q232 : x5_1 < (l0.length : Int) := of_decide_eq_true (by first | (with_reducible assumption) | assumption)
         obtain ⟨ad232, e232, hx232_0, hx232_1⟩ := at_T31 HR0.out x5_1 p232 q232
         cases e232; replace p232 := eq_true p232; replace q232 := eq_true q232
         have p233 : 0 ≤ (x5_1 : Int) := of_decide_eq_true (by first | (with_reducible assumption) | assumption)
         have q233 : x5_1 < (l0.length : Int) := of_decide_eq_true (by first | (with_reducible assumption) | assumption)
         obtain ⟨ad233, e233, hx233_0, hx233_1⟩ := at_T31 HR0.out x5_1 p233 q233
         obtain rfl : ad232 = ad233 := (by injection e233)
         replace p233 := eq_true p233; replace q233 := eq_true q233
         have p234 : 0 ≤ (x5_1 : Int) := of_decide_eq_true (by first | (with_reducible assumption) | assumption)
         have q234 : x5_1 < (l0.length : Int) := of_decide_eq_true (by first | (with_reducible assumption) | assumption)
         obtain ⟨ad234, e234, hx234_0, hx234_1⟩ := at_T31 HR0.out x5_1 p234 q234
         obtain rfl : ad232 = ad234 := (by injection e234)
         replace p234 := eq_true p234; replace q234 := eq_true q234; go_wp2; go_ret
         exact ⟨by first | rfl | (simp; done) | (simp [*]; done), by repeat (first | exact Drawn0.refl _ | apply Drawn0.step)⟩
        ·rw [if_neg c8] at H
         have c8b0 : decide (10000000 < ((rd_T31 l0 x5_1).f1)) = false := decide_eq_false c8
         clear c8
         by_cases c9 : ((rd_T31 l0 x5_1).f1) < (-10000000)
         ·rw [if_pos c9] at H
          have c9b0 : decide (((rd_T31 l0 x5_1).f1) < (-10000000)) = true := decide_eq_true c9
          clear c9; obtain rfl := Option.some.inj H
          have p232 : 0 ≤ (x5_1 : Int) := of_decide_eq_true (by first | (with_reducible assumption) | assumption)
          have q232 : x5_1 < (l0.length : Int) := of_decide_eq_true (by first | (with_reducible assumption) | assumption)
          obtain ⟨ad232, e232, hx232_0, hx232_1⟩ := at_T31 HR0.out x5_1 p232 q232
          cases e232; replace p232 := eq_true p232; replace q232 := eq_true q232
          have p233 : 0 ≤ (x5_1 : Int) := of_decide_eq_true (by first | (with_reducible assumption) | assumption)
          have q233 : x5_1 < (l0.length : Int) := of_decide_eq_true (by first | (with_reducible assumption) | assumption)
          obtain ⟨ad233, e233, hx233_0, hx233_1⟩ := at_T31 HR0.out x5_1 p233 q233
          obtain rfl : ad232 = ad233 := (by injection e233)
          replace p233 := eq_true p233; replace q233 := eq_true q233
          have p234 : 0 ≤ (x5_1 : Int) := of_decide_eq_true (by first | (with_reducible assumption) | assumption)
          have q234 : x5_1 < (l0.length : Int) := of_decide_eq_true (by first | (with_reducible assumption) | assumption)
          obtain ⟨ad234, e234, hx234_0, hx234_1⟩ := at_T31 HR0.out x5_1 p234 q234
          obtain rfl : ad232 = ad234 := (by injection e234)
          replace p234 := eq_true p234; replace q234 := eq_true q234
          have p235 : 0 ≤ (x5_1 : Int) := of_decide_eq_true (by first | (with_reducible assumption) | assumption)
          have q235 : x5_1 < (l0.length : Int) := of_decide_eq_true (by first | (with_reducible assumption) | assumption)
          obtain ⟨ad235, e235, hx235_0, hx235_1⟩ := at_T31 HR0.out x5_1 p235 q235
          obtain rfl : ad232 = ad235 := (by injection e235)
          replace p235 := eq_true p235; replace q235 := eq_true q235; go_wp2; go_ret
          exact ⟨by first | rfl | (simp; done) | (simp [*]; done), by repeat (first | exact Drawn0.refl _ | apply Drawn0.step)⟩
         ·rw [if_neg c9] at H
          have c9b0 : decide (((rd_T31 l0 x5_1).f1) < (-10000000)) = false := decide_eq_false c9
          clear c9; have H' := Aside0.mk H; clear H
          have p232 : 0 ≤ (x5_1 : Int) := of_decide_eq_true (by first | (with_reducible assumption) | assumption)
          have q232 : x5_1 < (l0.length : Int) := of_decide_eq_true (by first | (with_reducible assumption) | assumption)
          obtain ⟨ad232, e232, hx232_0, hx232_1⟩ := at_T31 HR0.out x5_1 p232 q232
          cases e232; replace p232 := eq_true p232; replace q232 := eq_true q232
          have p233 : 0 ≤ (x5_1 : Int) := of_decide_eq_true (by first | (with_reducible assumption) | assumption)
          have q233 : x5_1 < (l0.length : Int) := of_decide_eq_true (by first | (with_reducible assumption) | assumption)
          obtain ⟨ad233, e233, hx233_0, hx233_1⟩ := at_T31 HR0.out x5_1 p233 q233
          obtain rfl : ad232 = ad233 := (by injection e233)
          replace p233 := eq_true p233; replace q233 := eq_true q233
          have p234 : 0 ≤ (x5_1 : Int) := of_decide_eq_true (by first | (with_reducible assumption) | assumption)
          have q234 : x5_1 < (l0.length : Int) := of_decide_eq_true (by first | (with_reducible assumption) | assumption)
          obtain ⟨ad234, e234, hx234_0, hx234_1⟩ := at_T31 HR0.out x5_1 p234 q234
          obtain rfl : ad232 = ad234 := (by injection e234)
          replace p234 := eq_true p234; replace q234 := eq_true q234
          have p235 : 0 ≤ (x5_1 : Int) := of_decide_eq_true (by first | (with_reducible assumption) | assumption)
          have q235 : x5_1 < (l0.length : Int) := of_decide_eq_true (by first | (with_reducible assumption) | assumption)
          obtain ⟨ad235, e235, hx235_0, hx235_1⟩ := at_T31 HR0.out x5_1 p235 q235
          obtain rfl : ad232 = ad235 := (by injection e235)
          replace p235 := eq_true p235; replace q235 := eq_true q235; go_wp2
          go_roundg k1
          case measure => have := HK1.out; omega
          case rel => exact ⟨(wrap64 (x5_1 + 1)), (by first | rfl | (simp; done) | (simp [*]; done)), H', ⟨by have := HK1.out; omega⟩, by repeat (first | exact Drawn0.refl _ | apply Drawn0.step)⟩
     ·rw [if_neg c5] at H
      exact absurd H (by simp)
    ·rw [if_neg c4] at H
     have c4b0 : decide (x5_1 < (l0.length : Int)) = false := decide_eq_false c4
     clear c4; obtain rfl := Option.some.inj H; go_wp2; go_ret
     exact ⟨by first | rfl | (simp; done) | (simp [*]; done), by repeat (first | exact Drawn0.refl _ | apply Drawn0.step)⟩

end Go.Proofs.Ytohjocajaanhaaa.P

-- PRINTED by print.py (a twelfth state) out of the translation. Not trusted: Lean checks it.

namespace Go.Proofs.Ytohjocajaanhaaa.P
open Go.RowKit Go.Proofs.YtohjocajaanhaaaW.PrintWords Go.Proofs.YtohjocajaanhaaaW.PrintLast Go.Proofs.YtohjocajaanhaaaW.PrintMore
attribute [local go_sem] max2_int min2_int max_two min_two max_three min_three max_four min_four   -- for this text's walks alone
set_option linter.unusedVariables false
set_option linter.unusedSimpArgs false

/-! ### swarflaw38_right: function 14 -/
def swarflaw38_right.f (k : Nat) (l0 : List (S31)) (a1 : Int) : Option (Bool) := (swarfref38_Valid.f k l0 a1).bind fun t258 => (some (t258 == 0))
theorem swarflaw38_right.mono : ∀ a0 a1 k, LeO (swarflaw38_right.f k a0 a1) (swarflaw38_right.f (k + 1) a0 a1) := by
 intro a0 a1 k
 unfold swarflaw38_right.f
 repeat' first
   | (with_reducible exact swarfref38_Valid.mono _ _ _)
   | (with_reducible exact LeO.refl _)
   | (with_reducible exact LeO.none _)
   | (with_reducible refine LeO.ite ?_ ?_)
   | (with_reducible refine LeO.bind ?_ (fun _ => ?_))
   | exact swarfref38_Valid.mono _ _ _
   | exact LeO.none _
   | refine LeO.ite ?_ ?_
   | refine LeO.bind ?_ (fun _ => ?_)
set_option maxHeartbeats 8000000 in
set_option maxRecDepth 100000 in
theorem swarflaw38_right.calls (k : Nat) (A0 : Option Addr) (c0 : Nat) (l0 : List (S31)) (a1 : Int) (r : Bool) (w : World) (hr0 : Kd.C k31 w A0 l0.length l0) (hc0 : l0.length ≤ c0) (h : swarflaw38_right.f k l0 a1 = some r) :
  Calls Try.prog 14 #[.slice A0 l0.length c0, .int .i64 a1] w fun e w' => e = .returned (.bool r) ∧ Drawn0 w w' := by
 have HR0 := Aside0.mk hr0
 have HC0 := Aside0.mk hc0
 clear hr0 hc0
 have H : ((swarfref38_Valid.f k l0 a1).bind fun t258 => (some (t258 == 0))) = some r := h
 clear h
 replace H := Option.bind_eq_some_iff.mp H
 obtain ⟨t258, A30, H⟩ := H
 replace H : (some (t258 == 0)) = some r := H
 have A3 := Aside0.mk A30
 clear A30
 obtain rfl := Option.some.inj H
 go_enter Try.func14, Try.ntmps14
 go_wp2_with (first | ((with_reducible refine gate_callee (f := 31) rfl ?_); refine goesL_ (some 7) rfl rfl Try.func31 (by kernel_rfl) rfl #[.slice A0 l0.length c0, .int .i64 a1] rfl (by (try simp only [List.map_toArray, List.map_cons, List.map_nil]); first | done | rfl | (simp only [List.length_drop, List.length_take]; rfl)) ?_; (with_reducible refine (swarfref38_Valid.calls k _ _ l0 a1 t258 _ ?side1 ?side2 A3.out).mono ?_); (case side1 => repeat (first | exact HR0.out | (with_reducible refine Kd.C_alloc ?_ _) | (with_reducible refine Kd.C_drewN ?_ _) | (with_reducible refine Kd.C_drew ?_))); (case side2 => exact HC0.out); rintro e w' ⟨rfl, ⟨nd, rfl⟩⟩; refine ⟨_, rfl, ?_⟩))
 go_ret
 exact ⟨by first | rfl | (simp; done) | (simp [*]; done), by repeat (first | exact Drawn0.refl _ | apply Drawn0.step)⟩

end Go.Proofs.Ytohjocajaanhaaa.P

-- PRINTED by print.py (a twelfth state) out of the translation. Not trusted: Lean checks it.

namespace Go.Proofs.Ytohjocajaanhaaa.P
open Go.RowKit Go.Proofs.YtohjocajaanhaaaW.PrintWords Go.Proofs.YtohjocajaanhaaaW.PrintLast Go.Proofs.YtohjocajaanhaaaW.PrintMore
attribute [local go_sem] max2_int min2_int max_two min_two max_three min_three max_four min_four   -- for this text's walks alone
set_option linter.unusedVariables false
set_option linter.unusedSimpArgs false

/-! ### swarfref38_gap: function 34 -/
def swarfref38_gap.f (a0 : Int) (a1 : Int) : Option (Int) := if a0 < a1 then (some (wrap64 (a1 - a0))) else (some (wrap64 (a0 - a1)))
set_option maxHeartbeats 8000000 in
set_option maxRecDepth 100000 in
theorem swarfref38_gap.calls (a0 : Int) (a1 : Int) (r : Int) (w : World) (h : swarfref38_gap.f a0 a1 = some r) :
  Calls Try.prog 34 #[.int .i64 a0, .int .i64 a1] w fun e w' => e = .returned (.int .i64 r) ∧ Drawn0 w w' := by
 have H : (if a0 < a1 then (some (wrap64 (a1 - a0))) else (some (wrap64 (a0 - a1)))) = some r := h
 clear h
 by_cases c3 : a0 < a1
 ·rw [if_pos c3] at H
  have c3b0 : decide (a0 < a1) = true := decide_eq_true c3
  clear c3; obtain rfl := Option.some.inj H
  go_enter Try.func34, Try.ntmps34
  go_wp2; go_ret
  exact ⟨by first | rfl | (simp; done) | (simp [*]; done), by repeat (first | exact Drawn0.refl _ | apply Drawn0.step)⟩
 ·rw [if_neg c3] at H
  have c3b0 : decide (a0 < a1) = false := decide_eq_false c3
  clear c3; obtain rfl := Option.some.inj H
  go_enter Try.func34, Try.ntmps34
  go_wp2; go_ret
  exact ⟨by first | rfl | (simp; done) | (simp [*]; done), by repeat (first | exact Drawn0.refl _ | apply Drawn0.step)⟩

end Go.Proofs.Ytohjocajaanhaaa.P

-- PRINTED by print.py (a twelfth state) out of the translation. Not trusted: Lean checks it.

namespace Go.Proofs.Ytohjocajaanhaaa.P
open Go.RowKit Go.Proofs.YtohjocajaanhaaaW.PrintWords Go.Proofs.YtohjocajaanhaaaW.PrintLast Go.Proofs.YtohjocajaanhaaaW.PrintMore
attribute [local go_sem] max2_int min2_int max_two min_two max_three min_three max_four min_four   -- for this text's walks alone
set_option linter.unusedVariables false
set_option linter.unusedSimpArgs false

/-! ### swarfref38_Distance: function 16 -/
def swarfref38_Distance.f (a0_0 : Int) (a0_1 : Int) (a1_0 : Int) (a1_1 : Int) : Option (Int) := (swarfref38_gap.f a0_0 a1_0).bind fun t248 => ((swarfref38_gap.f a0_1 a1_1).bind fun t249 => (some (mx t248 t249)))
set_option maxHeartbeats 8000000 in
set_option maxRecDepth 100000 in
theorem swarfref38_Distance.calls (a0_0 : Int) (a0_1 : Int) (a1_0 : Int) (a1_1 : Int) (r : Int) (w : World) (h : swarfref38_Distance.f a0_0 a0_1 a1_0 a1_1 = some r) :
  Calls Try.prog 16 #[.agg #[.int .i64 a0_0, .int .i64 a0_1], .agg #[.int .i64 a1_0, .int .i64 a1_1]] w fun e w' => e = .returned (.int .i64 r) ∧ Below w.heap.size w w' := by
 have hu31 := Try.underlying31
 have HB := Aside0.mk (Below.refl w.heap.size w)
 have H : ((swarfref38_gap.f a0_0 a1_0).bind fun t248 => ((swarfref38_gap.f a0_1 a1_1).bind fun t249 => (some (mx t248 t249)))) = some r := h
 clear h
 replace H := Option.bind_eq_some_iff.mp H
 obtain ⟨t248, A30, H⟩ := H
 replace H : ((swarfref38_gap.f a0_1 a1_1).bind fun t249 => (some (mx t248 t249))) = some r := H
 have A3 := Aside0.mk A30
 clear A30
 replace H := Option.bind_eq_some_iff.mp H
 obtain ⟨t249, A40, H⟩ := H
 replace H : (some (mx t248 t249)) = some r := H
 have A4 := Aside0.mk A40
 clear A40
 obtain ⟨ji5, hji5⟩ : ∃ j_ : Int, (mx t248 t249) = j_ := ⟨_, rfl⟩
 replace H : (some ji5) = some r := by first | (rw [hji5] at H; exact H) | (simp only [hji5] at H ⊢; exact H)
 (try rw [hji5] at A3)
 (try rw [hji5] at A4)
 have hji5_ : (if t248 < t249 then t249 else t248) = ji5 := hji5
 obtain rfl := Option.some.inj H
 go_enter Try.func16, Try.ntmps16
 go_wp2_with (first | ((with_reducible refine gate_dst (N := 2) rfl ?_); refine box_event ?hg (N := 2) ?hd (cs := #[.int .i64 a0_0, .int .i64 a0_1]) (t := 31) ?hr ?_; (case hd => rfl); (case hg => rfl); (case hr => first | (go_simp; done) | (go_simp; rfl)); intro gb246 hg w6 hbox hb; have n0_ := Aside0.mk (below_step (by repeat (first | (with_reducible first | exact HB.out | apply below_alloc | apply pw_below_drewN | apply below_drew1) | exact HB.out)) hb); have n1_ := Aside0.mk (hbox); have n2_ := Aside0.mk ((by rw [hg]; exact (below_size (by repeat (first | (with_reducible first | exact HB.out | apply below_alloc | apply pw_below_drewN | apply below_drew1) | exact HB.out))) : w.heap.size ≤ gb246)); have n3_ := Aside0.mk ((by rw [hg]; exact (below_size (by repeat (first | (with_reducible first | exact HB.out | apply below_alloc | apply pw_below_drewN | apply below_drew1) | exact HB.out))) : w.heap.size ≤ gb246)); clear HB; have HB := n0_; have BK246 := n1_; have GW246 := n2_; have GE246 := n3_; clear n0_ n1_ n2_ n3_; clear hb hbox hg) | ((with_reducible refine gate_dst (N := 3) rfl ?_); refine box_event ?hg (N := 3) ?hd (cs := #[.int .i64 a1_0, .int .i64 a1_1]) (t := 31) ?hr ?_; (case hd => rfl); (case hg => rfl); (case hr => first | (go_simp; done) | (go_simp; rfl)); intro gb247 hg w7 hbox hb; have n0_ := Aside0.mk (blk_below (g := gb246) (o := .cells #[.int .i64 a0_0, .int .i64 a0_1] 31 (0, 0)) (by (with_reducible repeat (first | refine blk_drewN ?_ _ | refine blk_drew ?_ | refine blk_alloc ?_ _)); exact BK246.out) hb); have n1_ := Aside0.mk (below_step (by repeat (first | (with_reducible first | exact HB.out | apply below_alloc | apply pw_below_drewN | apply below_drew1 | refine below_set ?_ GE246.out) | exact HB.out)) hb); have n2_ := Aside0.mk (hbox); have n3_ := Aside0.mk ((by rw [hg]; exact (below_size (by repeat (first | (with_reducible first | exact HB.out | apply below_alloc | apply pw_below_drewN | apply below_drew1 | refine below_set ?_ GE246.out) | exact HB.out))) : w.heap.size ≤ gb247)); have n4_ := Aside0.mk ((by rw [hg]; exact (below_size (by repeat (first | (with_reducible first | exact HB.out | apply below_alloc | apply pw_below_drewN | apply below_drew1 | refine below_set ?_ GE246.out) | exact HB.out))) : w.heap.size ≤ gb247)); have n5_ := Aside0.mk ((by rw [hg]; exact Nat.ne_of_lt (blk_lt (g := gb246) (o := .cells #[.int .i64 a0_0, .int .i64 a0_1] 31 (0, 0)) (by (with_reducible repeat (first | refine blk_drewN ?_ _ | refine blk_drew ?_ | refine blk_alloc ?_ _)); exact BK246.out)) : gb246 ≠ gb247)); have n6_ := Aside0.mk ((by rw [hg]; exact Nat.ne_of_gt (blk_lt (g := gb246) (o := .cells #[.int .i64 a0_0, .int .i64 a0_1] 31 (0, 0)) (by (with_reducible repeat (first | refine blk_drewN ?_ _ | refine blk_drew ?_ | refine blk_alloc ?_ _)); exact BK246.out)) : gb247 ≠ gb246)); clear BK246; clear HB; have BK246 := n0_; have HB := n1_; have BK247 := n2_; have GW247 := n3_; have GE247 := n4_; have NB246_247 := n5_; have NB247_246 := n6_; clear n0_ n1_ n2_ n3_ n4_ n5_ n6_; clear hb hbox hg; have hnb8 := NB246_247.out; have hnc8 := NB247_246.out; have hcz9_0 : w7.cell? ⟨gb246, 0, none⟩ = some (.int .i64 a0_0) := (blk_cell BK246.out 0).trans rfl; have hcz9_1 : w7.cell? ⟨gb246, 1, none⟩ = some (.int .i64 a0_1) := (blk_cell BK246.out 1).trans rfl; have hfz9_0 := blk_frozen BK246.out 0; have hfz9_1 := blk_frozen BK246.out 1; have hcz10_0 : w7.cell? ⟨gb247, 0, none⟩ = some (.int .i64 a1_0) := (blk_cell BK247.out 0).trans rfl; have hcz10_1 : w7.cell? ⟨gb247, 1, none⟩ = some (.int .i64 a1_1) := (blk_cell BK247.out 1).trans rfl; have hfz10_0 := blk_frozen BK247.out 0; have hfz10_1 := blk_frozen BK247.out 1) | (go_at_call 34; (with_reducible refine (swarfref38_gap.calls a0_0 a1_0 t248 _ A3.out).mono ?_); rintro e w' ⟨rfl, ⟨nd, rfl⟩⟩; (try first | exact ⟨rfl, _, World.drewN_drewN _ _ _⟩ | exact ⟨rfl, _, Eq.trans (World.drewN_drewN _ _ _) (congrArg (World.drewN _) (Nat.add_assoc _ _ _))⟩)) | (go_at_call 34; (with_reducible refine (swarfref38_gap.calls a0_1 a1_1 t249 _ A4.out).mono ?_); rintro e w' ⟨rfl, ⟨nd, rfl⟩⟩; (try first | exact ⟨rfl, _, World.drewN_drewN _ _ _⟩ | exact ⟨rfl, _, Eq.trans (World.drewN_drewN _ _ _) (congrArg (World.drewN _) (Nat.add_assoc _ _ _))⟩)))
 repeat (go_quiet (first | ((with_reducible refine gate_dst (N := 2) rfl ?_); refine box_event ?hg (N := 2) ?hd (cs := #[.int .i64 a0_0, .int .i64 a0_1]) (t := 31) ?hr ?_; (case hd => rfl); (case hg => rfl); (case hr => first | (go_simp; done) | (go_simp; rfl)); intro gb246 hg w6 hbox hb; have n0_ := Aside0.mk (below_step (by repeat (first | (with_reducible first | exact HB.out | apply below_alloc | apply pw_below_drewN | apply below_drew1) | exact HB.out)) hb); have n1_ := Aside0.mk (hbox); have n2_ := Aside0.mk ((by rw [hg]; exact (below_size (by repeat (first | (with_reducible first | exact HB.out | apply below_alloc | apply pw_below_drewN | apply below_drew1) | exact HB.out))) : w.heap.size ≤ gb246)); have n3_ := Aside0.mk ((by rw [hg]; exact (below_size (by repeat (first | (with_reducible first | exact HB.out | apply below_alloc | apply pw_below_drewN | apply below_drew1) | exact HB.out))) : w.heap.size ≤ gb246)); clear HB; have HB := n0_; have BK246 := n1_; have GW246 := n2_; have GE246 := n3_; clear n0_ n1_ n2_ n3_; clear hb hbox hg) | ((with_reducible refine gate_dst (N := 3) rfl ?_); refine box_event ?hg (N := 3) ?hd (cs := #[.int .i64 a1_0, .int .i64 a1_1]) (t := 31) ?hr ?_; (case hd => rfl); (case hg => rfl); (case hr => first | (go_simp; done) | (go_simp; rfl)); intro gb247 hg w7 hbox hb; have n0_ := Aside0.mk (blk_below (g := gb246) (o := .cells #[.int .i64 a0_0, .int .i64 a0_1] 31 (0, 0)) (by (with_reducible repeat (first | refine blk_drewN ?_ _ | refine blk_drew ?_ | refine blk_alloc ?_ _)); exact BK246.out) hb); have n1_ := Aside0.mk (below_step (by repeat (first | (with_reducible first | exact HB.out | apply below_alloc | apply pw_below_drewN | apply below_drew1 | refine below_set ?_ GE246.out) | exact HB.out)) hb); have n2_ := Aside0.mk (hbox); have n3_ := Aside0.mk ((by rw [hg]; exact (below_size (by repeat (first | (with_reducible first | exact HB.out | apply below_alloc | apply pw_below_drewN | apply below_drew1 | refine below_set ?_ GE246.out) | exact HB.out))) : w.heap.size ≤ gb247)); have n4_ := Aside0.mk ((by rw [hg]; exact (below_size (by repeat (first | (with_reducible first | exact HB.out | apply below_alloc | apply pw_below_drewN | apply below_drew1 | refine below_set ?_ GE246.out) | exact HB.out))) : w.heap.size ≤ gb247)); have n5_ := Aside0.mk ((by rw [hg]; exact Nat.ne_of_lt (blk_lt (g := gb246) (o := .cells #[.int .i64 a0_0, .int .i64 a0_1] 31 (0, 0)) (by (with_reducible repeat (first | refine blk_drewN ?_ _ | refine blk_drew ?_ | refine blk_alloc ?_ _)); exact BK246.out)) : gb246 ≠ gb247)); have n6_ := Aside0.mk ((by rw [hg]; exact Nat.ne_of_gt (blk_lt (g := gb246) (o := .cells #[.int .i64 a0_0, .int .i64 a0_1] 31 (0, 0)) (by (with_reducible repeat (first | refine blk_drewN ?_ _ | refine blk_drew ?_ | refine blk_alloc ?_ _)); exact BK246.out)) : gb247 ≠ gb246)); clear BK246; clear HB; have BK246 := n0_; have HB := n1_; have BK247 := n2_; have GW247 := n3_; have GE247 := n4_; have NB246_247 := n5_; have NB247_246 := n6_; clear n0_ n1_ n2_ n3_ n4_ n5_ n6_; clear hb hbox hg; have hnb8 := NB246_247.out; have hnc8 := NB247_246.out; have hcz9_0 : w7.cell? ⟨gb246, 0, none⟩ = some (.int .i64 a0_0) := (blk_cell BK246.out 0).trans rfl; have hcz9_1 : w7.cell? ⟨gb246, 1, none⟩ = some (.int .i64 a0_1) := (blk_cell BK246.out 1).trans rfl; have hfz9_0 := blk_frozen BK246.out 0; have hfz9_1 := blk_frozen BK246.out 1; have hcz10_0 : w7.cell? ⟨gb247, 0, none⟩ = some (.int .i64 a1_0) := (blk_cell BK247.out 0).trans rfl; have hcz10_1 : w7.cell? ⟨gb247, 1, none⟩ = some (.int .i64 a1_1) := (blk_cell BK247.out 1).trans rfl; have hfz10_0 := blk_frozen BK247.out 0; have hfz10_1 := blk_frozen BK247.out 1) | (go_at_call 34; (with_reducible refine (swarfref38_gap.calls a0_0 a1_0 t248 _ A3.out).mono ?_); rintro e w' ⟨rfl, ⟨nd, rfl⟩⟩; (try first | exact ⟨rfl, _, World.drewN_drewN _ _ _⟩ | exact ⟨rfl, _, Eq.trans (World.drewN_drewN _ _ _) (congrArg (World.drewN _) (Nat.add_assoc _ _ _))⟩)) | (go_at_call 34; (with_reducible refine (swarfref38_gap.calls a0_1 a1_1 t249 _ A4.out).mono ?_); rintro e w' ⟨rfl, ⟨nd, rfl⟩⟩; (try first | exact ⟨rfl, _, World.drewN_drewN _ _ _⟩ | exact ⟨rfl, _, Eq.trans (World.drewN_drewN _ _ _) (congrArg (World.drewN _) (Nat.add_assoc _ _ _))⟩))); try go_wp2_with (first | ((with_reducible refine gate_dst (N := 2) rfl ?_); refine box_event ?hg (N := 2) ?hd (cs := #[.int .i64 a0_0, .int .i64 a0_1]) (t := 31) ?hr ?_; (case hd => rfl); (case hg => rfl); (case hr => first | (go_simp; done) | (go_simp; rfl)); intro gb246 hg w6 hbox hb; have n0_ := Aside0.mk (below_step (by repeat (first | (with_reducible first | exact HB.out | apply below_alloc | apply pw_below_drewN | apply below_drew1) | exact HB.out)) hb); have n1_ := Aside0.mk (hbox); have n2_ := Aside0.mk ((by rw [hg]; exact (below_size (by repeat (first | (with_reducible first | exact HB.out | apply below_alloc | apply pw_below_drewN | apply below_drew1) | exact HB.out))) : w.heap.size ≤ gb246)); have n3_ := Aside0.mk ((by rw [hg]; exact (below_size (by repeat (first | (with_reducible first | exact HB.out | apply below_alloc | apply pw_below_drewN | apply below_drew1) | exact HB.out))) : w.heap.size ≤ gb246)); clear HB; have HB := n0_; have BK246 := n1_; have GW246 := n2_; have GE246 := n3_; clear n0_ n1_ n2_ n3_; clear hb hbox hg) | ((with_reducible refine gate_dst (N := 3) rfl ?_); refine box_event ?hg (N := 3) ?hd (cs := #[.int .i64 a1_0, .int .i64 a1_1]) (t := 31) ?hr ?_; (case hd => rfl); (case hg => rfl); (case hr => first | (go_simp; done) | (go_simp; rfl)); intro gb247 hg w7 hbox hb; have n0_ := Aside0.mk (blk_below (g := gb246) (o := .cells #[.int .i64 a0_0, .int .i64 a0_1] 31 (0, 0)) (by (with_reducible repeat (first | refine blk_drewN ?_ _ | refine blk_drew ?_ | refine blk_alloc ?_ _)); exact BK246.out) hb); have n1_ := Aside0.mk (below_step (by repeat (first | (with_reducible first | exact HB.out | apply below_alloc | apply pw_below_drewN | apply below_drew1 | refine below_set ?_ GE246.out) | exact HB.out)) hb); have n2_ := Aside0.mk (hbox); have n3_ := Aside0.mk ((by rw [hg]; exact (below_size (by repeat (first | (with_reducible first | exact HB.out | apply below_alloc | apply pw_below_drewN | apply below_drew1 | refine below_set ?_ GE246.out) | exact HB.out))) : w.heap.size ≤ gb247)); have n4_ := Aside0.mk ((by rw [hg]; exact (below_size (by repeat (first | (with_reducible first | exact HB.out | apply below_alloc | apply pw_below_drewN | apply below_drew1 | refine below_set ?_ GE246.out) | exact HB.out))) : w.heap.size ≤ gb247)); have n5_ := Aside0.mk ((by rw [hg]; exact Nat.ne_of_lt (blk_lt (g := gb246) (o := .cells #[.int .i64 a0_0, .int .i64 a0_1] 31 (0, 0)) (by (with_reducible repeat (first | refine blk_drewN ?_ _ | refine blk_drew ?_ | refine blk_alloc ?_ _)); exact BK246.out)) : gb246 ≠ gb247)); have n6_ := Aside0.mk ((by rw [hg]; exact Nat.ne_of_gt (blk_lt (g := gb246) (o := .cells #[.int .i64 a0_0, .int .i64 a0_1] 31 (0, 0)) (by (with_reducible repeat (first | refine blk_drewN ?_ _ | refine blk_drew ?_ | refine blk_alloc ?_ _)); exact BK246.out)) : gb247 ≠ gb246)); clear BK246; clear HB; have BK246 := n0_; have HB := n1_; have BK247 := n2_; have GW247 := n3_; have GE247 := n4_; have NB246_247 := n5_; have NB247_246 := n6_; clear n0_ n1_ n2_ n3_ n4_ n5_ n6_; clear hb hbox hg; have hnb8 := NB246_247.out; have hnc8 := NB247_246.out; have hcz9_0 : w7.cell? ⟨gb246, 0, none⟩ = some (.int .i64 a0_0) := (blk_cell BK246.out 0).trans rfl; have hcz9_1 : w7.cell? ⟨gb246, 1, none⟩ = some (.int .i64 a0_1) := (blk_cell BK246.out 1).trans rfl; have hfz9_0 := blk_frozen BK246.out 0; have hfz9_1 := blk_frozen BK246.out 1; have hcz10_0 : w7.cell? ⟨gb247, 0, none⟩ = some (.int .i64 a1_0) := (blk_cell BK247.out 0).trans rfl; have hcz10_1 : w7.cell? ⟨gb247, 1, none⟩ = some (.int .i64 a1_1) := (blk_cell BK247.out 1).trans rfl; have hfz10_0 := blk_frozen BK247.out 0; have hfz10_1 := blk_frozen BK247.out 1) | (go_at_call 34; (with_reducible refine (swarfref38_gap.calls a0_0 a1_0 t248 _ A3.out).mono ?_); rintro e w' ⟨rfl, ⟨nd, rfl⟩⟩; (try first | exact ⟨rfl, _, World.drewN_drewN _ _ _⟩ | exact ⟨rfl, _, Eq.trans (World.drewN_drewN _ _ _) (congrArg (World.drewN _) (Nat.add_assoc _ _ _))⟩)) | (go_at_call 34; (with_reducible refine (swarfref38_gap.calls a0_1 a1_1 t249 _ A4.out).mono ?_); rintro e w' ⟨rfl, ⟨nd, rfl⟩⟩; (try first | exact ⟨rfl, _, World.drewN_drewN _ _ _⟩ | exact ⟨rfl, _, Eq.trans (World.drewN_drewN _ _ _) (congrArg (World.drewN _) (Nat.add_assoc _ _ _))⟩))))
 go_ret
 exact ⟨by first | rfl | (simp [errW_none, errW_some] <;> rfl) | (simp only [← hji5]; first | rfl | (simp [errW_none, errW_some] <;> rfl)) | (simp [*, errW_none, errW_some] <;> rfl), by repeat (first | (with_reducible first | exact HB.out | apply below_alloc | apply pw_below_drewN | apply below_drew1 | refine below_set ?_ GE246.out | refine below_set ?_ GE247.out) | exact HB.out)⟩

end Go.Proofs.Ytohjocajaanhaaa.P

-- PRINTED by print.py (a twelfth state) out of the translation. Not trusted: Lean checks it.

namespace Go.Proofs.Ytohjocajaanhaaa.P
open Go.RowKit Go.Proofs.YtohjocajaanhaaaW.PrintWords Go.Proofs.YtohjocajaanhaaaW.PrintLast Go.Proofs.YtohjocajaanhaaaW.PrintMore
attribute [local go_sem] max2_int min2_int max_two min_two max_three min_three max_four min_four   -- for this text's walks alone
set_option linter.unusedVariables false
set_option linter.unusedSimpArgs false

/-! ### swarfref38_has: function 35 -/
def swarfref38_has.l0 : Nat → List Int → Int → Int → Option (Bool)
 | 0, _, _, _ => none
 | k + 1, x0, x1, x5 => if x5 < (x0.length : Int) then (if 0 ≤ x5 then (if (rd x0 x5) = x1 then (some true) else (swarfref38_has.l0 k x0 x1 (wrap64 (x5 + 1)))) else (none)) else (some false)
def swarfref38_has.f (k : Nat) (l0 : List Int) (a1 : Int) : Option (Bool) := swarfref38_has.l0 k l0 a1 0
theorem swarfref38_has.mono_l : ∀ k, (∀ y0 y1 y2, LeO (swarfref38_has.l0 k y0 y1 y2) (swarfref38_has.l0 (k + 1) y0 y1 y2))
 | 0 => fun _ _ _ r h => by simp [swarfref38_has.l0] at h
 | k + 1 => by
  have ih0 := swarfref38_has.mono_l k
  ·intro y0 y1 y2
   unfold swarfref38_has.l0
   repeat' first
   | (with_reducible exact ih0 _ _ _)
   | (with_reducible exact LeO.refl _)
   | (with_reducible exact LeO.none _)
   | (with_reducible refine LeO.ite ?_ ?_)
   | (with_reducible refine LeO.bind ?_ (fun _ => ?_))
   | exact ih0 _ _ _
   | exact LeO.none _
   | refine LeO.ite ?_ ?_
   | refine LeO.bind ?_ (fun _ => ?_)
theorem swarfref38_has.mono : ∀ a0 a1 k, LeO (swarfref38_has.f k a0 a1) (swarfref38_has.f (k + 1) a0 a1) := by
 intro a0 a1 k
 have ih0 := swarfref38_has.mono_l k
 unfold swarfref38_has.f
 repeat' first
   | (with_reducible exact ih0 _ _ _)
   | (with_reducible exact LeO.refl _)
   | (with_reducible exact LeO.none _)
   | (with_reducible refine LeO.ite ?_ ?_)
   | (with_reducible refine LeO.bind ?_ (fun _ => ?_))
   | exact ih0 _ _ _
   | exact LeO.none _
   | refine LeO.ite ?_ ?_
   | refine LeO.bind ?_ (fun _ => ?_)
set_option maxHeartbeats 8000000 in
set_option maxRecDepth 100000 in
theorem swarfref38_has.calls (k : Nat) (A0 : Option Addr) (c0 : Nat) (l0 : List Int) (a1 : Int) (r : Bool) (w : World) (hr0 : Kd.C (Kd.int .i64) w A0 l0.length l0) (hc0 : l0.length ≤ c0) (h : swarfref38_has.f k l0 a1 = some r) :
  Calls Try.prog 35 #[.slice A0 l0.length c0, .int .i64 a1] w fun e w' => e = .returned (.bool r) ∧ Drawn0 w w' := by
 have HR0 := Aside0.mk hr0
 have HC0 := Aside0.mk hc0
 clear hr0 hc0
 have H : (swarfref38_has.l0 k l0 a1 0) = some r := h
 clear h
 have H' := Aside0.mk H
 clear H
 go_enter Try.func35, Try.ntmps35
 go_wp2
 go_loopg [5] k (fun kq v5 w' => ∃ (x5_1 : Int), v5 = .int .i64 x5_1 ∧ Aside0 (swarfref38_has.l0 kq l0 a1 x5_1 = some r) ∧ Aside0 (kq ≤ k) ∧ Drawn0 w w')
 case atStart => exact ⟨(0), (by first | rfl | (simp; done) | (simp [*]; done)), H', ⟨Nat.le_refl _⟩, by repeat (first | exact Drawn0.refl _ | apply Drawn0.step)⟩
 case round =>
  clear H'; try clear p2
  obtain ⟨x5_1, rfl, HA, HK1, ⟨m1, rfl⟩⟩ := hrel
  cases gk with
  | zero => exact absurd HA.out (by simp [swarfref38_has.l0])
  | succ k1 =>
   have H := HA.out
   clear HA
   simp only [swarfref38_has.l0] at H
   by_cases c3 : x5_1 < (l0.length : Int)
   ·rw [if_pos c3] at H
    have c3b0 : decide (x5_1 < (l0.length : Int)) = true := decide_eq_true c3
    clear c3
    by_cases c4 : 0 ≤ x5_1
    ·rw [if_pos c4] at H
     have c4b0 : decide (0 ≤ x5_1) = true := decide_eq_true c4
     clear c4
     by_cases c5 : (rd l0 x5_1) = a1
     ·rw [if_pos c5] at H
      have c5b0 : ((rd l0 x5_1) == a1) = true := beq_iff_eq.mpr c5
      have c5b1 : ((rd l0 x5_1) != a1) = false := bne_eq_false_iff_eq.mpr c5
      clear c5; obtain rfl := Option.some.inj H
      have p273 : 0 ≤ (x5_1 : Int) := of_decide_eq_true (by first | (with_reducible assumption) | assumption)
      have q273 : x5_1 < (l0.length : Int) := of_decide_eq_true (by first | (with_reducible assumption) | assumption)
      obtain ⟨ad273, e273, hx273_0⟩ := Kd.at_int HR0.out x5_1 p273 q273
      cases e273; replace p273 := eq_true p273; replace q273 := eq_true q273; go_wp2; go_ret
      exact ⟨by first | rfl | (simp; done) | (simp [*]; done), by repeat (first | exact Drawn0.refl _ | apply Drawn0.step)⟩
     ·rw [if_neg c5] at H
      have c5b0 : ((rd l0 x5_1) == a1) = false := beq_eq_false_iff_ne.mpr c5
      have c5b1 : ((rd l0 x5_1) != a1) = true := bne_iff_ne.mpr c5
      have H' := Aside0.mk H; clear H
      have p273 : 0 ≤ (x5_1 : Int) := of_decide_eq_true (by first | (with_reducible assumption) | assumption)
      have q273 : x5_1 < (l0.length : Int) := of_decide_eq_true (by first | (with_reducible assumption) | assumption)
      obtain ⟨ad273, e273, hx273_0⟩ := Kd.at_int HR0.out x5_1 p273 q273
      cases e273; replace p273 := eq_true p273; replace q273 := eq_true q273; go_wp2
      go_roundg k1
      case measure => have := HK1.out; omega
      case rel => exact ⟨(wrap64 (x5_1 + 1)), (by first | rfl | (simp; done) | (simp [*]; done)), H', ⟨by have := HK1.out; omega⟩, by repeat (first | exact Drawn0.refl _ | apply Drawn0.step)⟩
    ·rw [if_neg c4] at H
     exact absurd H (by simp)
   ·rw [if_neg c3] at H
    have c3b0 : decide (x5_1 < (l0.length : Int)) = false := decide_eq_false c3
    clear c3; obtain rfl := Option.some.inj H; go_wp2; go_ret
    exact ⟨by first | rfl | (simp; done) | (simp [*]; done), by repeat (first | exact Drawn0.refl _ | apply Drawn0.step)⟩

end Go.Proofs.Ytohjocajaanhaaa.P
