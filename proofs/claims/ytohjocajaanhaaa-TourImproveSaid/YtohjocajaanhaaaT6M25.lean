import Derived.Test.YtohjocajaanhaaaT6M21
import Derived.Test.YtohjocajaanhaaaT6M22
import Derived.Test.YtohjocajaanhaaaT6M24
-- PRINTED by print.py (a twelfth state) out of the translation. Not trusted: Lean checks it.

namespace Go.Proofs.Ytohjocajaanhaaa.P
open Go.RowKit Go.Proofs.YtohjocajaanhaaaW.PrintWords Go.Proofs.YtohjocajaanhaaaW.PrintLast Go.Proofs.YtohjocajaanhaaaW.PrintMore
attribute [local go_sem] max2_int min2_int max_two min_two max_three min_three max_four min_four   -- for this text's walks alone
set_option linter.unusedVariables false
set_option linter.unusedSimpArgs false

/-! ### swarflaw38_awake: function 10 -/
def swarflaw38_awake.f (k : Nat)  : Option (Bool) := (some (([(⟨0, 0⟩ : S31), (⟨10, 0⟩ : S31), (⟨1, 0⟩ : S31), (⟨5, 5⟩ : S31)] : List (S31)) : List (S31))).bind fun y198 => ((tour_Length.f k y198 (([0, 2, 3, 1] : List Int))).bind fun bt204 => ((some (([(⟨0, 0⟩ : S31), (⟨4, 0⟩ : S31), (⟨(-4), 0⟩ : S31)] : List (S31)) : List (S31))).bind fun y206 => ((tour_Exact.f k y206).bind fun bt209 => ((tour_Bound.f k y206 (([4, 0, 0] : List Int))).bind fun bt217 => ((tour_Nearest.f k y198).bind fun t219 => ((swarfref38_Same.f k t219 (([0, 2, 3, 1] : List Int))).bind fun t225 => (if t225 = true then (if bt204.2 = 0 then (if bt204.1 = 11 then ((tour_Tree.f k y198).bind fun t226 => (if t226 = 11 then ((tour_Tree.f k y206).bind fun t227 => (if t227 = 8 then (if bt209.2.2 = 0 then (if bt209.2.1 = 12 then ((swarfref38_Same.f k bt209.1 (([0, 1, 2] : List Int))).bind fun t231 => (if t231 = true then (if bt217.2 = 0 then (some (bt217.1 == 12)) else (some false)) else (some false))) else (some false)) else (some false)) else (some false))) else (some false))) else (some false)) else (some false)) else (some false))))))))
theorem swarflaw38_awake.mono : ∀ k, LeO (swarflaw38_awake.f k ) (swarflaw38_awake.f (k + 1) ) := by
 intro  k
 unfold swarflaw38_awake.f
 repeat' first
   | (with_reducible exact swarfref38_Same.mono _ _ _)
   | (with_reducible exact tour_Bound.mono _ _ _)
   | (with_reducible exact tour_Exact.mono _ _)
   | (with_reducible exact tour_Length.mono _ _ _)
   | (with_reducible exact tour_Nearest.mono _ _)
   | (with_reducible exact tour_Tree.mono _ _)
   | (with_reducible exact LeO.refl _)
   | (with_reducible exact LeO.none _)
   | (with_reducible refine LeO.ite ?_ ?_)
   | (with_reducible refine LeO.bind ?_ (fun _ => ?_))
   | exact swarfref38_Same.mono _ _ _
   | exact tour_Bound.mono _ _ _
   | exact tour_Exact.mono _ _
   | exact tour_Length.mono _ _ _
   | exact tour_Nearest.mono _ _
   | exact tour_Tree.mono _ _
   | exact LeO.none _
   | refine LeO.ite ?_ ?_
   | refine LeO.bind ?_ (fun _ => ?_)
theorem swarflaw38_awake.small : swarflaw38_awake.f 60 = some true := by decide +kernel
set_option maxHeartbeats 8000000 in
set_option maxRecDepth 100000 in
theorem swarflaw38_awake.calls (k : Nat)  (r : Bool) (w : World) (h : swarflaw38_awake.f k  = some r) :
  Calls Try.prog 10 #[] w fun e w' => e = .returned (.bool r) ∧ Below w.heap.size w w' := by
 have HRT := Aside0.mk (show r = true from by
  have e1 := at_rounds (fun k => swarflaw38_awake.mono k) (Nat.le_max_right k 60) swarflaw38_awake.small
  have e2 := at_rounds (fun k => swarflaw38_awake.mono k) (Nat.le_max_left k 60) h
  rw [e2] at e1
  exact Option.some.inj e1)
 have hu31 := Try.underlying31
 have HB := Aside0.mk (Below.refl w.heap.size w)
 have H : ((some (([(⟨0, 0⟩ : S31), (⟨10, 0⟩ : S31), (⟨1, 0⟩ : S31), (⟨5, 5⟩ : S31)] : List (S31)) : List (S31))).bind fun y198 => ((tour_Length.f k y198 (([0, 2, 3, 1] : List Int))).bind fun bt204 => ((some (([(⟨0, 0⟩ : S31), (⟨4, 0⟩ : S31), (⟨(-4), 0⟩ : S31)] : List (S31)) : List (S31))).bind fun y206 => ((tour_Exact.f k y206).bind fun bt209 => ((tour_Bound.f k y206 (([4, 0, 0] : List Int))).bind fun bt217 => ((tour_Nearest.f k y198).bind fun t219 => ((swarfref38_Same.f k t219 (([0, 2, 3, 1] : List Int))).bind fun t225 => (if t225 = true then (if bt204.2 = 0 then (if bt204.1 = 11 then ((tour_Tree.f k y198).bind fun t226 => (if t226 = 11 then ((tour_Tree.f k y206).bind fun t227 => (if t227 = 8 then (if bt209.2.2 = 0 then (if bt209.2.1 = 12 then ((swarfref38_Same.f k bt209.1 (([0, 1, 2] : List Int))).bind fun t231 => (if t231 = true then (if bt217.2 = 0 then (some (bt217.1 == 12)) else (some false)) else (some false))) else (some false)) else (some false)) else (some false))) else (some false))) else (some false)) else (some false)) else (some false))))))))) = some r := h
 clear h
 obtain ⟨y198, hy198⟩ : ∃ y_ : List (S31), y_ = (([(⟨0, 0⟩ : S31), (⟨10, 0⟩ : S31), (⟨1, 0⟩ : S31), (⟨5, 5⟩ : S31)] : List (S31))) := ⟨_, rfl⟩
 replace H : ((tour_Length.f k y198 (([0, 2, 3, 1] : List Int))).bind fun bt204 => ((some (([(⟨0, 0⟩ : S31), (⟨4, 0⟩ : S31), (⟨(-4), 0⟩ : S31)] : List (S31)) : List (S31))).bind fun y206 => ((tour_Exact.f k y206).bind fun bt209 => ((tour_Bound.f k y206 (([4, 0, 0] : List Int))).bind fun bt217 => ((tour_Nearest.f k y198).bind fun t219 => ((swarfref38_Same.f k t219 (([0, 2, 3, 1] : List Int))).bind fun t225 => (if t225 = true then (if bt204.2 = 0 then (if bt204.1 = 11 then ((tour_Tree.f k y198).bind fun t226 => (if t226 = 11 then ((tour_Tree.f k y206).bind fun t227 => (if t227 = 8 then (if bt209.2.2 = 0 then (if bt209.2.1 = 12 then ((swarfref38_Same.f k bt209.1 (([0, 1, 2] : List Int))).bind fun t231 => (if t231 = true then (if bt217.2 = 0 then (some (bt217.1 == 12)) else (some false)) else (some false))) else (some false)) else (some false)) else (some false))) else (some false))) else (some false)) else (some false)) else (some false)))))))) = some r := by first | (rw [hy198]; with_reducible exact H) | (have H2_ := (Option.bind_some _ _).symm.trans H; rw [hy198]; with_reducible exact H2_) | (have H2_ := (Option.bind_some _ _).symm.trans H; with_reducible exact H2_) | with_reducible exact H | (rw [hy198]; exact H) | exact H
 have Ny198 := Aside0.mk hy198
 clear hy198
 obtain ⟨y201, hy201⟩ : ∃ y_ : List Int, y_ = (([0, 2, 3, 1] : List Int)) := ⟨_, rfl⟩
 replace H : ((tour_Length.f k y198 y201).bind fun bt204 => ((some (([(⟨0, 0⟩ : S31), (⟨4, 0⟩ : S31), (⟨(-4), 0⟩ : S31)] : List (S31)) : List (S31))).bind fun y206 => ((tour_Exact.f k y206).bind fun bt209 => ((tour_Bound.f k y206 (([4, 0, 0] : List Int))).bind fun bt217 => ((tour_Nearest.f k y198).bind fun t219 => ((swarfref38_Same.f k t219 (([0, 2, 3, 1] : List Int))).bind fun t225 => (if t225 = true then (if bt204.2 = 0 then (if bt204.1 = 11 then ((tour_Tree.f k y198).bind fun t226 => (if t226 = 11 then ((tour_Tree.f k y206).bind fun t227 => (if t227 = 8 then (if bt209.2.2 = 0 then (if bt209.2.1 = 12 then ((swarfref38_Same.f k bt209.1 (([0, 1, 2] : List Int))).bind fun t231 => (if t231 = true then (if bt217.2 = 0 then (some (bt217.1 == 12)) else (some false)) else (some false))) else (some false)) else (some false)) else (some false))) else (some false))) else (some false)) else (some false)) else (some false)))))))) = some r := by first | (rw [hy201]; with_reducible exact H) | (have H2_ := (Option.bind_some _ _).symm.trans H; rw [hy201]; with_reducible exact H2_) | (have H2_ := (Option.bind_some _ _).symm.trans H; with_reducible exact H2_) | with_reducible exact H | (rw [hy201]; exact H) | exact H
 have Ny201 := Aside0.mk hy201
 clear hy201
 replace H := Option.bind_eq_some_iff.mp H
 obtain ⟨⟨t204, t205⟩, A10, H⟩ := H
 replace H : ((some (([(⟨0, 0⟩ : S31), (⟨4, 0⟩ : S31), (⟨(-4), 0⟩ : S31)] : List (S31)) : List (S31))).bind fun y206 => ((tour_Exact.f k y206).bind fun bt209 => ((tour_Bound.f k y206 (([4, 0, 0] : List Int))).bind fun bt217 => ((tour_Nearest.f k y198).bind fun t219 => ((swarfref38_Same.f k t219 (([0, 2, 3, 1] : List Int))).bind fun t225 => (if t225 = true then (if t205 = 0 then (if t204 = 11 then ((tour_Tree.f k y198).bind fun t226 => (if t226 = 11 then ((tour_Tree.f k y206).bind fun t227 => (if t227 = 8 then (if bt209.2.2 = 0 then (if bt209.2.1 = 12 then ((swarfref38_Same.f k bt209.1 (([0, 1, 2] : List Int))).bind fun t231 => (if t231 = true then (if bt217.2 = 0 then (some (bt217.1 == 12)) else (some false)) else (some false))) else (some false)) else (some false)) else (some false))) else (some false))) else (some false)) else (some false)) else (some false))))))) = some r := H
 have A1 := Aside0.mk A10
 clear A10
 obtain ⟨y206, hy206⟩ : ∃ y_ : List (S31), y_ = (([(⟨0, 0⟩ : S31), (⟨4, 0⟩ : S31), (⟨(-4), 0⟩ : S31)] : List (S31))) := ⟨_, rfl⟩
 replace H : ((tour_Exact.f k y206).bind fun bt209 => ((tour_Bound.f k y206 (([4, 0, 0] : List Int))).bind fun bt217 => ((tour_Nearest.f k y198).bind fun t219 => ((swarfref38_Same.f k t219 (([0, 2, 3, 1] : List Int))).bind fun t225 => (if t225 = true then (if t205 = 0 then (if t204 = 11 then ((tour_Tree.f k y198).bind fun t226 => (if t226 = 11 then ((tour_Tree.f k y206).bind fun t227 => (if t227 = 8 then (if bt209.2.2 = 0 then (if bt209.2.1 = 12 then ((swarfref38_Same.f k bt209.1 (([0, 1, 2] : List Int))).bind fun t231 => (if t231 = true then (if bt217.2 = 0 then (some (bt217.1 == 12)) else (some false)) else (some false))) else (some false)) else (some false)) else (some false))) else (some false))) else (some false)) else (some false)) else (some false)))))) = some r := by first | (rw [hy206]; with_reducible exact H) | (have H2_ := (Option.bind_some _ _).symm.trans H; rw [hy206]; with_reducible exact H2_) | (have H2_ := (Option.bind_some _ _).symm.trans H; with_reducible exact H2_) | with_reducible exact H | (rw [hy206]; exact H) | exact H
 have Ny206 := Aside0.mk hy206
 clear hy206
 replace H := Option.bind_eq_some_iff.mp H
 obtain ⟨⟨t209, t210, t211⟩, A20, H⟩ := H
 replace H : ((tour_Bound.f k y206 (([4, 0, 0] : List Int))).bind fun bt217 => ((tour_Nearest.f k y198).bind fun t219 => ((swarfref38_Same.f k t219 (([0, 2, 3, 1] : List Int))).bind fun t225 => (if t225 = true then (if t205 = 0 then (if t204 = 11 then ((tour_Tree.f k y198).bind fun t226 => (if t226 = 11 then ((tour_Tree.f k y206).bind fun t227 => (if t227 = 8 then (if t211 = 0 then (if t210 = 12 then ((swarfref38_Same.f k t209 (([0, 1, 2] : List Int))).bind fun t231 => (if t231 = true then (if bt217.2 = 0 then (some (bt217.1 == 12)) else (some false)) else (some false))) else (some false)) else (some false)) else (some false))) else (some false))) else (some false)) else (some false)) else (some false))))) = some r := H
 have A2 := Aside0.mk A20
 clear A20
 obtain ⟨y214, hy214⟩ : ∃ y_ : List Int, y_ = (([4, 0, 0] : List Int)) := ⟨_, rfl⟩
 replace H : ((tour_Bound.f k y206 y214).bind fun bt217 => ((tour_Nearest.f k y198).bind fun t219 => ((swarfref38_Same.f k t219 (([0, 2, 3, 1] : List Int))).bind fun t225 => (if t225 = true then (if t205 = 0 then (if t204 = 11 then ((tour_Tree.f k y198).bind fun t226 => (if t226 = 11 then ((tour_Tree.f k y206).bind fun t227 => (if t227 = 8 then (if t211 = 0 then (if t210 = 12 then ((swarfref38_Same.f k t209 (([0, 1, 2] : List Int))).bind fun t231 => (if t231 = true then (if bt217.2 = 0 then (some (bt217.1 == 12)) else (some false)) else (some false))) else (some false)) else (some false)) else (some false))) else (some false))) else (some false)) else (some false)) else (some false))))) = some r := by first | (rw [hy214]; with_reducible exact H) | (have H2_ := (Option.bind_some _ _).symm.trans H; rw [hy214]; with_reducible exact H2_) | (have H2_ := (Option.bind_some _ _).symm.trans H; with_reducible exact H2_) | with_reducible exact H | (rw [hy214]; exact H) | exact H
 have Ny214 := Aside0.mk hy214
 clear hy214
 replace H := Option.bind_eq_some_iff.mp H
 obtain ⟨⟨t217, t218⟩, A30, H⟩ := H
 replace H : ((tour_Nearest.f k y198).bind fun t219 => ((swarfref38_Same.f k t219 (([0, 2, 3, 1] : List Int))).bind fun t225 => (if t225 = true then (if t205 = 0 then (if t204 = 11 then ((tour_Tree.f k y198).bind fun t226 => (if t226 = 11 then ((tour_Tree.f k y206).bind fun t227 => (if t227 = 8 then (if t211 = 0 then (if t210 = 12 then ((swarfref38_Same.f k t209 (([0, 1, 2] : List Int))).bind fun t231 => (if t231 = true then (if t218 = 0 then (some (t217 == 12)) else (some false)) else (some false))) else (some false)) else (some false)) else (some false))) else (some false))) else (some false)) else (some false)) else (some false)))) = some r := H
 have A3 := Aside0.mk A30
 clear A30
 replace H := Option.bind_eq_some_iff.mp H
 obtain ⟨t219, A40, H⟩ := H
 replace H : ((swarfref38_Same.f k t219 (([0, 2, 3, 1] : List Int))).bind fun t225 => (if t225 = true then (if t205 = 0 then (if t204 = 11 then ((tour_Tree.f k y198).bind fun t226 => (if t226 = 11 then ((tour_Tree.f k y206).bind fun t227 => (if t227 = 8 then (if t211 = 0 then (if t210 = 12 then ((swarfref38_Same.f k t209 (([0, 1, 2] : List Int))).bind fun t231 => (if t231 = true then (if t218 = 0 then (some (t217 == 12)) else (some false)) else (some false))) else (some false)) else (some false)) else (some false))) else (some false))) else (some false)) else (some false)) else (some false))) = some r := H
 have A4 := Aside0.mk A40
 clear A40
 obtain ⟨y222, hy222⟩ : ∃ y_ : List Int, y_ = (([0, 2, 3, 1] : List Int)) := ⟨_, rfl⟩
 replace H : ((swarfref38_Same.f k t219 y222).bind fun t225 => (if t225 = true then (if t205 = 0 then (if t204 = 11 then ((tour_Tree.f k y198).bind fun t226 => (if t226 = 11 then ((tour_Tree.f k y206).bind fun t227 => (if t227 = 8 then (if t211 = 0 then (if t210 = 12 then ((swarfref38_Same.f k t209 (([0, 1, 2] : List Int))).bind fun t231 => (if t231 = true then (if t218 = 0 then (some (t217 == 12)) else (some false)) else (some false))) else (some false)) else (some false)) else (some false))) else (some false))) else (some false)) else (some false)) else (some false))) = some r := by first | (rw [hy222]; with_reducible exact H) | (have H2_ := (Option.bind_some _ _).symm.trans H; rw [hy222]; with_reducible exact H2_) | (have H2_ := (Option.bind_some _ _).symm.trans H; with_reducible exact H2_) | with_reducible exact H | (rw [hy222]; exact H) | exact H
 have Ny222 := Aside0.mk hy222
 clear hy222
 replace H := Option.bind_eq_some_iff.mp H
 obtain ⟨t225, A50, H⟩ := H
 replace H : (if t225 = true then (if t205 = 0 then (if t204 = 11 then ((tour_Tree.f k y198).bind fun t226 => (if t226 = 11 then ((tour_Tree.f k y206).bind fun t227 => (if t227 = 8 then (if t211 = 0 then (if t210 = 12 then ((swarfref38_Same.f k t209 (([0, 1, 2] : List Int))).bind fun t231 => (if t231 = true then (if t218 = 0 then (some (t217 == 12)) else (some false)) else (some false))) else (some false)) else (some false)) else (some false))) else (some false))) else (some false)) else (some false)) else (some false)) = some r := H
 have A5 := Aside0.mk A50
 clear A50
 by_cases c6 : t225 = true
 ·subst c6
  have H1 : (if t205 = 0 then (if t204 = 11 then ((tour_Tree.f k y198).bind fun t226 => (if t226 = 11 then ((tour_Tree.f k y206).bind fun t227 => (if t227 = 8 then (if t211 = 0 then (if t210 = 12 then ((swarfref38_Same.f k t209 (([0, 1, 2] : List Int))).bind fun t231 => (if t231 = true then (if t218 = 0 then (some (t217 == 12)) else (some false)) else (some false))) else (some false)) else (some false)) else (some false))) else (some false))) else (some false)) else (some false)) = some r := by rw [if_pos rfl] at H; exact H
  clear H; have H := H1; clear H1
  by_cases c7 : t205 = 0
  ·rw [if_pos c7] at H
   have c7b0 : (t205 == 0) = true := beq_iff_eq.mpr c7
   have c7b1 : (t205 != 0) = false := bne_eq_false_iff_eq.mpr c7
   clear c7
   by_cases c8 : t204 = 11
   ·rw [if_pos c8] at H
    have c8b0 : (t204 == 11) = true := beq_iff_eq.mpr c8
    have c8b1 : (t204 != 11) = false := bne_eq_false_iff_eq.mpr c8
    clear c8; replace H := Option.bind_eq_some_iff.mp H
    obtain ⟨t226, A90, H⟩ := H
    replace H : (if t226 = 11 then ((tour_Tree.f k y206).bind fun t227 => (if t227 = 8 then (if t211 = 0 then (if t210 = 12 then ((swarfref38_Same.f k t209 (([0, 1, 2] : List Int))).bind fun t231 => (if t231 = true then (if t218 = 0 then (some (t217 == 12)) else (some false)) else (some false))) else (some false)) else (some false)) else (some false))) else (some false)) = some r := H
    have A9 := Aside0.mk A90; clear A90
    by_cases c10 : t226 = 11
    ·rw [if_pos c10] at H
     have c10b0 : (t226 == 11) = true := beq_iff_eq.mpr c10
     have c10b1 : (t226 != 11) = false := bne_eq_false_iff_eq.mpr c10
     clear c10; replace H := Option.bind_eq_some_iff.mp H
     obtain ⟨t227, A110, H⟩ := H
     replace H : (if t227 = 8 then (if t211 = 0 then (if t210 = 12 then ((swarfref38_Same.f k t209 (([0, 1, 2] : List Int))).bind fun t231 => (if t231 = true then (if t218 = 0 then (some (t217 == 12)) else (some false)) else (some false))) else (some false)) else (some false)) else (some false)) = some r := H
     have A11 := Aside0.mk A110; clear A110
     by_cases c12 : t227 = 8
     ·rw [if_pos c12] at H
      have c12b0 : (t227 == 8) = true := beq_iff_eq.mpr c12
      have c12b1 : (t227 != 8) = false := bne_eq_false_iff_eq.mpr c12
      clear c12
      by_cases c13 : t211 = 0
      ·rw [if_pos c13] at H
       have c13b0 : (t211 == 0) = true := beq_iff_eq.mpr c13
       have c13b1 : (t211 != 0) = false := bne_eq_false_iff_eq.mpr c13
       clear c13
       by_cases c14 : t210 = 12
       ·rw [if_pos c14] at H
        have c14b0 : (t210 == 12) = true := beq_iff_eq.mpr c14
        have c14b1 : (t210 != 12) = false := bne_eq_false_iff_eq.mpr c14
        clear c14
        obtain ⟨y228, hy228⟩ : ∃ y_ : List Int, y_ = (([0, 1, 2] : List Int)) := ⟨_, rfl⟩
        replace H : ((swarfref38_Same.f k t209 y228).bind fun t231 => (if t231 = true then (if t218 = 0 then (some (t217 == 12)) else (some false)) else (some false))) = some r := by first | (rw [hy228]; with_reducible exact H) | (have H2_ := (Option.bind_some _ _).symm.trans H; rw [hy228]; with_reducible exact H2_) | (have H2_ := (Option.bind_some _ _).symm.trans H; with_reducible exact H2_) | with_reducible exact H | (rw [hy228]; exact H) | exact H
        have Ny228 := Aside0.mk hy228; clear hy228; replace H := Option.bind_eq_some_iff.mp H
        obtain ⟨t231, A150, H⟩ := H
        replace H : (if t231 = true then (if t218 = 0 then (some (t217 == 12)) else (some false)) else (some false)) = some r := H
        have A15 := Aside0.mk A150; clear A150
        by_cases c16 : t231 = true
        ·subst c16
         have H1 : (if t218 = 0 then (some (t217 == 12)) else (some false)) = some r := by rw [if_pos rfl] at H; exact H
         clear H; have H := H1; clear H1
         by_cases c17 : t218 = 0
         ·rw [if_pos c17] at H
          have c17b0 : (t218 == 0) = true := beq_iff_eq.mpr c17
          have c17b1 : (t218 != 0) = false := bne_eq_false_iff_eq.mpr c17
          clear c17; obtain rfl := Option.some.inj H
          go_enter Try.func10, Try.ntmps10
          go_wp2_with (first | ((with_reducible refine gate_dst (N := 14) rfl ?_); (try (refine gate_guard (by rfl) ?_; dsimp only)); refine Kd.R_lit k31 _ 31 ?hg (N := 14) ?hd (xs := ([(⟨0, 0⟩ : S31), (⟨10, 0⟩ : S31), (⟨1, 0⟩ : S31), (⟨5, 5⟩ : S31)] : List (S31))) (inner := [.int .i64 0, .int .i64 0, .int .i64 10, .int .i64 0, .int .i64 1, .int .i64 0, .int .i64 5, .int .i64 5]) (ok := fun _ => True) (okp := fun _ => True) ?hr ?hp (fun _ hk => hk) trivial (Below.refl _ _) (Nat.le_refl _) (by simp) ?_; (case hd => rfl); (case hg => rfl); (case hr => first | (go_simp; done) | (go_simp; rfl)); (case hp => exact (Reps.c2 (show Kd.M k31 _ _ _ (⟨0, 0⟩ : S31) [.int .i64 0, .int .i64 0] from (k31_mkM _ _ _ (⟨0, 0⟩ : S31) )) (Reps.c2 (show Kd.M k31 _ _ _ (⟨10, 0⟩ : S31) [.int .i64 10, .int .i64 0] from (k31_mkM _ _ _ (⟨10, 0⟩ : S31) )) (Reps.c2 (show Kd.M k31 _ _ _ (⟨1, 0⟩ : S31) [.int .i64 1, .int .i64 0] from (k31_mkM _ _ _ (⟨1, 0⟩ : S31) )) (Reps.c2 (show Kd.M k31 _ _ _ (⟨5, 5⟩ : S31) [.int .i64 5, .int .i64 5] from (k31_mkM _ _ _ (⟨5, 5⟩ : S31) )) (Reps.none _ _)))))); intro v199 w18 ho19 hb hg_ hnew_; clear hg_ hnew_; (first | rw [← Ny198.out] at ho19 | (simp only [Int.reduceToNat] at ho19; rw [← Ny198.out] at ho19)); have n0_ := Aside0.mk (Kd.R_lower ho19 (below_size (by repeat (first | (with_reducible first | exact HB.out | apply below_alloc | apply pw_below_drewN | apply below_drew1) | exact HB.out)))); have n1_ := Aside0.mk (below_step (by repeat (first | (with_reducible first | exact HB.out | apply below_alloc | apply pw_below_drewN | apply below_drew1) | exact HB.out)) hb); clear HB; have HO200 := n0_; have HB := n1_; clear n0_ n1_; clear hb ho19) | ((with_reducible refine gate_dst (N := 17) rfl ?_); (try (refine gate_guard (by rfl) ?_; dsimp only)); refine Kd.R_lit (Kd.int .i64) _ 3 ?hg (N := 17) ?hd (xs := ([0, 2, 3, 1] : List Int)) (inner := [.int .i64 0, .int .i64 2, .int .i64 3, .int .i64 1]) (ok := fun _ => True) (okp := fun _ => True) ?hr ?hp (fun _ hk => hk) trivial (Below.refl _ _) (Nat.le_refl _) (by simp) ?_; (case hd => rfl); (case hg => rfl); (case hr => first | (go_simp; done) | (go_simp; rfl)); (case hp => exact (Reps.one (show Kd.M (Kd.int .i64) _ _ _ 0 [.int .i64 0] from rfl) (Reps.one (show Kd.M (Kd.int .i64) _ _ _ 2 [.int .i64 2] from rfl) (Reps.one (show Kd.M (Kd.int .i64) _ _ _ 3 [.int .i64 3] from rfl) (Reps.one (show Kd.M (Kd.int .i64) _ _ _ 1 [.int .i64 1] from rfl) (Reps.none _ _)))))); intro v202 w20 ho21 hb hg_ hnew_; clear hg_ hnew_; (first | rw [← Ny201.out] at ho21 | (simp only [Int.reduceToNat] at ho21; rw [← Ny201.out] at ho21)); have n0_ := Aside0.mk (Kd.R_below (by (with_reducible repeat (first | apply Kd.R_alloc | apply Kd.R_drewN | apply Kd.R_drew)); exact HO200.out) hb); have n1_ := Aside0.mk (Kd.R_lower ho21 (below_size (by repeat (first | (with_reducible first | exact HB.out | apply below_alloc | apply pw_below_drewN | apply below_drew1) | exact HB.out)))); have n2_ := Aside0.mk (below_step (by repeat (first | (with_reducible first | exact HB.out | apply below_alloc | apply pw_below_drewN | apply below_drew1) | exact HB.out)) hb); clear HO200; clear HB; have HO200 := n0_; have HO203 := n1_; have HB := n2_; clear n0_ n1_ n2_; clear hb ho21; obtain ⟨Ao22, co22, eo22⟩ := Kd.R_slice HO200.out; subst eo22; obtain ⟨Ao23, co23, eo23⟩ := Kd.R_slice HO203.out; subst eo23) | ((with_reducible refine gate_callee (f := 12) rfl ?_); refine goesL_ (some 18) rfl rfl Try.func12 (by kernel_rfl) rfl #[.slice Ao22 y198.length co22, .slice Ao23 y201.length co23] rfl (by (try simp only [List.map_toArray, List.map_cons, List.map_nil]); first | done | rfl | (simp only [List.length_drop, List.length_take]; rfl)) ?_; (with_reducible refine (tour_Length.calls k _ _ y198 _ _ y201 t204 t205 _ ?side1 ?side2 ?side3 ?side4 A1.out).mono ?_); (case side1 => repeat (first | exact (Kd.R_reads' HO200.out).2.2 | (with_reducible refine Kd.C_alloc ?_ _) | (with_reducible refine Kd.C_drewN ?_ _) | (with_reducible refine Kd.C_drew ?_))); (case side2 => exact (Kd.R_reads' HO200.out).2.1); (case side3 => repeat (first | exact (Kd.R_reads' HO203.out).2.2 | (with_reducible refine Kd.C_alloc ?_ _) | (with_reducible refine Kd.C_drewN ?_ _) | (with_reducible refine Kd.C_drew ?_))); (case side4 => exact (Kd.R_reads' HO203.out).2.1); rintro e w24 ⟨rfl, hb⟩; refine ⟨_, rfl, ?_⟩; have n0_ := Aside0.mk (Kd.R_below (by (with_reducible repeat (first | apply Kd.R_alloc | apply Kd.R_drewN | apply Kd.R_drew)); exact HO200.out) hb); have n1_ := Aside0.mk (Kd.R_below (by (with_reducible repeat (first | apply Kd.R_alloc | apply Kd.R_drewN | apply Kd.R_drew)); exact HO203.out) hb); have n2_ := Aside0.mk (below_step (by repeat (first | (with_reducible first | exact HB.out | apply below_alloc | apply pw_below_drewN | apply below_drew1) | exact HB.out)) hb); clear HO200; clear HO203; clear HB; have HO200 := n0_; have HO203 := n1_; have HB := n2_; clear n0_ n1_ n2_; (try clear hb); (try clear hb2); (try clear hk); (try clear hi)) | ((with_reducible refine gate_dst (N := 24) rfl ?_); (try (refine gate_guard (by rfl) ?_; dsimp only)); refine Kd.R_lit k31 _ 31 ?hg (N := 24) ?hd (xs := ([(⟨0, 0⟩ : S31), (⟨4, 0⟩ : S31), (⟨(-4), 0⟩ : S31)] : List (S31))) (inner := [.int .i64 0, .int .i64 0, .int .i64 4, .int .i64 0, .int .i64 (-4), .int .i64 0]) (ok := fun _ => True) (okp := fun _ => True) ?hr ?hp (fun _ hk => hk) trivial (Below.refl _ _) (Nat.le_refl _) (by simp) ?_; (case hd => rfl); (case hg => rfl); (case hr => first | (go_simp; done) | (go_simp; rfl)); (case hp => exact (Reps.c2 (show Kd.M k31 _ _ _ (⟨0, 0⟩ : S31) [.int .i64 0, .int .i64 0] from (k31_mkM _ _ _ (⟨0, 0⟩ : S31) )) (Reps.c2 (show Kd.M k31 _ _ _ (⟨4, 0⟩ : S31) [.int .i64 4, .int .i64 0] from (k31_mkM _ _ _ (⟨4, 0⟩ : S31) )) (Reps.c2 (show Kd.M k31 _ _ _ (⟨(-4), 0⟩ : S31) [.int .i64 (-4), .int .i64 0] from (k31_mkM _ _ _ (⟨(-4), 0⟩ : S31) )) (Reps.none _ _))))); intro v207 w25 ho26 hb hg_ hnew_; clear hg_ hnew_; (first | rw [← Ny206.out] at ho26 | (simp only [Int.reduceToNat] at ho26; rw [← Ny206.out] at ho26)); have n0_ := Aside0.mk (Kd.R_elder' (by (with_reducible repeat (first | apply Kd.R_alloc | apply Kd.R_drewN | apply Kd.R_drew)); exact HO200.out) (Kd.R_base ho26) hb); have n1_ := Aside0.mk (Kd.R_below (by (with_reducible repeat (first | apply Kd.R_alloc | apply Kd.R_drewN | apply Kd.R_drew)); exact HO203.out) hb); have n2_ := Aside0.mk (Kd.R_lower (Kd.R_new' ho26 (Kd.R_lt (by (with_reducible repeat (first | apply Kd.R_alloc | apply Kd.R_drewN | apply Kd.R_drew)); exact HO200.out))) (below_size (by repeat (first | (with_reducible first | exact HB.out | apply below_alloc | apply pw_below_drewN | apply below_drew1) | exact HB.out)))); have n3_ := Aside0.mk (below_step (by repeat (first | (with_reducible first | exact HB.out | apply below_alloc | apply pw_below_drewN | apply below_drew1) | exact HB.out)) hb); clear HO200; clear HO203; clear HB; have HO200 := n0_; have HO203 := n1_; have HO208 := n2_; have HB := n3_; clear n0_ n1_ n2_ n3_; clear hb ho26; obtain ⟨Ao27, co27, eo27⟩ := Kd.R_slice HO208.out; subst eo27) | ((with_reducible refine gate_callee (f := 22) rfl ?_); refine goesL_ (some 27) rfl rfl Try.func22 (by kernel_rfl) rfl #[.slice Ao27 y206.length co27] rfl (by (try simp only [List.map_toArray, List.map_cons, List.map_nil]); first | done | rfl | (simp only [List.length_drop, List.length_take]; rfl)) ?_; (with_reducible refine (tour_Exact.calls k _ _ y206 t209 t210 t211 _ ?side1 ?side2 A2.out).mono ?_); (case side1 => repeat (first | exact (Kd.R_reads' HO208.out).2.2 | (with_reducible refine Kd.C_alloc ?_ _) | (with_reducible refine Kd.C_drewN ?_ _) | (with_reducible refine Kd.C_drew ?_))); (case side2 => exact (Kd.R_reads' HO208.out).2.1); rintro e w28 ⟨v212, rfl, ho0, hb⟩; refine ⟨_, rfl, ?_⟩; have n0_ := Aside0.mk (Kd.R_below (by (with_reducible repeat (first | apply Kd.R_alloc | apply Kd.R_drewN | apply Kd.R_drew)); exact HO200.out) hb); have n1_ := Aside0.mk (Kd.R_elder' (by (with_reducible repeat (first | apply Kd.R_alloc | apply Kd.R_drewN | apply Kd.R_drew)); exact HO203.out) (Kd.R_base ho0) hb); have n2_ := Aside0.mk (Kd.R_below (by (with_reducible repeat (first | apply Kd.R_alloc | apply Kd.R_drewN | apply Kd.R_drew)); exact HO208.out) hb); have n3_ := Aside0.mk (Kd.R_lower (Kd.R_new' ho0 (Kd.R_lt (by (with_reducible repeat (first | apply Kd.R_alloc | apply Kd.R_drewN | apply Kd.R_drew)); exact HO203.out))) (below_size (by repeat (first | (with_reducible first | exact HB.out | apply below_alloc | apply pw_below_drewN | apply below_drew1) | exact HB.out)))); have n4_ := Aside0.mk (below_step (by repeat (first | (with_reducible first | exact HB.out | apply below_alloc | apply pw_below_drewN | apply below_drew1) | exact HB.out)) hb); clear HO200; clear HO203; clear HO208; clear HB; have HO200 := n0_; have HO203 := n1_; have HO208 := n2_; have HO213 := n3_; have HB := n4_; clear n0_ n1_ n2_ n3_ n4_; (try clear hb); (try clear hb2); (try clear hk); (try clear hi); (try clear ho0)) | ((with_reducible refine gate_dst (N := 33) rfl ?_); (try (refine gate_guard (by rfl) ?_; dsimp only)); refine Kd.R_lit (Kd.int .i64) _ 2 ?hg (N := 33) ?hd (xs := ([4, 0, 0] : List Int)) (inner := [.int .i64 4, .int .i64 0, .int .i64 0]) (ok := fun _ => True) (okp := fun _ => True) ?hr ?hp (fun _ hk => hk) trivial (Below.refl _ _) (Nat.le_refl _) (by simp) ?_; (case hd => rfl); (case hg => rfl); (case hr => first | (go_simp; done) | (go_simp; rfl)); (case hp => exact (Reps.one (show Kd.M (Kd.int .i64) _ _ _ 4 [.int .i64 4] from rfl) (Reps.one (show Kd.M (Kd.int .i64) _ _ _ 0 [.int .i64 0] from rfl) (Reps.one (show Kd.M (Kd.int .i64) _ _ _ 0 [.int .i64 0] from rfl) (Reps.none _ _))))); intro v215 w29 ho30 hb hg_ hnew_; clear hg_ hnew_; (first | rw [← Ny214.out] at ho30 | (simp only [Int.reduceToNat] at ho30; rw [← Ny214.out] at ho30)); have n0_ := Aside0.mk (Kd.R_below (by (with_reducible repeat (first | apply Kd.R_alloc | apply Kd.R_drewN | apply Kd.R_drew)); exact HO200.out) hb); have n1_ := Aside0.mk (Kd.R_below (by (with_reducible repeat (first | apply Kd.R_alloc | apply Kd.R_drewN | apply Kd.R_drew)); exact HO203.out) hb); have n2_ := Aside0.mk (Kd.R_below (by (with_reducible repeat (first | apply Kd.R_alloc | apply Kd.R_drewN | apply Kd.R_drew)); exact HO208.out) hb); have n3_ := Aside0.mk (Kd.R_below (by (with_reducible repeat (first | apply Kd.R_alloc | apply Kd.R_drewN | apply Kd.R_drew)); exact HO213.out) hb); have n4_ := Aside0.mk (Kd.R_lower ho30 (below_size (by repeat (first | (with_reducible first | exact HB.out | apply below_alloc | apply pw_below_drewN | apply below_drew1) | exact HB.out)))); have n5_ := Aside0.mk (below_step (by repeat (first | (with_reducible first | exact HB.out | apply below_alloc | apply pw_below_drewN | apply below_drew1) | exact HB.out)) hb); clear HO200; clear HO203; clear HO208; clear HO213; clear HB; have HO200 := n0_; have HO203 := n1_; have HO208 := n2_; have HO213 := n3_; have HO216 := n4_; have HB := n5_; clear n0_ n1_ n2_ n3_ n4_ n5_; clear hb ho30; obtain ⟨Ao31, co31, eo31⟩ := Kd.R_slice HO216.out; subst eo31) | ((with_reducible refine gate_callee (f := 24) rfl ?_); refine goesL_ (some 34) rfl rfl Try.func24 (by kernel_rfl) rfl #[.slice Ao27 y206.length co27, .slice Ao31 y214.length co31] rfl (by (try simp only [List.map_toArray, List.map_cons, List.map_nil]); first | done | rfl | (simp only [List.length_drop, List.length_take]; rfl)) ?_; (with_reducible refine (tour_Bound.calls k _ _ y206 _ _ y214 t217 t218 _ ?side1 ?side2 ?side3 ?side4 A3.out).mono ?_); (case side1 => repeat (first | exact (Kd.R_reads' HO208.out).2.2 | (with_reducible refine Kd.C_alloc ?_ _) | (with_reducible refine Kd.C_drewN ?_ _) | (with_reducible refine Kd.C_drew ?_))); (case side2 => exact (Kd.R_reads' HO208.out).2.1); (case side3 => repeat (first | exact (Kd.R_reads' HO216.out).2.2 | (with_reducible refine Kd.C_alloc ?_ _) | (with_reducible refine Kd.C_drewN ?_ _) | (with_reducible refine Kd.C_drew ?_))); (case side4 => exact (Kd.R_reads' HO216.out).2.1); rintro e w32 ⟨rfl, hb⟩; refine ⟨_, rfl, ?_⟩; have n0_ := Aside0.mk (Kd.R_below (by (with_reducible repeat (first | apply Kd.R_alloc | apply Kd.R_drewN | apply Kd.R_drew)); exact HO200.out) hb); have n1_ := Aside0.mk (Kd.R_below (by (with_reducible repeat (first | apply Kd.R_alloc | apply Kd.R_drewN | apply Kd.R_drew)); exact HO203.out) hb); have n2_ := Aside0.mk (Kd.R_below (by (with_reducible repeat (first | apply Kd.R_alloc | apply Kd.R_drewN | apply Kd.R_drew)); exact HO208.out) hb); have n3_ := Aside0.mk (Kd.R_below (by (with_reducible repeat (first | apply Kd.R_alloc | apply Kd.R_drewN | apply Kd.R_drew)); exact HO213.out) hb); have n4_ := Aside0.mk (Kd.R_below (by (with_reducible repeat (first | apply Kd.R_alloc | apply Kd.R_drewN | apply Kd.R_drew)); exact HO216.out) hb); have n5_ := Aside0.mk (below_step (by repeat (first | (with_reducible first | exact HB.out | apply below_alloc | apply pw_below_drewN | apply below_drew1) | exact HB.out)) hb); clear HO200; clear HO203; clear HO208; clear HO213; clear HO216; clear HB; have HO200 := n0_; have HO203 := n1_; have HO208 := n2_; have HO213 := n3_; have HO216 := n4_; have HB := n5_; clear n0_ n1_ n2_ n3_ n4_ n5_; (try clear hb); (try clear hb2); (try clear hk); (try clear hi)) | ((with_reducible refine gate_callee (f := 17) rfl ?_); refine goesL_ (some 38) rfl rfl Try.func17 (by kernel_rfl) rfl #[.slice Ao22 y198.length co22] rfl (by (try simp only [List.map_toArray, List.map_cons, List.map_nil]); first | done | rfl | (simp only [List.length_drop, List.length_take]; rfl)) ?_; (with_reducible refine (tour_Nearest.calls k _ _ y198 t219 _ ?side1 ?side2 A4.out).mono ?_); (case side1 => repeat (first | exact (Kd.R_reads' HO200.out).2.2 | (with_reducible refine Kd.C_alloc ?_ _) | (with_reducible refine Kd.C_drewN ?_ _) | (with_reducible refine Kd.C_drew ?_))); (case side2 => exact (Kd.R_reads' HO200.out).2.1); rintro e w33 ⟨v220, rfl, ho0, hb⟩; refine ⟨_, rfl, ?_⟩; have n0_ := Aside0.mk (Kd.R_below (by (with_reducible repeat (first | apply Kd.R_alloc | apply Kd.R_drewN | apply Kd.R_drew)); exact HO200.out) hb); have n1_ := Aside0.mk (Kd.R_elder' (by (with_reducible repeat (first | apply Kd.R_alloc | apply Kd.R_drewN | apply Kd.R_drew)); exact HO203.out) (Kd.R_base ho0) hb); have n2_ := Aside0.mk (Kd.R_below (by (with_reducible repeat (first | apply Kd.R_alloc | apply Kd.R_drewN | apply Kd.R_drew)); exact HO208.out) hb); have n3_ := Aside0.mk (Kd.R_elder' (by (with_reducible repeat (first | apply Kd.R_alloc | apply Kd.R_drewN | apply Kd.R_drew)); exact HO213.out) (Kd.R_base ho0) hb); have n4_ := Aside0.mk (Kd.R_below (by (with_reducible repeat (first | apply Kd.R_alloc | apply Kd.R_drewN | apply Kd.R_drew)); exact HO216.out) hb); have n5_ := Aside0.mk (Kd.R_lower (Kd.R_new' (Kd.R_new' ho0 (Kd.R_lt (by (with_reducible repeat (first | apply Kd.R_alloc | apply Kd.R_drewN | apply Kd.R_drew)); exact HO203.out))) (Kd.R_lt (by (with_reducible repeat (first | apply Kd.R_alloc | apply Kd.R_drewN | apply Kd.R_drew)); exact HO213.out))) (below_size (by repeat (first | (with_reducible first | exact HB.out | apply below_alloc | apply pw_below_drewN | apply below_drew1) | exact HB.out)))); have n6_ := Aside0.mk (below_step (by repeat (first | (with_reducible first | exact HB.out | apply below_alloc | apply pw_below_drewN | apply below_drew1) | exact HB.out)) hb); clear HO200; clear HO203; clear HO208; clear HO213; clear HO216; clear HB; have HO200 := n0_; have HO203 := n1_; have HO208 := n2_; have HO213 := n3_; have HO216 := n4_; have HO221 := n5_; have HB := n6_; clear n0_ n1_ n2_ n3_ n4_ n5_ n6_; (try clear hb); (try clear hb2); (try clear hk); (try clear hi); (try clear ho0)) | ((with_reducible refine gate_dst (N := 39) rfl ?_); (try (refine gate_guard (by rfl) ?_; dsimp only)); refine Kd.R_lit (Kd.int .i64) _ 3 ?hg (N := 39) ?hd (xs := ([0, 2, 3, 1] : List Int)) (inner := [.int .i64 0, .int .i64 2, .int .i64 3, .int .i64 1]) (ok := fun _ => True) (okp := fun _ => True) ?hr ?hp (fun _ hk => hk) trivial (Below.refl _ _) (Nat.le_refl _) (by simp) ?_; (case hd => rfl); (case hg => rfl); (case hr => first | (go_simp; done) | (go_simp; rfl)); (case hp => exact (Reps.one (show Kd.M (Kd.int .i64) _ _ _ 0 [.int .i64 0] from rfl) (Reps.one (show Kd.M (Kd.int .i64) _ _ _ 2 [.int .i64 2] from rfl) (Reps.one (show Kd.M (Kd.int .i64) _ _ _ 3 [.int .i64 3] from rfl) (Reps.one (show Kd.M (Kd.int .i64) _ _ _ 1 [.int .i64 1] from rfl) (Reps.none _ _)))))); intro v223 w34 ho35 hb hg_ hnew_; clear hg_ hnew_; (first | rw [← Ny222.out] at ho35 | (simp only [Int.reduceToNat] at ho35; rw [← Ny222.out] at ho35)); have n0_ := Aside0.mk (Kd.R_below (by (with_reducible repeat (first | apply Kd.R_alloc | apply Kd.R_drewN | apply Kd.R_drew)); exact HO200.out) hb); have n1_ := Aside0.mk (Kd.R_elder' (by (with_reducible repeat (first | apply Kd.R_alloc | apply Kd.R_drewN | apply Kd.R_drew)); exact HO203.out) (Kd.R_base ho35) hb); have n2_ := Aside0.mk (Kd.R_below (by (with_reducible repeat (first | apply Kd.R_alloc | apply Kd.R_drewN | apply Kd.R_drew)); exact HO208.out) hb); have n3_ := Aside0.mk (Kd.R_elder' (by (with_reducible repeat (first | apply Kd.R_alloc | apply Kd.R_drewN | apply Kd.R_drew)); exact HO213.out) (Kd.R_base ho35) hb); have n4_ := Aside0.mk (Kd.R_below (by (with_reducible repeat (first | apply Kd.R_alloc | apply Kd.R_drewN | apply Kd.R_drew)); exact HO216.out) hb); have n5_ := Aside0.mk (Kd.R_elder' (by (with_reducible repeat (first | apply Kd.R_alloc | apply Kd.R_drewN | apply Kd.R_drew)); exact HO221.out) (Kd.R_base ho35) hb); have n6_ := Aside0.mk (Kd.R_lower (Kd.R_new' (Kd.R_new' (Kd.R_new' ho35 (Kd.R_lt (by (with_reducible repeat (first | apply Kd.R_alloc | apply Kd.R_drewN | apply Kd.R_drew)); exact HO203.out))) (Kd.R_lt (by (with_reducible repeat (first | apply Kd.R_alloc | apply Kd.R_drewN | apply Kd.R_drew)); exact HO213.out))) (Kd.R_lt (by (with_reducible repeat (first | apply Kd.R_alloc | apply Kd.R_drewN | apply Kd.R_drew)); exact HO221.out))) (below_size (by repeat (first | (with_reducible first | exact HB.out | apply below_alloc | apply pw_below_drewN | apply below_drew1) | exact HB.out)))); have n7_ := Aside0.mk (below_step (by repeat (first | (with_reducible first | exact HB.out | apply below_alloc | apply pw_below_drewN | apply below_drew1) | exact HB.out)) hb); clear HO200; clear HO203; clear HO208; clear HO213; clear HO216; clear HO221; clear HB; have HO200 := n0_; have HO203 := n1_; have HO208 := n2_; have HO213 := n3_; have HO216 := n4_; have HO221 := n5_; have HO224 := n6_; have HB := n7_; clear n0_ n1_ n2_ n3_ n4_ n5_ n6_ n7_; clear hb ho35; obtain ⟨Ao36, co36, eo36⟩ := Kd.R_slice HO221.out; subst eo36; obtain ⟨Ao37, co37, eo37⟩ := Kd.R_slice HO224.out; subst eo37) | ((with_reducible refine gate_callee (f := 18) rfl ?_); refine goesL_ (some 40) rfl rfl Try.func18 (by kernel_rfl) rfl #[.slice Ao36 t219.length co36, .slice Ao37 y222.length co37] rfl (by (try simp only [List.map_toArray, List.map_cons, List.map_nil]); first | done | rfl | (simp only [List.length_drop, List.length_take]; rfl)) ?_; (with_reducible refine (swarfref38_Same.calls k _ _ t219 _ _ y222 true _ ?side1 ?side2 ?side3 ?side4 A5.out).mono ?_); (case side1 => repeat (first | exact (Kd.R_reads' HO221.out).2.2 | (with_reducible refine Kd.C_alloc ?_ _) | (with_reducible refine Kd.C_drewN ?_ _) | (with_reducible refine Kd.C_drew ?_))); (case side2 => exact (Kd.R_reads' HO221.out).2.1); (case side3 => repeat (first | exact (Kd.R_reads' HO224.out).2.2 | (with_reducible refine Kd.C_alloc ?_ _) | (with_reducible refine Kd.C_drewN ?_ _) | (with_reducible refine Kd.C_drew ?_))); (case side4 => exact (Kd.R_reads' HO224.out).2.1); rintro e w' ⟨rfl, ⟨nd, rfl⟩⟩; refine ⟨_, rfl, ?_⟩) | (go_at_call 20; (with_reducible refine (tour_Tree.calls k _ _ y198 t226 _ ?side1 ?side2 A9.out).mono ?_); (case side1 => repeat (first | exact (Kd.R_reads' HO200.out).2.2 | (with_reducible refine Kd.C_alloc ?_ _) | (with_reducible refine Kd.C_drewN ?_ _) | (with_reducible refine Kd.C_drew ?_))); (case side2 => exact (Kd.R_reads' HO200.out).2.1); rintro e w38 ⟨rfl, hb⟩; have n0_ := Aside0.mk (Kd.R_below (by (with_reducible repeat (first | apply Kd.R_alloc | apply Kd.R_drewN | apply Kd.R_drew)); exact HO200.out) hb); have n1_ := Aside0.mk (Kd.R_below (by (with_reducible repeat (first | apply Kd.R_alloc | apply Kd.R_drewN | apply Kd.R_drew)); exact HO203.out) hb); have n2_ := Aside0.mk (Kd.R_below (by (with_reducible repeat (first | apply Kd.R_alloc | apply Kd.R_drewN | apply Kd.R_drew)); exact HO208.out) hb); have n3_ := Aside0.mk (Kd.R_below (by (with_reducible repeat (first | apply Kd.R_alloc | apply Kd.R_drewN | apply Kd.R_drew)); exact HO213.out) hb); have n4_ := Aside0.mk (Kd.R_below (by (with_reducible repeat (first | apply Kd.R_alloc | apply Kd.R_drewN | apply Kd.R_drew)); exact HO216.out) hb); have n5_ := Aside0.mk (Kd.R_below (by (with_reducible repeat (first | apply Kd.R_alloc | apply Kd.R_drewN | apply Kd.R_drew)); exact HO221.out) hb); have n6_ := Aside0.mk (Kd.R_below (by (with_reducible repeat (first | apply Kd.R_alloc | apply Kd.R_drewN | apply Kd.R_drew)); exact HO224.out) hb); have n7_ := Aside0.mk (below_step (by repeat (first | (with_reducible first | exact HB.out | apply below_alloc | apply pw_below_drewN | apply below_drew1) | exact HB.out)) hb); clear HO200; clear HO203; clear HO208; clear HO213; clear HO216; clear HO221; clear HO224; clear HB; have HO200 := n0_; have HO203 := n1_; have HO208 := n2_; have HO213 := n3_; have HO216 := n4_; have HO221 := n5_; have HO224 := n6_; have HB := n7_; clear n0_ n1_ n2_ n3_ n4_ n5_ n6_ n7_; (try clear hb); (try clear hb2); (try clear hk); (try clear hi)) | (go_at_call 20; (with_reducible refine (tour_Tree.calls k _ _ y206 t227 _ ?side1 ?side2 A11.out).mono ?_); (case side1 => repeat (first | exact (Kd.R_reads' HO208.out).2.2 | (with_reducible refine Kd.C_alloc ?_ _) | (with_reducible refine Kd.C_drewN ?_ _) | (with_reducible refine Kd.C_drew ?_))); (case side2 => exact (Kd.R_reads' HO208.out).2.1); rintro e w39 ⟨rfl, hb⟩; have n0_ := Aside0.mk (Kd.R_below (by (with_reducible repeat (first | apply Kd.R_alloc | apply Kd.R_drewN | apply Kd.R_drew)); exact HO200.out) hb); have n1_ := Aside0.mk (Kd.R_below (by (with_reducible repeat (first | apply Kd.R_alloc | apply Kd.R_drewN | apply Kd.R_drew)); exact HO203.out) hb); have n2_ := Aside0.mk (Kd.R_below (by (with_reducible repeat (first | apply Kd.R_alloc | apply Kd.R_drewN | apply Kd.R_drew)); exact HO208.out) hb); have n3_ := Aside0.mk (Kd.R_below (by (with_reducible repeat (first | apply Kd.R_alloc | apply Kd.R_drewN | apply Kd.R_drew)); exact HO213.out) hb); have n4_ := Aside0.mk (Kd.R_below (by (with_reducible repeat (first | apply Kd.R_alloc | apply Kd.R_drewN | apply Kd.R_drew)); exact HO216.out) hb); have n5_ := Aside0.mk (Kd.R_below (by (with_reducible repeat (first | apply Kd.R_alloc | apply Kd.R_drewN | apply Kd.R_drew)); exact HO221.out) hb); have n6_ := Aside0.mk (Kd.R_below (by (with_reducible repeat (first | apply Kd.R_alloc | apply Kd.R_drewN | apply Kd.R_drew)); exact HO224.out) hb); have n7_ := Aside0.mk (below_step (by repeat (first | (with_reducible first | exact HB.out | apply below_alloc | apply pw_below_drewN | apply below_drew1) | exact HB.out)) hb); clear HO200; clear HO203; clear HO208; clear HO213; clear HO216; clear HO221; clear HO224; clear HB; have HO200 := n0_; have HO203 := n1_; have HO208 := n2_; have HO213 := n3_; have HO216 := n4_; have HO221 := n5_; have HO224 := n6_; have HB := n7_; clear n0_ n1_ n2_ n3_ n4_ n5_ n6_ n7_; (try clear hb); (try clear hb2); (try clear hk); (try clear hi)) | ((with_reducible refine gate_dst (N := 69) rfl ?_); (try (refine gate_guard (by rfl) ?_; dsimp only)); refine Kd.R_lit (Kd.int .i64) _ 3 ?hg (N := 69) ?hd (xs := ([0, 1, 2] : List Int)) (inner := [.int .i64 0, .int .i64 1, .int .i64 2]) (ok := fun _ => True) (okp := fun _ => True) ?hr ?hp (fun _ hk => hk) trivial (Below.refl _ _) (Nat.le_refl _) (by simp) ?_; (case hd => rfl); (case hg => rfl); (case hr => first | (go_simp; done) | (go_simp; rfl)); (case hp => exact (Reps.one (show Kd.M (Kd.int .i64) _ _ _ 0 [.int .i64 0] from rfl) (Reps.one (show Kd.M (Kd.int .i64) _ _ _ 1 [.int .i64 1] from rfl) (Reps.one (show Kd.M (Kd.int .i64) _ _ _ 2 [.int .i64 2] from rfl) (Reps.none _ _))))); intro v229 w40 ho41 hb hg_ hnew_; clear hg_ hnew_; (first | rw [← Ny228.out] at ho41 | (simp only [Int.reduceToNat] at ho41; rw [← Ny228.out] at ho41)); have n0_ := Aside0.mk (Kd.R_below (by (with_reducible repeat (first | apply Kd.R_alloc | apply Kd.R_drewN | apply Kd.R_drew)); exact HO200.out) hb); have n1_ := Aside0.mk (Kd.R_elder' (by (with_reducible repeat (first | apply Kd.R_alloc | apply Kd.R_drewN | apply Kd.R_drew)); exact HO203.out) (Kd.R_base ho41) hb); have n2_ := Aside0.mk (Kd.R_below (by (with_reducible repeat (first | apply Kd.R_alloc | apply Kd.R_drewN | apply Kd.R_drew)); exact HO208.out) hb); have n3_ := Aside0.mk (Kd.R_elder' (by (with_reducible repeat (first | apply Kd.R_alloc | apply Kd.R_drewN | apply Kd.R_drew)); exact HO213.out) (Kd.R_base ho41) hb); have n4_ := Aside0.mk (Kd.R_below (by (with_reducible repeat (first | apply Kd.R_alloc | apply Kd.R_drewN | apply Kd.R_drew)); exact HO216.out) hb); have n5_ := Aside0.mk (Kd.R_elder' (by (with_reducible repeat (first | apply Kd.R_alloc | apply Kd.R_drewN | apply Kd.R_drew)); exact HO221.out) (Kd.R_base ho41) hb); have n6_ := Aside0.mk (Kd.R_elder' (by (with_reducible repeat (first | apply Kd.R_alloc | apply Kd.R_drewN | apply Kd.R_drew)); exact HO224.out) (Kd.R_base ho41) hb); have n7_ := Aside0.mk (Kd.R_lower (Kd.R_new' (Kd.R_new' (Kd.R_new' (Kd.R_new' ho41 (Kd.R_lt (by (with_reducible repeat (first | apply Kd.R_alloc | apply Kd.R_drewN | apply Kd.R_drew)); exact HO203.out))) (Kd.R_lt (by (with_reducible repeat (first | apply Kd.R_alloc | apply Kd.R_drewN | apply Kd.R_drew)); exact HO213.out))) (Kd.R_lt (by (with_reducible repeat (first | apply Kd.R_alloc | apply Kd.R_drewN | apply Kd.R_drew)); exact HO221.out))) (Kd.R_lt (by (with_reducible repeat (first | apply Kd.R_alloc | apply Kd.R_drewN | apply Kd.R_drew)); exact HO224.out))) (below_size (by repeat (first | (with_reducible first | exact HB.out | apply below_alloc | apply pw_below_drewN | apply below_drew1) | exact HB.out)))); have n8_ := Aside0.mk (below_step (by repeat (first | (with_reducible first | exact HB.out | apply below_alloc | apply pw_below_drewN | apply below_drew1) | exact HB.out)) hb); clear HO200; clear HO203; clear HO208; clear HO213; clear HO216; clear HO221; clear HO224; clear HB; have HO200 := n0_; have HO203 := n1_; have HO208 := n2_; have HO213 := n3_; have HO216 := n4_; have HO221 := n5_; have HO224 := n6_; have HO230 := n7_; have HB := n8_; clear n0_ n1_ n2_ n3_ n4_ n5_ n6_ n7_ n8_; clear hb ho41; obtain ⟨Ao42, co42, eo42⟩ := Kd.R_slice HO213.out; subst eo42; obtain ⟨Ao43, co43, eo43⟩ := Kd.R_slice HO230.out; subst eo43) | (go_at_call 18; (with_reducible refine (swarfref38_Same.calls k _ _ t209 _ _ y228 true _ ?side1 ?side2 ?side3 ?side4 A15.out).mono ?_); (case side1 => repeat (first | exact (Kd.R_reads' HO213.out).2.2 | (with_reducible refine Kd.C_alloc ?_ _) | (with_reducible refine Kd.C_drewN ?_ _) | (with_reducible refine Kd.C_drew ?_))); (case side2 => exact (Kd.R_reads' HO213.out).2.1); (case side3 => repeat (first | exact (Kd.R_reads' HO230.out).2.2 | (with_reducible refine Kd.C_alloc ?_ _) | (with_reducible refine Kd.C_drewN ?_ _) | (with_reducible refine Kd.C_drew ?_))); (case side4 => exact (Kd.R_reads' HO230.out).2.1); rintro e w' ⟨rfl, ⟨nd, rfl⟩⟩))
          go_ret
          exact ⟨by first | rfl | (simp [errW_none, errW_some] <;> rfl) | (simp [*, errW_none, errW_some] <;> rfl), by repeat (first | (with_reducible first | exact HB.out | apply below_alloc | apply pw_below_drewN | apply below_drew1) | exact HB.out)⟩
         ·rw [if_neg c17] at H
          have c17b0 : (t218 == 0) = false := beq_eq_false_iff_ne.mpr c17
          have c17b1 : (t218 != 0) = true := bne_iff_ne.mpr c17
          (rw [HRT.out] at H; exact absurd H (by decide))
        ·replace c16 := Bool.eq_false_iff.mpr c16
         subst c16
         have H1 : (some false) = some r := by rw [if_neg (show ¬ (false = true) by decide)] at H; exact H
         clear H; have H := H1; clear H1
         (rw [HRT.out] at H; exact absurd H (by decide))
       ·rw [if_neg c14] at H
        have c14b0 : (t210 == 12) = false := beq_eq_false_iff_ne.mpr c14
        have c14b1 : (t210 != 12) = true := bne_iff_ne.mpr c14
        (rw [HRT.out] at H; exact absurd H (by decide))
      ·rw [if_neg c13] at H
       have c13b0 : (t211 == 0) = false := beq_eq_false_iff_ne.mpr c13
       have c13b1 : (t211 != 0) = true := bne_iff_ne.mpr c13
       (rw [HRT.out] at H; exact absurd H (by decide))
     ·rw [if_neg c12] at H
      have c12b0 : (t227 == 8) = false := beq_eq_false_iff_ne.mpr c12
      have c12b1 : (t227 != 8) = true := bne_iff_ne.mpr c12
      (rw [HRT.out] at H; exact absurd H (by decide))
    ·rw [if_neg c10] at H
     have c10b0 : (t226 == 11) = false := beq_eq_false_iff_ne.mpr c10
     have c10b1 : (t226 != 11) = true := bne_iff_ne.mpr c10
     (rw [HRT.out] at H; exact absurd H (by decide))
   ·rw [if_neg c8] at H
    have c8b0 : (t204 == 11) = false := beq_eq_false_iff_ne.mpr c8
    have c8b1 : (t204 != 11) = true := bne_iff_ne.mpr c8
    (rw [HRT.out] at H; exact absurd H (by decide))
  ·rw [if_neg c7] at H
   have c7b0 : (t205 == 0) = false := beq_eq_false_iff_ne.mpr c7
   have c7b1 : (t205 != 0) = true := bne_iff_ne.mpr c7
   (rw [HRT.out] at H; exact absurd H (by decide))
 ·replace c6 := Bool.eq_false_iff.mpr c6
  subst c6
  have H1 : (some false) = some r := by rw [if_neg (show ¬ (false = true) by decide)] at H; exact H
  clear H; have H := H1; clear H1
  (rw [HRT.out] at H; exact absurd H (by decide))
end Go.Proofs.Ytohjocajaanhaaa.P

-- PRINTED by print.py (a twelfth state) out of the translation. Not trusted: Lean checks it.

namespace Go.Proofs.Ytohjocajaanhaaa.P
open Go.RowKit Go.Proofs.YtohjocajaanhaaaW.PrintWords Go.Proofs.YtohjocajaanhaaaW.PrintLast Go.Proofs.YtohjocajaanhaaaW.PrintMore
attribute [local go_sem] max2_int min2_int max_two min_two max_three min_three max_four min_four   -- for this text's walks alone
set_option linter.unusedVariables false
set_option linter.unusedSimpArgs false

/-! ### swarflaw38_few: function 11 -/
def swarflaw38_few.f (l0 : List (S31)) (a1 : Int) : Option (Bool) := if (l0.length : Int) ≤ a1 then (some true) else (if (l0.length : Int) > 199 then (some (decide ((l0.length : Int) < 203))) else (some false))
set_option maxHeartbeats 8000000 in
set_option maxRecDepth 100000 in
theorem swarflaw38_few.calls (A0 : Option Addr) (c0 : Nat) (l0 : List (S31)) (a1 : Int) (r : Bool) (w : World) (hr0 : Kd.C k31 w A0 l0.length l0) (hc0 : l0.length ≤ c0) (h : swarflaw38_few.f l0 a1 = some r) :
  Calls Try.prog 11 #[.slice A0 l0.length c0, .int .i64 a1] w fun e w' => e = .returned (.bool r) ∧ Drawn0 w w' := by
 have HR0 := Aside0.mk hr0
 have HC0 := Aside0.mk hc0
 clear hr0 hc0
 have H : (if (l0.length : Int) ≤ a1 then (some true) else (if (l0.length : Int) > 199 then (some (decide ((l0.length : Int) < 203))) else (some false))) = some r := h
 clear h
 by_cases c3 : (l0.length : Int) ≤ a1
 ·rw [if_pos c3] at H
  have c3b0 : decide ((l0.length : Int) ≤ a1) = true := decide_eq_true c3
  clear c3; obtain rfl := Option.some.inj H
  go_enter Try.func11, Try.ntmps11
  go_wp2; go_ret
  exact ⟨by first | rfl | (simp; done) | (simp [*]; done), by repeat (first | exact Drawn0.refl _ | apply Drawn0.step)⟩
 ·rw [if_neg c3] at H
  have c3b0 : decide ((l0.length : Int) ≤ a1) = false := decide_eq_false c3
  clear c3
  by_cases c4 : (l0.length : Int) > 199
  ·rw [if_pos c4] at H
   have c4b0 : decide (199 < (l0.length : Int)) = true := decide_eq_true c4
   have c4b1 : decide (199 < l0.length) = true := decide_eq_true (by omega)
   clear c4; obtain rfl := Option.some.inj H
   go_enter Try.func11, Try.ntmps11
   go_wp2; go_ret
   exact ⟨by first | rfl | (simp; done) | (simp [*]; done), by repeat (first | exact Drawn0.refl _ | apply Drawn0.step)⟩
  ·rw [if_neg c4] at H
   have c4b0 : decide (199 < (l0.length : Int)) = false := decide_eq_false c4
   have c4b1 : decide (199 < l0.length) = false := decide_eq_false (by omega)
   clear c4; obtain rfl := Option.some.inj H
   go_enter Try.func11, Try.ntmps11
   go_wp2; go_ret
   exact ⟨by first | rfl | (simp; done) | (simp [*]; done), by repeat (first | exact Drawn0.refl _ | apply Drawn0.step)⟩

end Go.Proofs.Ytohjocajaanhaaa.P

-- PRINTED by print.py (a twelfth state) out of the translation. Not trusted: Lean checks it.

namespace Go.Proofs.Ytohjocajaanhaaa.P
open Go.RowKit Go.Proofs.YtohjocajaanhaaaW.PrintWords Go.Proofs.YtohjocajaanhaaaW.PrintLast Go.Proofs.YtohjocajaanhaaaW.PrintMore
attribute [local go_sem] max2_int min2_int max_two min_two max_three min_three max_four min_four   -- for this text's walks alone
set_option linter.unusedVariables false
set_option linter.unusedSimpArgs false

/-! ### swarfref38_Valid: function 31 -/
def swarfref38_Valid.l0 : Nat → List (S31) → Int → Option (Int)
 | 0, _, _ => none
 | k + 1, x0, x5 => if x5 < (x0.length : Int) then (if 0 ≤ x5 then (if ((rd_T31 x0 x5).f0) > 10000000 then (some 11) else (if ((rd_T31 x0 x5).f0) < (-10000000) then (some 11) else (if ((rd_T31 x0 x5).f1) > 10000000 then (some 11) else (if ((rd_T31 x0 x5).f1) < (-10000000) then (some 11) else (swarfref38_Valid.l0 k x0 (wrap64 (x5 + 1))))))) else (none)) else (some 0)
def swarfref38_Valid.f (k : Nat) (l0 : List (S31)) (a1 : Int) : Option (Int) := if (l0.length : Int) > a1 then (some 3) else (swarfref38_Valid.l0 k l0 0)
theorem swarfref38_Valid.mono_l : ∀ k, (∀ y0 y1, LeO (swarfref38_Valid.l0 k y0 y1) (swarfref38_Valid.l0 (k + 1) y0 y1))
 | 0 => fun _ _ r h => by simp [swarfref38_Valid.l0] at h
 | k + 1 => by
  have ih0 := swarfref38_Valid.mono_l k
  ·intro y0 y1
   unfold swarfref38_Valid.l0
   repeat' first
   | (with_reducible exact ih0 _ _)
   | (with_reducible exact LeO.refl _)
   | (with_reducible exact LeO.none _)
   | (with_reducible refine LeO.ite ?_ ?_)
   | (with_reducible refine LeO.bind ?_ (fun _ => ?_))
   | exact ih0 _ _
   | exact LeO.none _
   | refine LeO.ite ?_ ?_
   | refine LeO.bind ?_ (fun _ => ?_)
theorem swarfref38_Valid.mono : ∀ a0 a1 k, LeO (swarfref38_Valid.f k a0 a1) (swarfref38_Valid.f (k + 1) a0 a1) := by
 intro a0 a1 k
 have ih0 := swarfref38_Valid.mono_l k
 unfold swarfref38_Valid.f
 repeat' first
   | (with_reducible exact ih0 _ _)
   | (with_reducible exact LeO.refl _)
   | (with_reducible exact LeO.none _)
   | (with_reducible refine LeO.ite ?_ ?_)
   | (with_reducible refine LeO.bind ?_ (fun _ => ?_))
   | exact ih0 _ _
   | exact LeO.none _
   | refine LeO.ite ?_ ?_
   | refine LeO.bind ?_ (fun _ => ?_)
set_option maxHeartbeats 8000000 in
set_option maxRecDepth 100000 in
theorem swarfref38_Valid.calls (k : Nat) (A0 : Option Addr) (c0 : Nat) (l0 : List (S31)) (a1 : Int) (r : Int) (w : World) (hr0 : Kd.C k31 w A0 l0.length l0) (hc0 : l0.length ≤ c0) (h : swarfref38_Valid.f k l0 a1 = some r) :
  Calls Try.prog 31 #[.slice A0 l0.length c0, .int .i64 a1] w fun e w' => e = .returned (.int .i64 r) ∧ Drawn0 w w' := by
 have HR0 := Aside0.mk hr0
 have HC0 := Aside0.mk hc0
 clear hr0 hc0
 have H : (if (l0.length : Int) > a1 then (some 3) else (swarfref38_Valid.l0 k l0 0)) = some r := h
 clear h
 by_cases c3 : (l0.length : Int) > a1
 ·rw [if_pos c3] at H
  have c3b0 : decide (a1 < (l0.length : Int)) = true := decide_eq_true c3
  clear c3; obtain rfl := Option.some.inj H
  go_enter Try.func31, Try.ntmps31
  go_wp2; go_ret
  exact ⟨by first | rfl | (simp; done) | (simp [*]; done), by repeat (first | exact Drawn0.refl _ | apply Drawn0.step)⟩
 ·rw [if_neg c3] at H
  have c3b0 : decide (a1 < (l0.length : Int)) = false := decide_eq_false c3
  clear c3; have H' := Aside0.mk H; clear H
  go_enter Try.func31, Try.ntmps31
  go_wp2
  go_loopg [5] k (fun kq v5 w' => ∃ (x5_1 : Int), v5 = .int .i64 x5_1 ∧ Aside0 (swarfref38_Valid.l0 kq l0 x5_1 = some r) ∧ Aside0 (kq ≤ k) ∧ Drawn0 w w')
  case atStart => exact ⟨(0), (by first | rfl | (simp; done) | (simp [*]; done)), H', ⟨Nat.le_refl _⟩, by repeat (first | exact Drawn0.refl _ | apply Drawn0.step)⟩
  case round =>
   clear H'; try clear p2; try clear c3; try clear c3b0
   obtain ⟨x5_1, rfl, HA, HK1, ⟨m1, rfl⟩⟩ := hrel
   cases gk with
   | zero => exact absurd HA.out (by simp [swarfref38_Valid.l0])
   | succ k1 =>
    have H := HA.out
    clear HA
    simp only [swarfref38_Valid.l0] at H
    by_cases c4 : x5_1 < (l0.length : Int)
    ·rw [if_pos c4] at H
     have c4b0 : decide (x5_1 < (l0.length : Int)) = true := decide_eq_true c4
     clear c4
     by_cases c5 : 0 ≤ x5_1
     ·rw [if_pos c5] at H
      have c5b0 : decide (0 ≤ x5_1) = true := decide_eq_true c5
      clear c5
      by_cases c6 : ((rd_T31 l0 x5_1).f0) > 10000000
      ·rw [if_pos c6] at H
       have c6b0 : decide (10000000 < ((rd_T31 l0 x5_1).f0)) = true := decide_eq_true c6
       clear c6; obtain rfl := Option.some.inj H
       have p232 : 0 ≤ (x5_1 : Int) := of_decide_eq_true (by first | (with_reducible assumption) | assumption)
       have q232 : x5_1 < (l0.length : Int) := of_decide_eq_true (by first | (with_reducible assumption) | assumption)
       obtain ⟨ad232, e232, hx232_0, hx232_1⟩ := at_T31 HR0.out x5_1 p232 q232
       cases e232; replace p232 := eq_true p232; replace q232 := eq_true q232; go_wp2; go_ret
       exact ⟨by first | rfl | (simp; done) | (simp [*]; done), by repeat (first | exact Drawn0.refl _ | apply Drawn0.step)⟩
      ·rw [if_neg c6] at H
       have c6b0 : decide (10000000 < ((rd_T31 l0 x5_1).f0)) = false := decide_eq_false c6
       clear c6
       by_cases c7 : ((rd_T31 l0 x5_1).f0) < (-10000000)
       ·rw [if_pos c7] at H
        have c7b0 : decide (((rd_T31 l0 x5_1).f0) < (-10000000)) = true := decide_eq_true c7
        clear c7; obtain rfl := Option.some.inj H
        have p232 : 0 ≤ (x5_1 : Int) := of_decide_eq_true (by first | (with_reducible assumption) | assumption)
        have q232 : x5_1 < (l0.length : Int) := of_decide_eq_true (by first | (with_reducible assumption) | assumption)
        obtain ⟨ad232, e232, hx232_0, hx232_1⟩ := at_T31 HR0.out x5_1 p232 q232
        cases e232; replace p232 := eq_true p232; replace q232 := eq_true q232
        have p233 : 0 ≤ (x5_1 : Int) := of_decide_eq_true (by first | (with_reducible assumption) | assumption)
        have q233 : x5_1 < (l0.length : Int) := of_decide_eq_true (by first | (with_reducible assumption) | assumption)
        obtain ⟨ad233, e233, hx233_0, hx233_1⟩ := at_T31 HR0.out x5_1 p233 q233
        obtain rfl : ad232 = ad233 := (by injection e233)
        replace p233 := eq_true p233; replace q233 := eq_true q233; go_wp2; go_ret
        exact ⟨by first | rfl | (simp; done) | (simp [*]; done), by repeat (first | exact Drawn0.refl _ | apply Drawn0.step)⟩
       ·rw [if_neg c7] at H
        have c7b0 : decide (((rd_T31 l0 x5_1).f0) < (-10000000)) = false := decide_eq_false c7
        clear c7
        by_cases c8 : ((rd_T31 l0 x5_1).f1) > 10000000
        ·rw [if_pos c8] at H
         have c8b0 : decide (10000000 < ((rd_T31 l0 x5_1).f1)) = true := decide_eq_true c8
         clear c8; obtain rfl := Option.some.inj H
         have p232 : 0 ≤ (x5_1 : Int) := of_decide_eq_true (by first | (with_reducible assumption) | assumption)
         have q232 : x5_1 < (l0.length : Int) := of_decide_eq_true (by first | (with_reducible assumption) | assumption)
         obtain ⟨ad232, e232, hx232_0, hx232_1⟩ := at_T31 HR0.out x5_1 p232 q232
         cases e232; replace p232 := eq_true p232; replace q232 := eq_true q232
         have p233 : 0 ≤ (x5_1 : Int) := of_decide_eq_true (by first | (with_reducible assumption) | assumption)
         have q233 : x5_1 < (l0.length : Int) := of_decide_eq_true (by first | (with_reducible assumption) | assumption)
         obtain ⟨ad233, e233, hx233_0, hx233_1⟩ := at_T31 HR0.out x5_1 p233 q233
         obtain rfl : ad232 = ad233 := (by injection e233)
         replace p233 := eq_true p233; replace q233 := eq_true q233
         have p234 : 0 ≤ (x5_1 : Int) := of_decide_eq_true (by first | (with_reducible assumption) | assumption)
         have q234 : x5_1 < (l0.length : Int) := of_decide_eq_true (by first | (with_reducible assumption) | assumption)
         obtain ⟨ad234, e234, hx234_0, hx234_1⟩ := at_T31 HR0.out x5_1 p234 q234
         obtain rfl : ad232 = ad234 := (by injection e234)
         replace p234 := eq_true p234; replace q234 := eq_true q234; go_wp2; go_ret
         exact ⟨by first | rfl | (simp; done) | (simp [*]; done), by repeat (first | exact Drawn0.refl _ | apply Drawn0.step)⟩
        ·rw [if_neg c8] at H
         have c8b0 : decide (10000000 < ((rd_T31 l0 x5_1).f1)) = false := decide_eq_false c8
         clear c8
         by_cases c9 : ((rd_T31 l0 x5_1).f1) < (-10000000)
         ·rw [if_pos c9] at H
          have c9b0 : decide (((rd_T31 l0 x5_1).f1) < (-10000000)) = true := decide_eq_true c9
          clear c9; obtain rfl := Option.some.inj H
          have p232 : 0 ≤ (x5_1 : Int) := of_decide_eq_true (by first | (with_reducible assumption) | assumption)
          have q232 : x5_1 < (l0.length : Int) := of_decide_eq_true (by first | (with_reducible assumption) | assumption)
          obtain ⟨ad232, e232, hx232_0, hx232_1⟩ := at_T31 HR0.out x5_1 p232 q232
          cases e232; replace p232 := eq_true p232; replace q232 := eq_true q232
          have p233 : 0 ≤ (x5_1 : Int) := of_decide_eq_true (by first | (with_reducible assumption) | assumption)
          have q233 : x5_1 < (l0.length : Int) := of_decide_eq_true (by first | (with_reducible assumption) | assumption)
          obtain ⟨ad233, e233, hx233_0, hx233_1⟩ := at_T31 HR0.out x5_1 p233 q233
          obtain rfl : ad232 = ad233 := (by injection e233)
          replace p233 := eq_true p233; replace q233 := eq_true q233
          have p234 : 0 ≤ (x5_1 : Int) := of_decide_eq_true (by first | (with_reducible assumption) | assumption)
          have q234 : x5_1 < (l0.length : Int) := of_decide_eq_true (by first | (with_reducible assumption) | assumption)
          obtain ⟨ad234, e234, hx234_0, hx234_1⟩ := at_T31 HR0.out x5_1 p234 q234
          obtain rfl : ad232 = ad234 := (by injection e234)
          replace p234 := eq_true p234; replace q234 := eq_true q234
          have p235 : 0 ≤ (x5_1 : Int) := of_decide_eq_true (by first | (with_reducible assumption) | assumption)
          have q235 : x5_1 < (l0.length : Int) := of_decide_eq_true (by first | (with_reducible assumption) | assumption)
          obtain ⟨ad235, e235, hx235_0, hx235_1⟩ := at_T31 HR0.out x5_1 p235 q235
          obtain rfl : ad232 = ad235 := (by injection e235)
          replace p235 := eq_true p235; replace q235 := eq_true q235; go_wp2; go_ret
          exact ⟨by first | rfl | (simp; done) | (simp [*]; done), by repeat (first | exact Drawn0.refl _ | apply Drawn0.step)⟩
         ·rw [if_neg c9] at H
          have c9b0 : decide (((rd_T31 l0 x5_1).f1) < (-10000000)) = false := decide_eq_false c9
          clear c9; have H' := Aside0.mk H; clear H
          have p232 : 0 ≤ (x5_1 : Int) := of_decide_eq_true (by first | (with_reducible assumption) | assumption)
          have q232 : x5_1 < (l0.length : Int) := of_decide_eq_true (by first | (with_reducible assumption) | assumption)
          obtain ⟨ad232, e232, hx232_0, hx232_1⟩ := at_T31 HR0.out x5_1 p232 q232
          cases e232; replace p232 := eq_true p232; replace q232 := eq_true q232
          have p233 : 0 ≤ (x5_1 : Int) := of_decide_eq_true (by first | (with_reducible assumption) | assumption)
          have q233 : x5_1 < (l0.length : Int) := of_decide_eq_true (by first | (with_reducible assumption) | assumption)
          obtain ⟨ad233, e233, hx233_0, hx233_1⟩ := at_T31 HR0.out x5_1 p233 q233
          obtain rfl : ad232 = ad233 := (by injection e233)
          replace p233 := eq_true p233; replace q233 := eq_true q233
          have p234 : 0 ≤ (x5_1 : Int) := of_decide_eq_true (by first | (with_reducible assumption) | assumption)
          have q234 : x5_1 < (l0.length : Int) := of_decide_eq_true (by first | (with_reducible assumption) | assumption)
          obtain ⟨ad234, e234, hx234_0, hx234_1⟩ := at_T31 HR0.out x5_1 p234 q234
          obtain rfl : ad232 = ad234 := (by injection e234)
          replace p234 := eq_true p234; replace q234 := eq_true q234
          have p235 : 0 ≤ (x5_1 : Int) := of_decide_eq_true (by first | (with_reducible assumption) | assumption)
          have q235 : x5_1 < (l0.length : Int) := of_decide_eq_true (by first | (with_reducible assumption) | assumption)
          obtain ⟨ad235, e235, hx235_0, hx235_1⟩ := at_T31 HR0.out x5_1 p235 q235
          obtain rfl : ad232 = ad235 := (by injection e235)
          replace p235 := eq_true p235; replace q235 := eq_true q235; go_wp2
          go_roundg k1
          case measure => have := HK1.out; omega
          case rel => exact ⟨(wrap64 (x5_1 + 1)), (by first | rfl | (simp; done) | (simp [*]; done)), H', ⟨by have := HK1.out; omega⟩, by repeat (first | exact Drawn0.refl _ | apply Drawn0.step)⟩
     ·rw [if_neg c5] at H
      exact absurd H (by simp)
    ·rw [if_neg c4] at H
     have c4b0 : decide (x5_1 < (l0.length : Int)) = false := decide_eq_false c4
     clear c4; obtain rfl := Option.some.inj H; go_wp2; go_ret
     exact ⟨by first | rfl | (simp; done) | (simp [*]; done), by repeat (first | exact Drawn0.refl _ | apply Drawn0.step)⟩

end Go.Proofs.Ytohjocajaanhaaa.P

-- PRINTED by print.py (a twelfth state) out of the translation. Not trusted: Lean checks it.

namespace Go.Proofs.Ytohjocajaanhaaa.P
open Go.RowKit Go.Proofs.YtohjocajaanhaaaW.PrintWords Go.Proofs.YtohjocajaanhaaaW.PrintLast Go.Proofs.YtohjocajaanhaaaW.PrintMore
attribute [local go_sem] max2_int min2_int max_two min_two max_three min_three max_four min_four   -- for this text's walks alone
set_option linter.unusedVariables false
set_option linter.unusedSimpArgs false

/-! ### swarfref38_Order: function 32 -/
mutual
def swarfref38_Order.j0 : Nat → Int → List Int → Bool → Option (Bool)
 | 0, _, _, _ => none
 | k + 1, x0, x1, x20 => if x20 = true then (some false) else (if 0 ≤ x0 then (if (x0 : Int).toNat ≤ 281474976710656 then (swarfref38_Order.l0 k x0 x1 (List.replicate (x0 : Int).toNat false) 0) else (none)) else (none))
def swarfref38_Order.l0 : Nat → Int → List Int → List Bool → Int → Option (Bool)
 | 0, _, _, _, _ => none
 | k + 1, x0, x1, x5, x6 => if x6 < x0 then (if 0 ≤ x6 then (if x6 < (x1.length : Int) then (if (rd x1 x6) < 0 then (some false) else (if (rd x1 x6) ≥ x0 then (some false) else (if 0 ≤ (rd x1 x6) then (if (rd x1 x6) < (x5.length : Int) then (if rdOf false x5 (rd x1 x6) = true then (some false) else (swarfref38_Order.l0 k x0 x1 (x5.set ((rd x1 x6) : Int).toNat true) (wrap64 (x6 + 1)))) else (none)) else (none)))) else (none)) else (none)) else (some true)
end
def swarfref38_Order.f (k : Nat) (a0 : Int) (l1 : List Int) : Option (Bool) := if (l1.length : Int) = a0 then (if a0 > 0 then (if 0 < (l1.length : Int) then (swarfref38_Order.j0 k a0 l1 ((rd l1 0) != 0)) else (none)) else (swarfref38_Order.j0 k a0 l1 false)) else (swarfref38_Order.j0 k a0 l1 true)
theorem swarfref38_Order.mono_l : ∀ k, (∀ y0 y1 y2, LeO (swarfref38_Order.j0 k y0 y1 y2) (swarfref38_Order.j0 (k + 1) y0 y1 y2)) ∧ (∀ y0 y1 y2 y3, LeO (swarfref38_Order.l0 k y0 y1 y2 y3) (swarfref38_Order.l0 (k + 1) y0 y1 y2 y3))
 | 0 => ⟨fun _ _ _ r h => by simp [swarfref38_Order.j0] at h, fun _ _ _ _ r h => by simp [swarfref38_Order.l0] at h⟩
 | k + 1 => by
  obtain ⟨ih0, ih1⟩ := swarfref38_Order.mono_l k
  refine ⟨?_, ?_⟩
  ·intro y0 y1 y2
   unfold swarfref38_Order.j0
   repeat' first
   | (with_reducible exact ih0 _ _ _)
   | (with_reducible exact ih1 _ _ _ _)
   | (with_reducible exact LeO.refl _)
   | (with_reducible exact LeO.none _)
   | (with_reducible refine LeO.ite ?_ ?_)
   | (with_reducible refine LeO.bind ?_ (fun _ => ?_))
   | exact ih0 _ _ _
   | exact ih1 _ _ _ _
   | exact LeO.none _
   | refine LeO.ite ?_ ?_
   | refine LeO.bind ?_ (fun _ => ?_)
  ·intro y0 y1 y2 y3
   unfold swarfref38_Order.l0
   repeat' first
   | (with_reducible exact ih0 _ _ _)
   | (with_reducible exact ih1 _ _ _ _)
   | (with_reducible exact LeO.refl _)
   | (with_reducible exact LeO.none _)
   | (with_reducible refine LeO.ite ?_ ?_)
   | (with_reducible refine LeO.bind ?_ (fun _ => ?_))
   | exact ih0 _ _ _
   | exact ih1 _ _ _ _
   | exact LeO.none _
   | refine LeO.ite ?_ ?_
   | refine LeO.bind ?_ (fun _ => ?_)
theorem swarfref38_Order.mono : ∀ a0 a1 k, LeO (swarfref38_Order.f k a0 a1) (swarfref38_Order.f (k + 1) a0 a1) := by
 intro a0 a1 k
 obtain ⟨ih0, ih1⟩ := swarfref38_Order.mono_l k
 unfold swarfref38_Order.f
 repeat' first
   | (with_reducible exact ih0 _ _ _)
   | (with_reducible exact ih1 _ _ _ _)
   | (with_reducible exact LeO.refl _)
   | (with_reducible exact LeO.none _)
   | (with_reducible refine LeO.ite ?_ ?_)
   | (with_reducible refine LeO.bind ?_ (fun _ => ?_))
   | exact ih0 _ _ _
   | exact ih1 _ _ _ _
   | exact LeO.none _
   | refine LeO.ite ?_ ?_
   | refine LeO.bind ?_ (fun _ => ?_)
set_option maxHeartbeats 8000000 in
set_option maxRecDepth 100000 in
theorem swarfref38_Order.calls (k : Nat) (a0 : Int) (A1 : Option Addr) (c1 : Nat) (l1 : List Int) (r : Bool) (w : World) (hr1 : Kd.C (Kd.int .i64) w A1 l1.length l1) (hc1 : l1.length ≤ c1) (h : swarfref38_Order.f k a0 l1 = some r) :
  Calls Try.prog 32 #[.int .i64 a0, .slice A1 l1.length c1] w fun e w' => e = .returned (.bool r) ∧ Below w.heap.size w w' := by
 have HR1 := Aside0.mk hr1
 have HC1 := Aside0.mk hc1
 clear hr1 hc1
 have HB := Aside0.mk (Below.refl w.heap.size w)
 have H : (if (l1.length : Int) = a0 then (if a0 > 0 then (if 0 < (l1.length : Int) then (swarfref38_Order.j0 k a0 l1 ((rd l1 0) != 0)) else (none)) else (swarfref38_Order.j0 k a0 l1 false)) else (swarfref38_Order.j0 k a0 l1 true)) = some r := h
 clear h
 have HC3 := Aside0.mk H
 clear H
 go_enter Try.func32, Try.ntmps32
 go_upto_region 1 with (fail)
 go_cut [20] (fun v20 wc => ∃ (kq : Nat) (x20_2 : Bool), v20 = .bool x20_2 ∧ Aside0 (swarfref38_Order.j0 kq a0 l1 x20_2 = some r) ∧ Aside0 (kq ≤ k) ∧ Aside0 (Below w.heap.size w wc))
 case first =>
  have H := HC3.out
  clear HC3
  by_cases c4 : (l1.length : Int) = a0
  ·rw [if_pos c4] at H
   have c4b0 : ((l1.length : Int) == a0) = true := beq_iff_eq.mpr c4
   have c4b1 : ((l1.length : Int) != a0) = false := bne_eq_false_iff_eq.mpr c4
   clear c4
   (first | rw [c4b0] | (simp only [i64_w, i32_w]; rw [c4b0]) | skip)
   by_cases c5 : a0 > 0
   ·rw [if_pos c5] at H
    have c5b0 : decide (0 < a0) = true := decide_eq_true c5
    clear c5
    by_cases c6 : 0 < (l1.length : Int)
    ·rw [if_pos c6] at H
     have c6b0 : decide (0 < (l1.length : Int)) = true := decide_eq_true c6
     have c6b1 : decide (0 < l1.length) = true := decide_eq_true (by omega)
     clear c6; have H' := Aside0.mk H; clear H
     have p236 : 0 ≤ (0 : Int) := (by omega)
     have q236 : 0 < (l1.length : Int) := of_decide_eq_true (by first | (with_reducible assumption) | assumption)
     obtain ⟨ad236, e236, hx236_0⟩ := Kd.at_int HR1.out 0 p236 q236
     cases e236
     have qi236 : (0 < l1.length) = True := eq_true (by omega)
     (try rw [show ((0 : Int)).toNat = 0 from rfl] at hx236_0)
     (try rw [Addr.add_zero'] at hx236_0)
     replace hx236_0 := (HB.out.cell (World.block_lt_of_cell? w _ hx236_0)).trans hx236_0
     replace p236 := eq_true p236; replace q236 := eq_true q236; go_wp2
     go_meet
     case rel => exact ⟨_, (((rd l1 0) != 0)), (by first | rfl | (simp; done) | (simp [*]; done)), H', ⟨by first | omega | exact Nat.le_refl _⟩, ⟨by repeat (first | (with_reducible first | exact HB.out | apply below_alloc | apply pw_below_drewN | apply below_drew1) | exact HB.out)⟩⟩
    ·rw [if_neg c6] at H
     exact absurd H (by simp)
   ·rw [if_neg c5] at H
    have c5b0 : decide (0 < a0) = false := decide_eq_false c5
    clear c5; have H' := Aside0.mk H; clear H; go_wp2
    go_meet
    case rel => exact ⟨_, (false), (by first | rfl | (simp; done) | (simp [*]; done)), H', ⟨by first | omega | exact Nat.le_refl _⟩, ⟨by repeat (first | (with_reducible first | exact HB.out | apply below_alloc | apply pw_below_drewN | apply below_drew1) | exact HB.out)⟩⟩
  ·rw [if_neg c4] at H
   have c4b0 : ((l1.length : Int) == a0) = false := beq_eq_false_iff_ne.mpr c4
   have c4b1 : ((l1.length : Int) != a0) = true := bne_iff_ne.mpr c4
   (first | rw [c4b0] | (simp only [i64_w, i32_w]; rw [c4b0]) | skip)
   have H' := Aside0.mk H; clear H; go_wp2
   go_meet
   case rel => exact ⟨_, (true), (by first | rfl | (simp; done) | (simp [*]; done)), H', ⟨by first | omega | exact Nat.le_refl _⟩, ⟨by repeat (first | (with_reducible first | exact HB.out | apply below_alloc | apply pw_below_drewN | apply below_drew1) | exact HB.out)⟩⟩
 case rest =>
  clear HC3; try clear c1; try clear p2; try clear q2; try clear hx2; try clear qi2; try clear c3; try clear c4; try clear c4b0; try clear c4b1; try clear c5; try clear c5b0; try clear c6; try clear c6b0; try clear c6b1; try clear hx236_0; try clear p236; try clear q236
  obtain ⟨kq, x20_2, rfl, HA, HJ2, HB⟩ := hcut
  cases kq with
  | zero => exact absurd HA.out (by simp [swarfref38_Order.j0])
  | succ kj2 =>
   have H := HA.out
   clear HA
   simp only [swarfref38_Order.j0] at H
   by_cases c7 : x20_2 = true
   ·subst c7
    have H1 : (some false) = some r := by rw [if_pos rfl] at H; exact H
    clear H; have H := H1; clear H1; obtain rfl := Option.some.inj H; go_wp2; go_ret
    exact ⟨by first | rfl | (simp [errW_none, errW_some] <;> rfl) | (simp [*, errW_none, errW_some] <;> rfl), by repeat (first | (with_reducible first | exact HB.out | apply below_alloc | apply pw_below_drewN | apply below_drew1) | exact HB.out)⟩
   ·replace c7 := Bool.eq_false_iff.mpr c7
    subst c7
    have H1 : (if 0 ≤ a0 then (if (a0 : Int).toNat ≤ 281474976710656 then (swarfref38_Order.l0 kj2 a0 l1 (List.replicate (a0 : Int).toNat false) 0) else (none)) else (none)) = some r := by rw [if_neg (show ¬ (false = true) by decide)] at H; exact H
    clear H; have H := H1; clear H1
    by_cases c8 : 0 ≤ a0
    ·rw [if_pos c8] at H
     have c8b0 := eq_true c8
     have c8b1 : decide (0 ≤ a0) = true := decide_eq_true c8
     clear c8
     by_cases c9 : (a0 : Int).toNat ≤ 281474976710656
     ·rw [if_pos c9] at H
      have c9b0 := eq_true c9
      have c9b1 : decide ((a0 : Int).toNat ≤ 281474976710656) = true := decide_eq_true c9
      clear c9
      obtain ⟨y237, hy237⟩ : ∃ y_ : List Bool, y_ = (List.replicate (a0 : Int).toNat false) := ⟨_, rfl⟩
      replace H : (swarfref38_Order.l0 kj2 a0 l1 y237 0) = some r := by first | (rw [hy237]; with_reducible exact H) | (have H2_ := (Option.bind_some _ _).symm.trans H; rw [hy237]; with_reducible exact H2_) | (have H2_ := (Option.bind_some _ _).symm.trans H; with_reducible exact H2_) | with_reducible exact H | (rw [hy237]; exact H) | exact H
      have Ny237 := Aside0.mk hy237; clear hy237; have H' := Aside0.mk H; clear H
      go_wp2_with (first | ((with_reducible refine gate_dst (N := 22) rfl ?_); refine Kd.R_make Kd.bool _ 4 rfl (N := 22) rfl 49 _ _ rfl a0 rfl rfl Try.underlying49 (.bool false) 1 info4 rfl (by decide) (by omega) false (ok := fun _ => True) (okp := fun _ => True) rfl (fun _ hk => hk) trivial (of_decide_eq_true (by first | (with_reducible assumption) | assumption)) (Nat.le_trans (Nat.mul_le_mul_right _ (of_decide_eq_true (by first | (with_reducible assumption) | assumption) : a0.toNat ≤ 281474976710656)) (by omega)) (Below.refl _ _) (Nat.le_refl _) ?_; intro v238 w10 ho11 hb hg_ hnew_; clear hg_ hnew_; (first | rw [← Ny237.out] at ho11 | (simp only [Int.reduceToNat] at ho11; rw [← Ny237.out] at ho11)); have n0_ := Aside0.mk (Kd.R_lower ho11 (below_size (by repeat (first | (with_reducible first | exact HB.out | apply below_alloc | apply pw_below_drewN | apply below_drew1) | exact HB.out)))); have n1_ := Aside0.mk (below_step (by repeat (first | (with_reducible first | exact HB.out | apply below_alloc | apply pw_below_drewN | apply below_drew1) | exact HB.out)) hb); clear HB; have HO239 := n0_; have HB := n1_; clear n0_ n1_; clear hb ho11))
      go_loopg [6] kj2 (fun kq v6 w' => ∃ (x5_2 : List Bool) (x6_2 : Int), v6 = .int .i64 x6_2 ∧ Aside0 (swarfref38_Order.l0 kq a0 l1 x5_2 x6_2 = some r) ∧ Aside0 (kq ≤ kj2) ∧ Aside0 (Kd.R Kd.bool 4 w' w.heap.size (fun _ => True) v238 x5_2) ∧ Aside0 (Below w.heap.size w w'))
      case atStart => exact ⟨(y237), (0), (by first | rfl | (simp; done) | (simp [*]; done)), H', ⟨Nat.le_refl _⟩, ⟨by (with_reducible repeat (first | apply Kd.R_alloc | apply Kd.R_drewN | apply Kd.R_drew)); exact HO239.out⟩, ⟨by repeat (first | (with_reducible first | exact HB.out | apply below_alloc | apply pw_below_drewN | apply below_drew1) | exact HB.out)⟩⟩
      case round =>
       clear H'; try clear c1; try clear p2; try clear q2; try clear hx2; try clear qi2; try clear c3; try clear c4; try clear c4b0; try clear c4b1; try clear c5; try clear c5b0; try clear c6; try clear c6b0; try clear c6b1; try clear c7; try clear c8; try clear c8b0; try clear c8b1; try clear c9; try clear c9b0; try clear c9b1; try clear hx236_0; try clear p2; try clear p236; try clear q2; try clear q236
       obtain ⟨x5_2, x6_2, rfl, HA, HK2, HO_5, HB⟩ := hrel
       cases gk with
       | zero => exact absurd HA.out (by simp [swarfref38_Order.l0])
       | succ k2 =>
        have H := HA.out
        clear HA
        simp only [swarfref38_Order.l0] at H
        by_cases c12 : x6_2 < a0
        ·rw [if_pos c12] at H
         have c12b0 : decide (x6_2 < a0) = true := decide_eq_true c12
         clear c12
         by_cases c13 : 0 ≤ x6_2
         ·rw [if_pos c13] at H
          have c13b0 : decide (0 ≤ x6_2) = true := decide_eq_true c13
          clear c13
          by_cases c14 : x6_2 < (l1.length : Int)
          ·rw [if_pos c14] at H
           have c14b0 : decide (x6_2 < (l1.length : Int)) = true := decide_eq_true c14
           clear c14
           by_cases c15 : (rd l1 x6_2) < 0
           ·rw [if_pos c15] at H
            have c15b0 : decide ((rd l1 x6_2) < 0) = true := decide_eq_true c15
            clear c15; obtain rfl := Option.some.inj H
            have p240 : 0 ≤ (x6_2 : Int) := of_decide_eq_true (by first | (with_reducible assumption) | assumption)
            have q240 : x6_2 < (l1.length : Int) := of_decide_eq_true (by first | (with_reducible assumption) | assumption)
            obtain ⟨ad240, e240, hx240_0⟩ := Kd.at_int HR1.out x6_2 p240 q240
            cases e240
            replace hx240_0 := (HB.out.cell (World.block_lt_of_cell? w _ hx240_0)).trans hx240_0
            replace p240 := eq_true p240; replace q240 := eq_true q240; go_wp2; go_ret
            exact ⟨by first | rfl | (simp [errW_none, errW_some] <;> rfl) | (simp [*, errW_none, errW_some] <;> rfl), by repeat (first | (with_reducible first | exact HB.out | apply below_alloc | apply pw_below_drewN | apply below_drew1) | exact HB.out)⟩
           ·rw [if_neg c15] at H
            have c15b0 : decide ((rd l1 x6_2) < 0) = false := decide_eq_false c15
            clear c15
            by_cases c16 : (rd l1 x6_2) ≥ a0
            ·rw [if_pos c16] at H
             have c16b0 : decide (a0 ≤ (rd l1 x6_2)) = true := decide_eq_true c16
             clear c16; obtain rfl := Option.some.inj H
             have p240 : 0 ≤ (x6_2 : Int) := of_decide_eq_true (by first | (with_reducible assumption) | assumption)
             have q240 : x6_2 < (l1.length : Int) := of_decide_eq_true (by first | (with_reducible assumption) | assumption)
             obtain ⟨ad240, e240, hx240_0⟩ := Kd.at_int HR1.out x6_2 p240 q240
             cases e240
             replace hx240_0 := (HB.out.cell (World.block_lt_of_cell? w _ hx240_0)).trans hx240_0
             replace p240 := eq_true p240; replace q240 := eq_true q240
             have p241 : 0 ≤ (x6_2 : Int) := of_decide_eq_true (by first | (with_reducible assumption) | assumption)
             have q241 : x6_2 < (l1.length : Int) := of_decide_eq_true (by first | (with_reducible assumption) | assumption)
             obtain ⟨ad241, e241, hx241_0⟩ := Kd.at_int HR1.out x6_2 p241 q241
             obtain rfl : ad240 = ad241 := (by injection e241)
             replace hx241_0 := (HB.out.cell (World.block_lt_of_cell? w _ hx241_0)).trans hx241_0
             replace p241 := eq_true p241; replace q241 := eq_true q241; go_wp2; go_ret
             exact ⟨by first | rfl | (simp [errW_none, errW_some] <;> rfl) | (simp [*, errW_none, errW_some] <;> rfl), by repeat (first | (with_reducible first | exact HB.out | apply below_alloc | apply pw_below_drewN | apply below_drew1) | exact HB.out)⟩
            ·rw [if_neg c16] at H
             have c16b0 : decide (a0 ≤ (rd l1 x6_2)) = false := decide_eq_false c16
             clear c16
             by_cases c17 : 0 ≤ (rd l1 x6_2)
             ·rw [if_pos c17] at H
              have c17b0 : decide (0 ≤ (rd l1 x6_2)) = true := decide_eq_true c17
              clear c17
              by_cases c18 : (rd l1 x6_2) < (x5_2.length : Int)
              ·rw [if_pos c18] at H
               have c18b0 : decide ((rd l1 x6_2) < (x5_2.length : Int)) = true := decide_eq_true c18
               clear c18
               obtain ⟨bq19, hbq19⟩ : ∃ b_ : Bool, b_ = (rdOf false x5_2 (rd l1 x6_2)) := ⟨_, rfl⟩
               replace H : (if bq19 = true then (some false) else (swarfref38_Order.l0 k2 a0 l1 (x5_2.set ((rd l1 x6_2) : Int).toNat true) (wrap64 (x6_2 + 1)))) = some r := by rw [← hbq19] at H; exact H
               have Nbq19 := Aside0.mk hbq19; clear hbq19
               by_cases c20 : bq19 = true
               ·subst c20
                have H1 : (some false) = some r := by rw [if_pos rfl] at H; exact H
                clear H; have H := H1; clear H1; obtain rfl := Option.some.inj H
                have p240 : 0 ≤ (x6_2 : Int) := of_decide_eq_true (by first | (with_reducible assumption) | assumption)
                have q240 : x6_2 < (l1.length : Int) := of_decide_eq_true (by first | (with_reducible assumption) | assumption)
                obtain ⟨ad240, e240, hx240_0⟩ := Kd.at_int HR1.out x6_2 p240 q240
                cases e240
                replace hx240_0 := (HB.out.cell (World.block_lt_of_cell? w _ hx240_0)).trans hx240_0
                replace p240 := eq_true p240; replace q240 := eq_true q240
                have p241 : 0 ≤ (x6_2 : Int) := of_decide_eq_true (by first | (with_reducible assumption) | assumption)
                have q241 : x6_2 < (l1.length : Int) := of_decide_eq_true (by first | (with_reducible assumption) | assumption)
                obtain ⟨ad241, e241, hx241_0⟩ := Kd.at_int HR1.out x6_2 p241 q241
                obtain rfl : ad240 = ad241 := (by injection e241)
                replace hx241_0 := (HB.out.cell (World.block_lt_of_cell? w _ hx241_0)).trans hx241_0
                replace p241 := eq_true p241; replace q241 := eq_true q241
                have p242 : 0 ≤ (x6_2 : Int) := of_decide_eq_true (by first | (with_reducible assumption) | assumption)
                have q242 : x6_2 < (l1.length : Int) := of_decide_eq_true (by first | (with_reducible assumption) | assumption)
                obtain ⟨ad242, e242, hx242_0⟩ := Kd.at_int HR1.out x6_2 p242 q242
                obtain rfl : ad240 = ad242 := (by injection e242)
                replace hx242_0 := (HB.out.cell (World.block_lt_of_cell? w _ hx242_0)).trans hx242_0
                replace p242 := eq_true p242; replace q242 := eq_true q242
                obtain ⟨Ao21, co21, eo21⟩ := Kd.R_slice HO_5.out
                subst eo21
                have p243 : 0 ≤ ((rd l1 x6_2) : Int) := of_decide_eq_true (by first | (with_reducible assumption) | assumption)
                have q243 : (rd l1 x6_2) < (x5_2.length : Int) := of_decide_eq_true (by first | (with_reducible assumption) | assumption)
                obtain ⟨ad243, e243, hx243_0⟩ := Kd.at_bool (Kd.R_reads' HO_5.out).2.2 (rd l1 x6_2) p243 q243
                (try rw [← Nbq19.out] at hx243_0)
                cases e243; replace p243 := eq_true p243; replace q243 := eq_true q243; go_wp2; go_ret
                exact ⟨by first | rfl | (simp [errW_none, errW_some] <;> rfl) | (simp [*, errW_none, errW_some] <;> rfl), by repeat (first | (with_reducible first | exact HB.out | apply below_alloc | apply pw_below_drewN | apply below_drew1) | exact HB.out)⟩
               ·replace c20 := Bool.eq_false_iff.mpr c20
                subst c20
                have H1 : (swarfref38_Order.l0 k2 a0 l1 (x5_2.set ((rd l1 x6_2) : Int).toNat true) (wrap64 (x6_2 + 1))) = some r := by rw [if_neg (show ¬ (false = true) by decide)] at H; exact H
                clear H; have H := H1; clear H1
                obtain ⟨y245, hy245⟩ : ∃ y_ : List Bool, y_ = (x5_2.set ((rd l1 x6_2) : Int).toNat true) := ⟨_, rfl⟩
                replace H : (swarfref38_Order.l0 k2 a0 l1 y245 (wrap64 (x6_2 + 1))) = some r := by first | (rw [hy245]; with_reducible exact H) | (have H2_ := (Option.bind_some _ _).symm.trans H; rw [hy245]; with_reducible exact H2_) | (have H2_ := (Option.bind_some _ _).symm.trans H; with_reducible exact H2_) | with_reducible exact H | (rw [hy245]; exact H) | exact H
                have Ny245 := Aside0.mk hy245; clear hy245; have H' := Aside0.mk H; clear H
                have p240 : 0 ≤ (x6_2 : Int) := of_decide_eq_true (by first | (with_reducible assumption) | assumption)
                have q240 : x6_2 < (l1.length : Int) := of_decide_eq_true (by first | (with_reducible assumption) | assumption)
                obtain ⟨ad240, e240, hx240_0⟩ := Kd.at_int HR1.out x6_2 p240 q240
                cases e240
                replace hx240_0 := (HB.out.cell (World.block_lt_of_cell? w _ hx240_0)).trans hx240_0
                replace p240 := eq_true p240; replace q240 := eq_true q240
                have p241 : 0 ≤ (x6_2 : Int) := of_decide_eq_true (by first | (with_reducible assumption) | assumption)
                have q241 : x6_2 < (l1.length : Int) := of_decide_eq_true (by first | (with_reducible assumption) | assumption)
                obtain ⟨ad241, e241, hx241_0⟩ := Kd.at_int HR1.out x6_2 p241 q241
                obtain rfl : ad240 = ad241 := (by injection e241)
                replace hx241_0 := (HB.out.cell (World.block_lt_of_cell? w _ hx241_0)).trans hx241_0
                replace p241 := eq_true p241; replace q241 := eq_true q241
                have p242 : 0 ≤ (x6_2 : Int) := of_decide_eq_true (by first | (with_reducible assumption) | assumption)
                have q242 : x6_2 < (l1.length : Int) := of_decide_eq_true (by first | (with_reducible assumption) | assumption)
                obtain ⟨ad242, e242, hx242_0⟩ := Kd.at_int HR1.out x6_2 p242 q242
                obtain rfl : ad240 = ad242 := (by injection e242)
                replace hx242_0 := (HB.out.cell (World.block_lt_of_cell? w _ hx242_0)).trans hx242_0
                replace p242 := eq_true p242; replace q242 := eq_true q242
                obtain ⟨Ao23, co23, eo23⟩ := Kd.R_slice HO_5.out
                subst eo23
                have p243 : 0 ≤ ((rd l1 x6_2) : Int) := of_decide_eq_true (by first | (with_reducible assumption) | assumption)
                have q243 : (rd l1 x6_2) < (x5_2.length : Int) := of_decide_eq_true (by first | (with_reducible assumption) | assumption)
                obtain ⟨ad243, e243, hx243_0⟩ := Kd.at_bool (Kd.R_reads' HO_5.out).2.2 (rd l1 x6_2) p243 q243
                (try rw [← Nbq19.out] at hx243_0)
                cases e243; replace p243 := eq_true p243; replace q243 := eq_true q243
                have p244 : 0 ≤ (x6_2 : Int) := of_decide_eq_true (by first | (with_reducible assumption) | assumption)
                have q244 : x6_2 < (l1.length : Int) := of_decide_eq_true (by first | (with_reducible assumption) | assumption)
                obtain ⟨ad244, e244, hx244_0⟩ := Kd.at_int HR1.out x6_2 p244 q244
                obtain rfl : ad240 = ad244 := (by injection e244)
                replace hx244_0 := (HB.out.cell (World.block_lt_of_cell? w _ hx244_0)).trans hx244_0
                replace p244 := eq_true p244; replace q244 := eq_true q244
                have p22 : 0 ≤ ((rd l1 x6_2) : Int) := of_decide_eq_true (by first | (with_reducible assumption) | assumption)
                have q22 : ((rd l1 x6_2) : Int) < ((x5_2.length : Int) : Int) := of_decide_eq_true (by first | (with_reducible assumption) | assumption)
                obtain ⟨go22, co22, eo22, gb22, gl22, cl22, HG22⟩ := Kd.R_form HO_5.out (by omega)
                (first | cases eo22 | (injection eo22 with ea_ en_ ec_; (first | subst ea_ | (injection ea_ with ea_; subst ea_)); subst ec_; clear en_))
                have GB22 := Aside0.mk gb22; have GG22 := Aside0.mk HG22; clear gb22 gl22 HG22
                (first | simp only [add_plain] at hx243_0 | skip)
                obtain ⟨hx22_0, hf22_0⟩ := Kd.R_celln false HO_5.out ((rd l1 x6_2) : Int) p22 q22
                replace p22 := eq_true p22; replace q22 := eq_true q22
                have HP24 := Kd.R_putg HO_5.out ((rd l1 x6_2) : Int) true
                go_wp2_with (first | ((with_reducible refine gate_store (t := 4) (p := 55) rfl ?_); refine store_event (t := 4) (p := 55) (v := ?vo_w25) (w1 := (wr.setCell ⟨go22, ((rd l1 x6_2) : Int).toNat, none⟩ (.bool true))) ?hg ?ho ?hn ?hr ?_; (case ho => rfl); (case hg => rfl); (case hn => rfl); (case hr => first | (go_simp; done) | (go_simp; rfl)); intro w25 hw; have hg : wr.grownBy w25 (some go22) := (by rw [hw]; exact HP24.2); have hp_ : Kd.R Kd.bool 4 w25 w.heap.size (fun _ => True) (.slice (some ⟨go22, 0, none⟩) x5_2.length co23) y245 := (by rw [hw, Ny245.out]; exact HP24.1); clear HP24; have n0_ := Aside0.mk (hp_); have n1_ := Aside0.mk ((by rw [hw]; exact below_set (HB.out) GB22.out : Below w.heap.size w w25)); clear HO_5; clear HB; have HO_5 := n0_; have HB := n1_; clear n0_ n1_; clear hg hw hp_))
                go_roundg k2
                case measure => have := HJ2.out; have := HK2.out; omega
                case rel => exact ⟨(y245), (wrap64 (x6_2 + 1)), (by first | rfl | (simp; done) | (simp [*]; done)), H', ⟨by have := HJ2.out; have := HK2.out; omega⟩, ⟨by (with_reducible repeat (first | apply Kd.R_alloc | apply Kd.R_drewN | apply Kd.R_drew)); exact HO_5.out⟩, ⟨by repeat (first | (with_reducible first | exact HB.out | apply below_alloc | apply pw_below_drewN | apply below_drew1) | exact HB.out)⟩⟩
              ·rw [if_neg c18] at H
               exact absurd H (by simp)
             ·rw [if_neg c17] at H
              exact absurd H (by simp)
          ·rw [if_neg c14] at H
           exact absurd H (by simp)
         ·rw [if_neg c13] at H
          exact absurd H (by simp)
        ·rw [if_neg c12] at H
         have c12b0 : decide (x6_2 < a0) = false := decide_eq_false c12
         clear c12; obtain rfl := Option.some.inj H; go_wp2; go_ret
         exact ⟨by first | rfl | (simp [errW_none, errW_some] <;> rfl) | (simp [*, errW_none, errW_some] <;> rfl), by repeat (first | (with_reducible first | exact HB.out | apply below_alloc | apply pw_below_drewN | apply below_drew1) | exact HB.out)⟩
     ·rw [if_neg c9] at H
      exact absurd H (by simp)
    ·rw [if_neg c8] at H
     exact absurd H (by simp)

end Go.Proofs.Ytohjocajaanhaaa.P

-- PRINTED by print.py (a twelfth state) out of the translation. Not trusted: Lean checks it.

namespace Go.Proofs.Ytohjocajaanhaaa.P
open Go.RowKit Go.Proofs.YtohjocajaanhaaaW.PrintWords Go.Proofs.YtohjocajaanhaaaW.PrintLast Go.Proofs.YtohjocajaanhaaaW.PrintMore
attribute [local go_sem] max2_int min2_int max_two min_two max_three min_three max_four min_four   -- for this text's walks alone
set_option linter.unusedVariables false
set_option linter.unusedSimpArgs false

/-! ### swarfref38_gap: function 34 -/
def swarfref38_gap.f (a0 : Int) (a1 : Int) : Option (Int) := if a0 < a1 then (some (wrap64 (a1 - a0))) else (some (wrap64 (a0 - a1)))
set_option maxHeartbeats 8000000 in
set_option maxRecDepth 100000 in
theorem swarfref38_gap.calls (a0 : Int) (a1 : Int) (r : Int) (w : World) (h : swarfref38_gap.f a0 a1 = some r) :
  Calls Try.prog 34 #[.int .i64 a0, .int .i64 a1] w fun e w' => e = .returned (.int .i64 r) ∧ Drawn0 w w' := by
 have H : (if a0 < a1 then (some (wrap64 (a1 - a0))) else (some (wrap64 (a0 - a1)))) = some r := h
 clear h
 by_cases c3 : a0 < a1
 ·rw [if_pos c3] at H
  have c3b0 : decide (a0 < a1) = true := decide_eq_true c3
  clear c3; obtain rfl := Option.some.inj H
  go_enter Try.func34, Try.ntmps34
  go_wp2; go_ret
  exact ⟨by first | rfl | (simp; done) | (simp [*]; done), by repeat (first | exact Drawn0.refl _ | apply Drawn0.step)⟩
 ·rw [if_neg c3] at H
  have c3b0 : decide (a0 < a1) = false := decide_eq_false c3
  clear c3; obtain rfl := Option.some.inj H
  go_enter Try.func34, Try.ntmps34
  go_wp2; go_ret
  exact ⟨by first | rfl | (simp; done) | (simp [*]; done), by repeat (first | exact Drawn0.refl _ | apply Drawn0.step)⟩

end Go.Proofs.Ytohjocajaanhaaa.P

-- PRINTED by print.py (a twelfth state) out of the translation. Not trusted: Lean checks it.

namespace Go.Proofs.Ytohjocajaanhaaa.P
open Go.RowKit Go.Proofs.YtohjocajaanhaaaW.PrintWords Go.Proofs.YtohjocajaanhaaaW.PrintLast Go.Proofs.YtohjocajaanhaaaW.PrintMore
attribute [local go_sem] max2_int min2_int max_two min_two max_three min_three max_four min_four   -- for this text's walks alone
set_option linter.unusedVariables false
set_option linter.unusedSimpArgs false

/-! ### swarfref38_Distance: function 16 -/
def swarfref38_Distance.f (a0_0 : Int) (a0_1 : Int) (a1_0 : Int) (a1_1 : Int) : Option (Int) := (swarfref38_gap.f a0_0 a1_0).bind fun t248 => ((swarfref38_gap.f a0_1 a1_1).bind fun t249 => (some (mx t248 t249)))
set_option maxHeartbeats 8000000 in
set_option maxRecDepth 100000 in
theorem swarfref38_Distance.calls (a0_0 : Int) (a0_1 : Int) (a1_0 : Int) (a1_1 : Int) (r : Int) (w : World) (h : swarfref38_Distance.f a0_0 a0_1 a1_0 a1_1 = some r) :
  Calls Try.prog 16 #[.agg #[.int .i64 a0_0, .int .i64 a0_1], .agg #[.int .i64 a1_0, .int .i64 a1_1]] w fun e w' => e = .returned (.int .i64 r) ∧ Below w.heap.size w w' := by
 have hu31 := Try.underlying31
 have HB := Aside0.mk (Below.refl w.heap.size w)
 have H : ((swarfref38_gap.f a0_0 a1_0).bind fun t248 => ((swarfref38_gap.f a0_1 a1_1).bind fun t249 => (some (mx t248 t249)))) = some r := h
 clear h
 replace H := Option.bind_eq_some_iff.mp H
 obtain ⟨t248, A30, H⟩ := H
 replace H : ((swarfref38_gap.f a0_1 a1_1).bind fun t249 => (some (mx t248 t249))) = some r := H
 have A3 := Aside0.mk A30
 clear A30
 replace H := Option.bind_eq_some_iff.mp H
 obtain ⟨t249, A40, H⟩ := H
 replace H : (some (mx t248 t249)) = some r := H
 have A4 := Aside0.mk A40
 clear A40
 obtain ⟨ji5, hji5⟩ : ∃ j_ : Int, (mx t248 t249) = j_ := ⟨_, rfl⟩
 replace H : (some ji5) = some r := by first | (rw [hji5] at H; exact H) | (simp only [hji5] at H ⊢; exact H)
 (try rw [hji5] at A3)
 (try rw [hji5] at A4)
 have hji5_ : (if t248 < t249 then t249 else t248) = ji5 := hji5
 obtain rfl := Option.some.inj H
 go_enter Try.func16, Try.ntmps16
 go_wp2_with (first | ((with_reducible refine gate_dst (N := 2) rfl ?_); refine box_event ?hg (N := 2) ?hd (cs := #[.int .i64 a0_0, .int .i64 a0_1]) (t := 31) ?hr ?_; (case hd => rfl); (case hg => rfl); (case hr => first | (go_simp; done) | (go_simp; rfl)); intro gb246 hg w6 hbox hb; have n0_ := Aside0.mk (below_step (by repeat (first | (with_reducible first | exact HB.out | apply below_alloc | apply pw_below_drewN | apply below_drew1) | exact HB.out)) hb); have n1_ := Aside0.mk (hbox); have n2_ := Aside0.mk ((by rw [hg]; exact (below_size (by repeat (first | (with_reducible first | exact HB.out | apply below_alloc | apply pw_below_drewN | apply below_drew1) | exact HB.out))) : w.heap.size ≤ gb246)); have n3_ := Aside0.mk ((by rw [hg]; exact (below_size (by repeat (first | (with_reducible first | exact HB.out | apply below_alloc | apply pw_below_drewN | apply below_drew1) | exact HB.out))) : w.heap.size ≤ gb246)); clear HB; have HB := n0_; have BK246 := n1_; have GW246 := n2_; have GE246 := n3_; clear n0_ n1_ n2_ n3_; clear hb hbox hg) | ((with_reducible refine gate_dst (N := 3) rfl ?_); refine box_event ?hg (N := 3) ?hd (cs := #[.int .i64 a1_0, .int .i64 a1_1]) (t := 31) ?hr ?_; (case hd => rfl); (case hg => rfl); (case hr => first | (go_simp; done) | (go_simp; rfl)); intro gb247 hg w7 hbox hb; have n0_ := Aside0.mk (blk_below (g := gb246) (o := .cells #[.int .i64 a0_0, .int .i64 a0_1] 31 (0, 0)) (by (with_reducible repeat (first | refine blk_drewN ?_ _ | refine blk_drew ?_ | refine blk_alloc ?_ _)); exact BK246.out) hb); have n1_ := Aside0.mk (below_step (by repeat (first | (with_reducible first | exact HB.out | apply below_alloc | apply pw_below_drewN | apply below_drew1 | refine below_set ?_ GE246.out) | exact HB.out)) hb); have n2_ := Aside0.mk (hbox); have n3_ := Aside0.mk ((by rw [hg]; exact (below_size (by repeat (first | (with_reducible first | exact HB.out | apply below_alloc | apply pw_below_drewN | apply below_drew1 | refine below_set ?_ GE246.out) | exact HB.out))) : w.heap.size ≤ gb247)); have n4_ := Aside0.mk ((by rw [hg]; exact (below_size (by repeat (first | (with_reducible first | exact HB.out | apply below_alloc | apply pw_below_drewN | apply below_drew1 | refine below_set ?_ GE246.out) | exact HB.out))) : w.heap.size ≤ gb247)); have n5_ := Aside0.mk ((by rw [hg]; exact Nat.ne_of_lt (blk_lt (g := gb246) (o := .cells #[.int .i64 a0_0, .int .i64 a0_1] 31 (0, 0)) (by (with_reducible repeat (first | refine blk_drewN ?_ _ | refine blk_drew ?_ | refine blk_alloc ?_ _)); exact BK246.out)) : gb246 ≠ gb247)); have n6_ := Aside0.mk ((by rw [hg]; exact Nat.ne_of_gt (blk_lt (g := gb246) (o := .cells #[.int .i64 a0_0, .int .i64 a0_1] 31 (0, 0)) (by (with_reducible repeat (first | refine blk_drewN ?_ _ | refine blk_drew ?_ | refine blk_alloc ?_ _)); exact BK246.out)) : gb247 ≠ gb246)); clear BK246; clear HB; have BK246 := n0_; have HB := n1_; have BK247 := n2_; have GW247 := n3_; have GE247 := n4_; have NB246_247 := n5_; have NB247_246 := n6_; clear n0_ n1_ n2_ n3_ n4_ n5_ n6_; clear hb hbox hg; have hnb8 := NB246_247.out; have hnc8 := NB247_246.out; have hcz9_0 : w7.cell? ⟨gb246, 0, none⟩ = some (.int .i64 a0_0) := (blk_cell BK246.out 0).trans rfl; have hcz9_1 : w7.cell? ⟨gb246, 1, none⟩ = some (.int .i64 a0_1) := (blk_cell BK246.out 1).trans rfl; have hfz9_0 := blk_frozen BK246.out 0; have hfz9_1 := blk_frozen BK246.out 1; have hcz10_0 : w7.cell? ⟨gb247, 0, none⟩ = some (.int .i64 a1_0) := (blk_cell BK247.out 0).trans rfl; have hcz10_1 : w7.cell? ⟨gb247, 1, none⟩ = some (.int .i64 a1_1) := (blk_cell BK247.out 1).trans rfl; have hfz10_0 := blk_frozen BK247.out 0; have hfz10_1 := blk_frozen BK247.out 1) | (go_at_call 34; (with_reducible refine (swarfref38_gap.calls a0_0 a1_0 t248 _ A3.out).mono ?_); rintro e w' ⟨rfl, ⟨nd, rfl⟩⟩; (try first | exact ⟨rfl, _, World.drewN_drewN _ _ _⟩ | exact ⟨rfl, _, Eq.trans (World.drewN_drewN _ _ _) (congrArg (World.drewN _) (Nat.add_assoc _ _ _))⟩)) | (go_at_call 34; (with_reducible refine (swarfref38_gap.calls a0_1 a1_1 t249 _ A4.out).mono ?_); rintro e w' ⟨rfl, ⟨nd, rfl⟩⟩; (try first | exact ⟨rfl, _, World.drewN_drewN _ _ _⟩ | exact ⟨rfl, _, Eq.trans (World.drewN_drewN _ _ _) (congrArg (World.drewN _) (Nat.add_assoc _ _ _))⟩)))
 repeat (go_quiet (first | ((with_reducible refine gate_dst (N := 2) rfl ?_); refine box_event ?hg (N := 2) ?hd (cs := #[.int .i64 a0_0, .int .i64 a0_1]) (t := 31) ?hr ?_; (case hd => rfl); (case hg => rfl); (case hr => first | (go_simp; done) | (go_simp; rfl)); intro gb246 hg w6 hbox hb; have n0_ := Aside0.mk (below_step (by repeat (first | (with_reducible first | exact HB.out | apply below_alloc | apply pw_below_drewN | apply below_drew1) | exact HB.out)) hb); have n1_ := Aside0.mk (hbox); have n2_ := Aside0.mk ((by rw [hg]; exact (below_size (by repeat (first | (with_reducible first | exact HB.out | apply below_alloc | apply pw_below_drewN | apply below_drew1) | exact HB.out))) : w.heap.size ≤ gb246)); have n3_ := Aside0.mk ((by rw [hg]; exact (below_size (by repeat (first | (with_reducible first | exact HB.out | apply below_alloc | apply pw_below_drewN | apply below_drew1) | exact HB.out))) : w.heap.size ≤ gb246)); clear HB; have HB := n0_; have BK246 := n1_; have GW246 := n2_; have GE246 := n3_; clear n0_ n1_ n2_ n3_; clear hb hbox hg) | ((with_reducible refine gate_dst (N := 3) rfl ?_); refine box_event ?hg (N := 3) ?hd (cs := #[.int .i64 a1_0, .int .i64 a1_1]) (t := 31) ?hr ?_; (case hd => rfl); (case hg => rfl); (case hr => first | (go_simp; done) | (go_simp; rfl)); intro gb247 hg w7 hbox hb; have n0_ := Aside0.mk (blk_below (g := gb246) (o := .cells #[.int .i64 a0_0, .int .i64 a0_1] 31 (0, 0)) (by (with_reducible repeat (first | refine blk_drewN ?_ _ | refine blk_drew ?_ | refine blk_alloc ?_ _)); exact BK246.out) hb); have n1_ := Aside0.mk (below_step (by repeat (first | (with_reducible first | exact HB.out | apply below_alloc | apply pw_below_drewN | apply below_drew1 | refine below_set ?_ GE246.out) | exact HB.out)) hb); have n2_ := Aside0.mk (hbox); have n3_ := Aside0.mk ((by rw [hg]; exact (below_size (by repeat (first | (with_reducible first | exact HB.out | apply below_alloc | apply pw_below_drewN | apply below_drew1 | refine below_set ?_ GE246.out) | exact HB.out))) : w.heap.size ≤ gb247)); have n4_ := Aside0.mk ((by rw [hg]; exact (below_size (by repeat (first | (with_reducible first | exact HB.out | apply below_alloc | apply pw_below_drewN | apply below_drew1 | refine below_set ?_ GE246.out) | exact HB.out))) : w.heap.size ≤ gb247)); have n5_ := Aside0.mk ((by rw [hg]; exact Nat.ne_of_lt (blk_lt (g := gb246) (o := .cells #[.int .i64 a0_0, .int .i64 a0_1] 31 (0, 0)) (by (with_reducible repeat (first | refine blk_drewN ?_ _ | refine blk_drew ?_ | refine blk_alloc ?_ _)); exact BK246.out)) : gb246 ≠ gb247)); have n6_ := Aside0.mk ((by rw [hg]; exact Nat.ne_of_gt (blk_lt (g := gb246) (o := .cells #[.int .i64 a0_0, .int .i64 a0_1] 31 (0, 0)) (by (with_reducible repeat (first | refine blk_drewN ?_ _ | refine blk_drew ?_ | refine blk_alloc ?_ _)); exact BK246.out)) : gb247 ≠ gb246)); clear BK246; clear HB; have BK246 := n0_; have HB := n1_; have BK247 := n2_; have GW247 := n3_; have GE247 := n4_; have NB246_247 := n5_; have NB247_246 := n6_; clear n0_ n1_ n2_ n3_ n4_ n5_ n6_; clear hb hbox hg; have hnb8 := NB246_247.out; have hnc8 := NB247_246.out; have hcz9_0 : w7.cell? ⟨gb246, 0, none⟩ = some (.int .i64 a0_0) := (blk_cell BK246.out 0).trans rfl; have hcz9_1 : w7.cell? ⟨gb246, 1, none⟩ = some (.int .i64 a0_1) := (blk_cell BK246.out 1).trans rfl; have hfz9_0 := blk_frozen BK246.out 0; have hfz9_1 := blk_frozen BK246.out 1; have hcz10_0 : w7.cell? ⟨gb247, 0, none⟩ = some (.int .i64 a1_0) := (blk_cell BK247.out 0).trans rfl; have hcz10_1 : w7.cell? ⟨gb247, 1, none⟩ = some (.int .i64 a1_1) := (blk_cell BK247.out 1).trans rfl; have hfz10_0 := blk_frozen BK247.out 0; have hfz10_1 := blk_frozen BK247.out 1) | (go_at_call 34; (with_reducible refine (swarfref38_gap.calls a0_0 a1_0 t248 _ A3.out).mono ?_); rintro e w' ⟨rfl, ⟨nd, rfl⟩⟩; (try first | exact ⟨rfl, _, World.drewN_drewN _ _ _⟩ | exact ⟨rfl, _, Eq.trans (World.drewN_drewN _ _ _) (congrArg (World.drewN _) (Nat.add_assoc _ _ _))⟩)) | (go_at_call 34; (with_reducible refine (swarfref38_gap.calls a0_1 a1_1 t249 _ A4.out).mono ?_); rintro e w' ⟨rfl, ⟨nd, rfl⟩⟩; (try first | exact ⟨rfl, _, World.drewN_drewN _ _ _⟩ | exact ⟨rfl, _, Eq.trans (World.drewN_drewN _ _ _) (congrArg (World.drewN _) (Nat.add_assoc _ _ _))⟩))); try go_wp2_with (first | ((with_reducible refine gate_dst (N := 2) rfl ?_); refine box_event ?hg (N := 2) ?hd (cs := #[.int .i64 a0_0, .int .i64 a0_1]) (t := 31) ?hr ?_; (case hd => rfl); (case hg => rfl); (case hr => first | (go_simp; done) | (go_simp; rfl)); intro gb246 hg w6 hbox hb; have n0_ := Aside0.mk (below_step (by repeat (first | (with_reducible first | exact HB.out | apply below_alloc | apply pw_below_drewN | apply below_drew1) | exact HB.out)) hb); have n1_ := Aside0.mk (hbox); have n2_ := Aside0.mk ((by rw [hg]; exact (below_size (by repeat (first | (with_reducible first | exact HB.out | apply below_alloc | apply pw_below_drewN | apply below_drew1) | exact HB.out))) : w.heap.size ≤ gb246)); have n3_ := Aside0.mk ((by rw [hg]; exact (below_size (by repeat (first | (with_reducible first | exact HB.out | apply below_alloc | apply pw_below_drewN | apply below_drew1) | exact HB.out))) : w.heap.size ≤ gb246)); clear HB; have HB := n0_; have BK246 := n1_; have GW246 := n2_; have GE246 := n3_; clear n0_ n1_ n2_ n3_; clear hb hbox hg) | ((with_reducible refine gate_dst (N := 3) rfl ?_); refine box_event ?hg (N := 3) ?hd (cs := #[.int .i64 a1_0, .int .i64 a1_1]) (t := 31) ?hr ?_; (case hd => rfl); (case hg => rfl); (case hr => first | (go_simp; done) | (go_simp; rfl)); intro gb247 hg w7 hbox hb; have n0_ := Aside0.mk (blk_below (g := gb246) (o := .cells #[.int .i64 a0_0, .int .i64 a0_1] 31 (0, 0)) (by (with_reducible repeat (first | refine blk_drewN ?_ _ | refine blk_drew ?_ | refine blk_alloc ?_ _)); exact BK246.out) hb); have n1_ := Aside0.mk (below_step (by repeat (first | (with_reducible first | exact HB.out | apply below_alloc | apply pw_below_drewN | apply below_drew1 | refine below_set ?_ GE246.out) | exact HB.out)) hb); have n2_ := Aside0.mk (hbox); have n3_ := Aside0.mk ((by rw [hg]; exact (below_size (by repeat (first | (with_reducible first | exact HB.out | apply below_alloc | apply pw_below_drewN | apply below_drew1 | refine below_set ?_ GE246.out) | exact HB.out))) : w.heap.size ≤ gb247)); have n4_ := Aside0.mk ((by rw [hg]; exact (below_size (by repeat (first | (with_reducible first | exact HB.out | apply below_alloc | apply pw_below_drewN | apply below_drew1 | refine below_set ?_ GE246.out) | exact HB.out))) : w.heap.size ≤ gb247)); have n5_ := Aside0.mk ((by rw [hg]; exact Nat.ne_of_lt (blk_lt (g := gb246) (o := .cells #[.int .i64 a0_0, .int .i64 a0_1] 31 (0, 0)) (by (with_reducible repeat (first | refine blk_drewN ?_ _ | refine blk_drew ?_ | refine blk_alloc ?_ _)); exact BK246.out)) : gb246 ≠ gb247)); have n6_ := Aside0.mk ((by rw [hg]; exact Nat.ne_of_gt (blk_lt (g := gb246) (o := .cells #[.int .i64 a0_0, .int .i64 a0_1] 31 (0, 0)) (by (with_reducible repeat (first | refine blk_drewN ?_ _ | refine blk_drew ?_ | refine blk_alloc ?_ _)); exact BK246.out)) : gb247 ≠ gb246)); clear BK246; clear HB; have BK246 := n0_; have HB := n1_; have BK247 := n2_; have GW247 := n3_; have GE247 := n4_; have NB246_247 := n5_; have NB247_246 := n6_; clear n0_ n1_ n2_ n3_ n4_ n5_ n6_; clear hb hbox hg; have hnb8 := NB246_247.out; have hnc8 := NB247_246.out; have hcz9_0 : w7.cell? ⟨gb246, 0, none⟩ = some (.int .i64 a0_0) := (blk_cell BK246.out 0).trans rfl; have hcz9_1 : w7.cell? ⟨gb246, 1, none⟩ = some (.int .i64 a0_1) := (blk_cell BK246.out 1).trans rfl; have hfz9_0 := blk_frozen BK246.out 0; have hfz9_1 := blk_frozen BK246.out 1; have hcz10_0 : w7.cell? ⟨gb247, 0, none⟩ = some (.int .i64 a1_0) := (blk_cell BK247.out 0).trans rfl; have hcz10_1 : w7.cell? ⟨gb247, 1, none⟩ = some (.int .i64 a1_1) := (blk_cell BK247.out 1).trans rfl; have hfz10_0 := blk_frozen BK247.out 0; have hfz10_1 := blk_frozen BK247.out 1) | (go_at_call 34; (with_reducible refine (swarfref38_gap.calls a0_0 a1_0 t248 _ A3.out).mono ?_); rintro e w' ⟨rfl, ⟨nd, rfl⟩⟩; (try first | exact ⟨rfl, _, World.drewN_drewN _ _ _⟩ | exact ⟨rfl, _, Eq.trans (World.drewN_drewN _ _ _) (congrArg (World.drewN _) (Nat.add_assoc _ _ _))⟩)) | (go_at_call 34; (with_reducible refine (swarfref38_gap.calls a0_1 a1_1 t249 _ A4.out).mono ?_); rintro e w' ⟨rfl, ⟨nd, rfl⟩⟩; (try first | exact ⟨rfl, _, World.drewN_drewN _ _ _⟩ | exact ⟨rfl, _, Eq.trans (World.drewN_drewN _ _ _) (congrArg (World.drewN _) (Nat.add_assoc _ _ _))⟩))))
 go_ret
 exact ⟨by first | rfl | (simp [errW_none, errW_some] <;> rfl) | (simp only [← hji5]; first | rfl | (simp [errW_none, errW_some] <;> rfl)) | (simp [*, errW_none, errW_some] <;> rfl), by repeat (first | (with_reducible first | exact HB.out | apply below_alloc | apply pw_below_drewN | apply below_drew1 | refine below_set ?_ GE246.out | refine below_set ?_ GE247.out) | exact HB.out)⟩

end Go.Proofs.Ytohjocajaanhaaa.P

-- PRINTED by print.py (a twelfth state) out of the translation. Not trusted: Lean checks it.

namespace Go.Proofs.Ytohjocajaanhaaa.P
open Go.RowKit Go.Proofs.YtohjocajaanhaaaW.PrintWords Go.Proofs.YtohjocajaanhaaaW.PrintLast Go.Proofs.YtohjocajaanhaaaW.PrintMore
attribute [local go_sem] max2_int min2_int max_two min_two max_three min_three max_four min_four   -- for this text's walks alone
set_option linter.unusedVariables false
set_option linter.unusedSimpArgs false

/-! ### swarfref38_way: function 33 -/
def swarfref38_way.l0 : Nat → List (S31) → List Int → Int → Int → Option (Int)
 | 0, _, _, _, _ => none
 | k + 1, x0, x1, x5, x6 => if x6 < (x1.length : Int) then (if 0 ≤ (wrap64 (x6 - 1)) then (if (wrap64 (x6 - 1)) < (x1.length : Int) then (if 0 ≤ (rd x1 (wrap64 (x6 - 1))) then (if (rd x1 (wrap64 (x6 - 1))) < (x0.length : Int) then (if 0 ≤ x6 then (if 0 ≤ (rd x1 x6) then (if (rd x1 x6) < (x0.length : Int) then ((swarfref38_Distance.f ((rd_T31 x0 (rd x1 (wrap64 (x6 - 1)))).f0) ((rd_T31 x0 (rd x1 (wrap64 (x6 - 1)))).f1) ((rd_T31 x0 (rd x1 x6)).f0) ((rd_T31 x0 (rd x1 x6)).f1)).bind fun t254 => (swarfref38_way.l0 k x0 x1 (wrap64 (x5 + t254)) (wrap64 (x6 + 1)))) else (none)) else (none)) else (none)) else (none)) else (none)) else (none)) else (none)) else (some x5)
def swarfref38_way.f (k : Nat) (l0 : List (S31)) (l1 : List Int) : Option (Int) := swarfref38_way.l0 k l0 l1 0 1
theorem swarfref38_way.mono_l : ∀ k, (∀ y0 y1 y2 y3, LeO (swarfref38_way.l0 k y0 y1 y2 y3) (swarfref38_way.l0 (k + 1) y0 y1 y2 y3))
 | 0 => fun _ _ _ _ r h => by simp [swarfref38_way.l0] at h
 | k + 1 => by
  have ih0 := swarfref38_way.mono_l k
  ·intro y0 y1 y2 y3
   unfold swarfref38_way.l0
   repeat' first
   | (with_reducible exact ih0 _ _ _ _)
   | (with_reducible exact LeO.refl _)
   | (with_reducible exact LeO.none _)
   | (with_reducible refine LeO.ite ?_ ?_)
   | (with_reducible refine LeO.bind ?_ (fun _ => ?_))
   | exact ih0 _ _ _ _
   | exact LeO.none _
   | refine LeO.ite ?_ ?_
   | refine LeO.bind ?_ (fun _ => ?_)
theorem swarfref38_way.mono : ∀ a0 a1 k, LeO (swarfref38_way.f k a0 a1) (swarfref38_way.f (k + 1) a0 a1) := by
 intro a0 a1 k
 have ih0 := swarfref38_way.mono_l k
 unfold swarfref38_way.f
 repeat' first
   | (with_reducible exact ih0 _ _ _ _)
   | (with_reducible exact LeO.refl _)
   | (with_reducible exact LeO.none _)
   | (with_reducible refine LeO.ite ?_ ?_)
   | (with_reducible refine LeO.bind ?_ (fun _ => ?_))
   | exact ih0 _ _ _ _
   | exact LeO.none _
   | refine LeO.ite ?_ ?_
   | refine LeO.bind ?_ (fun _ => ?_)
def swarfref38_way.T5 : Bool × List (List Nat × List Nat) := (true, [([], []), ([], []), ([], []), ([], []), ([3], [3]), ([2, 4], [2, 4]), ([5], [5]), ([1, 6], [1, 6]), ([7], [7]), ([], []), ([], []), ([], []), ([10, 11], [10, 11]), ([12], [12]), ([9, 13], [9, 13]), ([14], [14]), ([8, 15], [8, 15]), ([0, 16], [0, 16]), ([17, 16, 0, 1, 2, 3, 4, 5, 6, 7, 8, 9, 10, 11, 12, 13, 14, 15, 16, 17], [0, 17])])
def swarfref38_way.B5 : List Nat := [0, 0, 0, 0, 8, 28, 60, 126, 254, 0, 0, 0, 3072, 7168, 15872, 32256, 65534, 131071, 262143]
theorem swarfref38_way.tab5 : rtab .any (opsOf Try.f33 5) = swarfref38_way.T5 := by kernel_rfl
theorem swarfref38_way.bits5 : waitsOk swarfref38_way.T5.2 swarfref38_way.B5 = true := by kernel_rfl
set_option maxHeartbeats 8000000 in
set_option maxRecDepth 100000 in
theorem swarfref38_way.calls (k : Nat) (A0 : Option Addr) (c0 : Nat) (l0 : List (S31)) (A1 : Option Addr) (c1 : Nat) (l1 : List Int) (r : Int) (w : World) (hr0 : Kd.C k31 w A0 l0.length l0) (hc0 : l0.length ≤ c0) (hr1 : Kd.C (Kd.int .i64) w A1 l1.length l1) (hc1 : l1.length ≤ c1) (h : swarfref38_way.f k l0 l1 = some r) :
  Calls Try.prog 33 #[.slice A0 l0.length c0, .slice A1 l1.length c1] w fun e w' => e = .returned (.int .i64 r) ∧ Below w.heap.size w w' := by
 have hu31 := Try.underlying31
 have HR0 := Aside0.mk hr0
 have HC0 := Aside0.mk hc0
 clear hr0 hc0
 have HR1 := Aside0.mk hr1
 have HC1 := Aside0.mk hc1
 clear hr1 hc1
 have HB := Aside0.mk (Below.refl w.heap.size w)
 have H : (swarfref38_way.l0 k l0 l1 0 1) = some r := h
 clear h
 have H' := Aside0.mk H
 clear H
 go_enter Try.func33, Try.ntmps33
 go_wp2
 go_loopg [5, 6] k (fun kq v5 v6 w' => ∃ (x5_1 : Int) (x6_1 : Int), v5 = .int .i64 x5_1 ∧ v6 = .int .i64 x6_1 ∧ Aside0 (swarfref38_way.l0 kq l0 l1 x5_1 x6_1 = some r) ∧ Aside0 (kq ≤ k) ∧ Aside0 (Below w.heap.size w w'))
 case atStart => exact ⟨(0), (1), (by first | rfl | (simp; done) | (simp [*]; done)), (by first | rfl | (simp; done) | (simp [*]; done)), H', ⟨Nat.le_refl _⟩, ⟨by repeat (first | (with_reducible first | exact HB.out | apply below_alloc | apply pw_below_drewN | apply below_drew1) | exact HB.out)⟩⟩
 case round =>
  clear H'; try clear c1; try clear p2
  obtain ⟨x5_1, x6_1, rfl, rfl, HA, HK1, HB⟩ := hrel
  cases gk with
  | zero => exact absurd HA.out (by simp [swarfref38_way.l0])
  | succ k1 =>
   have H := HA.out
   clear HA
   simp only [swarfref38_way.l0] at H
   by_cases c3 : x6_1 < (l1.length : Int)
   ·rw [if_pos c3] at H
    have c3b0 : decide (x6_1 < (l1.length : Int)) = true := decide_eq_true c3
    clear c3
    obtain ⟨ji4, hji4⟩ : ∃ j_ : Int, (wrap64 (x6_1 - 1)) = j_ := ⟨_, rfl⟩
    replace H : (if 0 ≤ (ji4) then (if (ji4) < (l1.length : Int) then (if 0 ≤ (rd l1 (ji4)) then (if (rd l1 (ji4)) < (l0.length : Int) then (if 0 ≤ x6_1 then (if 0 ≤ (rd l1 x6_1) then (if (rd l1 x6_1) < (l0.length : Int) then ((swarfref38_Distance.f ((rd_T31 l0 (rd l1 (ji4))).f0) ((rd_T31 l0 (rd l1 (ji4))).f1) ((rd_T31 l0 (rd l1 x6_1)).f0) ((rd_T31 l0 (rd l1 x6_1)).f1)).bind fun t254 => (swarfref38_way.l0 k1 l0 l1 (wrap64 (x5_1 + t254)) (wrap64 (x6_1 + 1)))) else (none)) else (none)) else (none)) else (none)) else (none)) else (none)) else (none)) = some r := by first | (rw [hji4] at H; exact H) | (simp only [hji4] at H ⊢; exact H)
    have hji4w : (IntKind.i64.wrap (x6_1 - 1)) = ji4 := (i64_w _).trans hji4
    by_cases c5 : 0 ≤ (ji4)
    ·rw [if_pos c5] at H
     have c5b0 : decide (0 ≤ (ji4)) = true := decide_eq_true c5
     clear c5
     by_cases c6 : (ji4) < (l1.length : Int)
     ·rw [if_pos c6] at H
      have c6b0 : decide ((ji4) < (l1.length : Int)) = true := decide_eq_true c6
      clear c6
      by_cases c7 : 0 ≤ (rd l1 (ji4))
      ·rw [if_pos c7] at H
       have c7b0 : decide (0 ≤ (rd l1 (ji4))) = true := decide_eq_true c7
       clear c7
       by_cases c8 : (rd l1 (ji4)) < (l0.length : Int)
       ·rw [if_pos c8] at H
        have c8b0 : decide ((rd l1 (ji4)) < (l0.length : Int)) = true := decide_eq_true c8
        clear c8
        by_cases c9 : 0 ≤ x6_1
        ·rw [if_pos c9] at H
         have c9b0 : decide (0 ≤ x6_1) = true := decide_eq_true c9
         clear c9
         by_cases c10 : 0 ≤ (rd l1 x6_1)
         ·rw [if_pos c10] at H
          have c10b0 : decide (0 ≤ (rd l1 x6_1)) = true := decide_eq_true c10
          clear c10
          by_cases c11 : (rd l1 x6_1) < (l0.length : Int)
          ·rw [if_pos c11] at H
           have c11b0 : decide ((rd l1 x6_1) < (l0.length : Int)) = true := decide_eq_true c11
           clear c11; replace H := Option.bind_eq_some_iff.mp H
           obtain ⟨t254, A120, H⟩ := H
           replace H : (swarfref38_way.l0 k1 l0 l1 (wrap64 (x5_1 + t254)) (wrap64 (x6_1 + 1))) = some r := H
           have A12 := Aside0.mk A120; clear A120; have H' := Aside0.mk H; clear H
           try go_wp2
           have n0_ := Aside0.mk (below_drew1 HB.out)
           clear HB; have HB := n0_; clear n0_
           have p250 : 0 ≤ ((ji4) : Int) := of_decide_eq_true (by first | (with_reducible assumption) | assumption)
           have q250 : (ji4) < (l1.length : Int) := of_decide_eq_true (by first | (with_reducible assumption) | assumption)
           obtain ⟨ad250, e250, hx250_0⟩ := Kd.at_int HR1.out (ji4) p250 q250
           have hw250_0 := hx250_0; cases e250
           replace hx250_0 := (HB.out.cell (World.block_lt_of_cell? w _ hx250_0)).trans hx250_0
           replace p250 := eq_true p250; replace q250 := eq_true q250
           have p251 : 0 ≤ ((rd l1 (ji4)) : Int) := of_decide_eq_true (by first | (with_reducible assumption) | assumption)
           have q251 : (rd l1 (ji4)) < (l0.length : Int) := of_decide_eq_true (by first | (with_reducible assumption) | assumption)
           obtain ⟨ad251, e251, hx251_0, hx251_1⟩ := at_T31 HR0.out (rd l1 (ji4)) p251 q251
           have hw251_1 := hx251_1; have hw251_0 := hx251_0; cases e251
           replace hx251_0 := (HB.out.cell (World.block_lt_of_cell? w _ hx251_0)).trans hx251_0
           replace hx251_1 := (HB.out.cell (World.block_lt_of_cell? w _ hx251_1)).trans hx251_1
           replace p251 := eq_true p251; replace q251 := eq_true q251
           have p252 : 0 ≤ (x6_1 : Int) := of_decide_eq_true (by first | (with_reducible assumption) | assumption)
           have q252 : x6_1 < (l1.length : Int) := of_decide_eq_true (by first | (with_reducible assumption) | assumption)
           obtain ⟨ad252, e252, hx252_0⟩ := Kd.at_int HR1.out x6_1 p252 q252
           have hw252_0 := hx252_0
           obtain rfl : ad250 = ad252 := (by injection e252)
           replace hx252_0 := (HB.out.cell (World.block_lt_of_cell? w _ hx252_0)).trans hx252_0
           replace p252 := eq_true p252; replace q252 := eq_true q252
           have p253 : 0 ≤ ((rd l1 x6_1) : Int) := of_decide_eq_true (by first | (with_reducible assumption) | assumption)
           have q253 : (rd l1 x6_1) < (l0.length : Int) := of_decide_eq_true (by first | (with_reducible assumption) | assumption)
           obtain ⟨ad253, e253, hx253_0, hx253_1⟩ := at_T31 HR0.out (rd l1 x6_1) p253 q253
           have hw253_1 := hx253_1; have hw253_0 := hx253_0
           obtain rfl : ad251 = ad253 := (by injection e253)
           replace hx253_0 := (HB.out.cell (World.block_lt_of_cell? w _ hx253_0)).trans hx253_0
           replace hx253_1 := (HB.out.cell (World.block_lt_of_cell? w _ hx253_1)).trans hx253_1
           replace p253 := eq_true p253; replace q253 := eq_true q253
           refine start_ (n := 19) (S := fun w' => w'.cell? (ad250.add ((ji4)).toNat) = some (.int .i64 (rd l1 (ji4))) ∧ w'.cell? (ad251.add (((rd l1 (ji4))).toNat * 2)) = some (.int .i64 ((rd_T31 l0 (rd l1 (ji4))).f0)) ∧ w'.cell? ⟨(ad251.add (((rd l1 (ji4))).toNat * 2)).block, (ad251.add (((rd l1 (ji4))).toNat * 2)).off + 1, none⟩ = some (.int .i64 ((rd_T31 l0 (rd l1 (ji4))).f1)) ∧ w'.cell? (ad250.add (x6_1).toNat) = some (.int .i64 (rd l1 x6_1)) ∧ w'.cell? (ad251.add (((rd l1 x6_1)).toNat * 2)) = some (.int .i64 ((rd_T31 l0 (rd l1 x6_1)).f0)) ∧ w'.cell? ⟨(ad251.add (((rd l1 x6_1)).toNat * 2)).block, (ad251.add (((rd l1 x6_1)).toNat * 2)).off + 1, none⟩ = some (.int .i64 ((rd_T31 l0 (rd l1 x6_1)).f1))) (ds := []) #[false, false, false, false, false, false, false, false, false, false, false, false, false, false, false, false, false, false, false] (by kernel_rfl) rfl rfl ⟨((HB.out.cell (World.block_lt_of_cell? w _ hw250_0)).trans hw250_0), ((HB.out.cell (World.block_lt_of_cell? w _ hw251_0)).trans hw251_0), ((HB.out.cell (World.block_lt_of_cell? w _ hw251_1)).trans hw251_1), ((HB.out.cell (World.block_lt_of_cell? w _ hw252_0)).trans hw252_0), ((HB.out.cell (World.block_lt_of_cell? w _ hw253_0)).trans hw253_0), ((HB.out.cell (World.block_lt_of_cell? w _ hw253_1)).trans hw253_1)⟩ (fun hHeld => ?_); refine with_tabW swarfref38_way.tab5 swarfref38_way.bits5 (fun HT_ HW_ => ?_)
           generalize wr.drew = w13 at HB hx250_0 hx251_0 hx251_1 hx252_0 hx253_0 hx253_1 hHeld ⊢
           refine pure_ (i := 0) (N := some 13) (v := ?_) (a' := ?_) #[true, false, false, false, false, false, false, false, false, false, false, false, false, false, false, false, false, false, false] rfl rfl (any_of HT_.out (by kernel_rfl)) (fun _ _ _ h => h) (Or.inl ⟨by rfl, ?_⟩) ?_ ?_
           rotate_left; ·intro w'; go_simp; with_reducible rfl
           rotate_left; ·simp only [Act.put, sA_, sZ_, sS_, i64_w, i32_w]; rfl
           refine pure_ (i := 1) (N := some 14) (v := ?_) (a' := ?_) #[true, true, false, false, false, false, false, false, false, false, false, false, false, false, false, false, false, false, false] rfl rfl (any_of HT_.out (by kernel_rfl)) (fun _ _ _ h => h) (Or.inl ⟨by rfl, ?_⟩) ?_ ?_
           rotate_left; ·intro w'; go_simp; with_reducible rfl
           rotate_left; ·simp only [Act.put, sA_, sZ_, sS_, i64_w, i32_w]; rfl
           refine pure_ (i := 2) (N := some 15) (v := ?_) (a' := ?_) #[true, true, true, false, false, false, false, false, false, false, false, false, false, false, false, false, false, false, false] rfl rfl (any_of HT_.out (by kernel_rfl)) (fun _ _ _ h => h) (Or.inl ⟨by rfl, ?_⟩) ?_ ?_
           rotate_left; ·intro w'; go_simp; with_reducible rfl
           rotate_left; ·simp only [Act.put, sA_, sZ_, sS_, i64_w, i32_w]; rfl
           refine pure_ (i := 3) (N := some 16) (v := ?_) (a' := ?_) #[true, true, true, true, false, false, false, false, false, false, false, false, false, false, false, false, false, false, false] rfl rfl (any_of HT_.out (by kernel_rfl)) (fun _ _ _ h => h) (Or.inl ⟨by rfl, ?_⟩) ?_ ?_
           rotate_left; ·intro w'; go_simp; with_reducible rfl
           rotate_left; ·simp only [Act.put, sA_, sZ_, sS_, i64_w, i32_w]; rfl
           refine pure_ (i := 4) (N := some 17) (v := ?_) (a' := ?_) #[true, true, true, true, true, false, false, false, false, false, false, false, false, false, false, false, false, false, false] rfl rfl (any_of HT_.out (by kernel_rfl)) (fun _ _ _ h => h) (Or.inl ⟨by rfl, ?_⟩) ?_ ?_
           rotate_left; ·intro w'; go_simp; with_reducible rfl
           rotate_left; ·simp only [Act.put, sA_, sZ_, sS_, i64_w, i32_w]; rfl
           refine pure_ (i := 5) (N := some 18) (v := ?_) (a' := ?_) #[true, true, true, true, true, true, false, false, false, false, false, false, false, false, false, false, false, false, false] rfl rfl (any_of HT_.out (by kernel_rfl)) (fun _ _ _ h => h) (Or.inl ⟨by rfl, ?_⟩) ?_ ?_
           rotate_left; ·intro w'; go_simp; with_reducible rfl
           rotate_left; ·simp only [Act.put, sA_, sZ_, sS_, i64_w, i32_w]; rfl
           refine pure_ (i := 9) (N := some 22) (v := ?_) (a' := ?_) #[true, true, true, true, true, true, false, false, false, true, false, false, false, false, false, false, false, false, false] rfl rfl (any_of HT_.out (by kernel_rfl)) (fun _ _ _ h => h) (Or.inl ⟨by rfl, ?_⟩) ?_ ?_
           rotate_left; ·intro w'; go_simp; with_reducible rfl
           rotate_left; ·simp only [Act.put, sA_, sZ_, sS_, i64_w, i32_w]; rfl
           refine pure_ (i := 10) (N := some 23) (v := ?_) (a' := ?_) #[true, true, true, true, true, true, false, false, false, true, true, false, false, false, false, false, false, false, false] rfl rfl (any_of HT_.out (by kernel_rfl)) (fun _ _ _ h => h) (Or.inl ⟨by rfl, ?_⟩) ?_ ?_
           rotate_left; ·intro w'; go_simp; with_reducible rfl
           rotate_left; ·simp only [Act.put, sA_, sZ_, sS_, i64_w, i32_w]; rfl
           refine pure_ (i := 11) (N := some 24) (v := ?_) (a' := ?_) #[true, true, true, true, true, true, false, false, false, true, true, true, false, false, false, false, false, false, false] rfl rfl (any_of HT_.out (by kernel_rfl)) (fun _ _ _ h => h) (Or.inl ⟨by rfl, ?_⟩) ?_ ?_
           rotate_left; ·intro w'; go_simp; with_reducible rfl
           rotate_left; ·simp only [Act.put, sA_, sZ_, sS_, i64_w, i32_w]; rfl
           refine pure_ (i := 12) (N := some 25) (v := ?_) (a' := ?_) #[true, true, true, true, true, true, false, false, false, true, true, true, true, false, false, false, false, false, false] rfl rfl (any_of HT_.out (by kernel_rfl)) (fun _ _ _ h => h) (Or.inl ⟨by rfl, ?_⟩) ?_ ?_
           rotate_left; ·intro w'; go_simp; with_reducible rfl
           rotate_left; ·simp only [Act.put, sA_, sZ_, sS_, i64_w, i32_w]; rfl
           refine take_ (i := 6) (N := some 19) (v := ?_) (a' := ?_) #[true, true, true, true, true, true, true, false, false, true, true, true, true, false, false, false, false, false, false] rfl rfl (take_ofW HT_.out HW_.out (by kernel_rfl)) (fun _ _ _ h => h) (Or.inl ⟨by rfl, ?_⟩) hHeld ?_ ?_
           rotate_left
           ·rintro w' ⟨s0, s1, s2, s3, s4, s5⟩; go_simp; with_reducible rfl
           rotate_left; ·simp only [Act.put, sA_, sZ_, sS_, i64_w, i32_w]; rfl
           refine pure_ (i := 7) (N := some 20) (v := ?_) (a' := ?_) #[true, true, true, true, true, true, true, true, false, true, true, true, true, false, false, false, false, false, false] rfl rfl (any_of HT_.out (by kernel_rfl)) (fun _ _ _ h => h) (Or.inl ⟨by rfl, ?_⟩) ?_ ?_
           rotate_left; ·intro w'; go_simp; with_reducible rfl
           rotate_left; ·simp only [Act.put, sA_, sZ_, sS_, i64_w, i32_w]; rfl
           refine take_ (i := 8) (N := some 21) (v := ?_) (a' := ?_) #[true, true, true, true, true, true, true, true, true, true, true, true, true, false, false, false, false, false, false] rfl rfl (take_ofW HT_.out HW_.out (by kernel_rfl)) (fun _ _ _ h => h) (Or.inl ⟨by rfl, ?_⟩) hHeld ?_ ?_
           rotate_left
           ·rintro w' ⟨s0, s1, s2, s3, s4, s5⟩; go_simp; with_reducible rfl
           rotate_left; ·simp only [Act.put, sA_, sZ_, sS_, i64_w, i32_w]; rfl
           refine take_ (i := 13) (N := some 26) (v := ?_) (a' := ?_) #[true, true, true, true, true, true, true, true, true, true, true, true, true, true, false, false, false, false, false] rfl rfl (take_ofW HT_.out HW_.out (by kernel_rfl)) (fun _ _ _ h => h) (Or.inl ⟨by rfl, ?_⟩) hHeld ?_ ?_
           rotate_left
           ·rintro w' ⟨s0, s1, s2, s3, s4, s5⟩; go_simp; with_reducible rfl
           rotate_left; ·simp only [Act.put, sA_, sZ_, sS_, i64_w, i32_w]; rfl
           refine pure_ (i := 14) (N := some 27) (v := ?_) (a' := ?_) #[true, true, true, true, true, true, true, true, true, true, true, true, true, true, true, false, false, false, false] rfl rfl (any_of HT_.out (by kernel_rfl)) (fun _ _ _ h => h) (Or.inl ⟨by rfl, ?_⟩) ?_ ?_
           rotate_left; ·intro w'; go_simp; with_reducible rfl
           rotate_left; ·simp only [Act.put, sA_, sZ_, sS_, i64_w, i32_w]; rfl
           refine take_ (i := 15) (N := some 28) (v := ?_) (a' := ?_) #[true, true, true, true, true, true, true, true, true, true, true, true, true, true, true, true, false, false, false] rfl rfl (take_ofW HT_.out HW_.out (by kernel_rfl)) (fun _ _ _ h => h) (Or.inl ⟨by rfl, ?_⟩) hHeld ?_ ?_
           rotate_left
           ·rintro w' ⟨s0, s1, s2, s3, s4, s5⟩; go_simp; with_reducible rfl
           rotate_left; ·simp only [Act.put, sA_, sZ_, sS_, i64_w, i32_w]; rfl
           refine one_ (i := 16) (N := some 29) #[true, true, true, true, true, true, true, true, true, true, true, true, true, true, true, true, true, false, false] rfl rfl (one_of HT_.out (by kernel_rfl)) (by decide) (fun K hK => ?_)
           refine goes_ Try.func16 (by kernel_rfl) rfl #[.agg #[.int .i64 ((rd_T31 l0 (rd l1 (ji4))).f0), .int .i64 ((rd_T31 l0 (rd l1 (ji4))).f1)], .agg #[.int .i64 ((rd_T31 l0 (rd l1 x6_1)).f0), .int .i64 ((rd_T31 l0 (rd l1 x6_1)).f1)]] (by rfl) rfl rfl (by (try simp only [List.map_toArray, List.map_cons, List.map_nil]); first | done | (simp only [hji4]; rfl) | rfl | (simp only [List.length_drop, List.length_take]; rfl)) ?_
           with_reducible refine (swarfref38_Distance.calls ((rd_T31 l0 (rd l1 (ji4))).f0) ((rd_T31 l0 (rd l1 (ji4))).f1) ((rd_T31 l0 (rd l1 x6_1)).f0) ((rd_T31 l0 (rd l1 x6_1)).f1) t254 _ A12.out).mono ?_
           rintro e w14 ⟨rfl, hb⟩
           refine ⟨_, rfl, ?_⟩
           have n0_ := Aside0.mk (below_step (by repeat (first | (with_reducible first | exact HB.out | apply below_alloc | apply pw_below_drewN | apply below_drew1) | exact HB.out)) hb)
           clear HB; have HB := n0_; clear n0_; (try clear hb); (try clear hb2); (try clear hk); (try clear hi)
           refine hK.out _ _ ⟨((HB.out.cell (World.block_lt_of_cell? w _ hw250_0)).trans hw250_0), ((HB.out.cell (World.block_lt_of_cell? w _ hw251_0)).trans hw251_0), ((HB.out.cell (World.block_lt_of_cell? w _ hw251_1)).trans hw251_1), ((HB.out.cell (World.block_lt_of_cell? w _ hw252_0)).trans hw252_0), ((HB.out.cell (World.block_lt_of_cell? w _ hw253_0)).trans hw253_0), ((HB.out.cell (World.block_lt_of_cell? w _ hw253_1)).trans hw253_1)⟩ (fun hHeld => ?_)
           clear hK K
           refine norm_ (a' := ?_) ?_ ?_
           rotate_left
           ·show Act.put _ (some 29) _ = _
            simp only [Act.put, sA_, sZ_, sS_, i64_w, i32_w]; rfl
           refine pure_ (i := 17) (N := some 30) (v := ?_) (a' := ?_) #[true, true, true, true, true, true, true, true, true, true, true, true, true, true, true, true, true, true, false] rfl rfl (any_of HT_.out (by kernel_rfl)) (fun _ _ _ h => h) (Or.inl ⟨by rfl, ?_⟩) ?_ ?_
           rotate_left; ·intro w'; go_simp; with_reducible rfl
           rotate_left; ·simp only [Act.put, sA_, sZ_, sS_, i64_w, i32_w]; rfl
           refine pure_ (i := 18) (N := some 5) (v := ?_) (a' := ?_) #[true, true, true, true, true, true, true, true, true, true, true, true, true, true, true, true, true, true, true] rfl rfl (any_of HT_.out (by kernel_rfl)) (fun _ _ _ h => h) (Or.inl ⟨by rfl, ?_⟩) ?_ ?_
           rotate_left; ·intro w'; go_simp; with_reducible rfl
           rotate_left; ·simp only [Act.put, sA_, sZ_, sS_, i64_w, i32_w]; rfl
           refine done_ (done_of HT_.out (by kernel_rfl)) ?_
           try go_wp2
           go_roundg k1
           case measure => have := HK1.out; omega
           case rel => exact ⟨(wrap64 (x5_1 + t254)), (wrap64 (x6_1 + 1)), (by first | rfl | (simp; done) | (simp [*]; done)), (by first | rfl | (simp; done) | (simp [*]; done)), H', ⟨by have := HK1.out; omega⟩, ⟨by repeat (first | (with_reducible first | exact HB.out | apply below_alloc | apply pw_below_drewN | apply below_drew1) | exact HB.out)⟩⟩
          ·rw [if_neg c11] at H
           exact absurd H (by simp)
         ·rw [if_neg c10] at H
          exact absurd H (by simp)
        ·rw [if_neg c9] at H
         exact absurd H (by simp)
       ·rw [if_neg c8] at H
        exact absurd H (by simp)
      ·rw [if_neg c7] at H
       exact absurd H (by simp)
     ·rw [if_neg c6] at H
      exact absurd H (by simp)
    ·rw [if_neg c5] at H
     exact absurd H (by simp)
   ·rw [if_neg c3] at H
    have c3b0 : decide (x6_1 < (l1.length : Int)) = false := decide_eq_false c3
    clear c3; obtain rfl := Option.some.inj H; go_wp2; go_ret
    exact ⟨by first | rfl | (simp [errW_none, errW_some] <;> rfl) | (simp [*, errW_none, errW_some] <;> rfl), by repeat (first | (with_reducible first | exact HB.out | apply below_alloc | apply pw_below_drewN | apply below_drew1) | exact HB.out)⟩

end Go.Proofs.Ytohjocajaanhaaa.P

-- PRINTED by print.py (a twelfth state) out of the translation. Not trusted: Lean checks it.

namespace Go.Proofs.Ytohjocajaanhaaa.P
open Go.RowKit Go.Proofs.YtohjocajaanhaaaW.PrintWords Go.Proofs.YtohjocajaanhaaaW.PrintLast Go.Proofs.YtohjocajaanhaaaW.PrintMore
attribute [local go_sem] max2_int min2_int max_two min_two max_three min_three max_four min_four   -- for this text's walks alone
set_option linter.unusedVariables false
set_option linter.unusedSimpArgs false

/-! ### swarfref38_Length: function 13 -/
def swarfref38_Length.f (k : Nat) (l0 : List (S31)) (l1 : List Int) : Option (Int × Int) := (swarfref38_Valid.f k l0 200).bind fun t255 => (if t255 = 0 then ((swarfref38_Order.f k (l0.length : Int) l1).bind fun t256 => (if t256 = true then ((swarfref38_way.f k l0 l1).bind fun t257 => (some (t257, 0))) else (some (0, 1)))) else (some (0, t255)))
theorem swarfref38_Length.mono : ∀ a0 a1 k, LeO (swarfref38_Length.f k a0 a1) (swarfref38_Length.f (k + 1) a0 a1) := by
 intro a0 a1 k
 unfold swarfref38_Length.f
 repeat' first
   | (with_reducible exact swarfref38_Order.mono _ _ _)
   | (with_reducible exact swarfref38_Valid.mono _ _ _)
   | (with_reducible exact swarfref38_way.mono _ _ _)
   | (with_reducible exact LeO.refl _)
   | (with_reducible exact LeO.none _)
   | (with_reducible refine LeO.ite ?_ ?_)
   | (with_reducible refine LeO.bind ?_ (fun _ => ?_))
   | exact swarfref38_Order.mono _ _ _
   | exact swarfref38_Valid.mono _ _ _
   | exact swarfref38_way.mono _ _ _
   | exact LeO.none _
   | refine LeO.ite ?_ ?_
   | refine LeO.bind ?_ (fun _ => ?_)
set_option maxHeartbeats 8000000 in
set_option maxRecDepth 100000 in
theorem swarfref38_Length.calls (k : Nat) (A0 : Option Addr) (c0 : Nat) (l0 : List (S31)) (A1 : Option Addr) (c1 : Nat) (l1 : List Int) (r1 : Int) (r2 : Int) (w : World) (hr0 : Kd.C k31 w A0 l0.length l0) (hc0 : l0.length ≤ c0) (hr1 : Kd.C (Kd.int .i64) w A1 l1.length l1) (hc1 : l1.length ≤ c1) (h : swarfref38_Length.f k l0 l1 = some (r1, r2)) :
  Calls Try.prog 13 #[.slice A0 l0.length c0, .slice A1 l1.length c1] w fun e w' => e = .returned (.tuple #[.int .i64 r1, .int .i64 r2]) ∧ Below w.heap.size w w' := by
 have HR0 := Aside0.mk hr0
 have HC0 := Aside0.mk hc0
 clear hr0 hc0
 have HR1 := Aside0.mk hr1
 have HC1 := Aside0.mk hc1
 clear hr1 hc1
 have HB := Aside0.mk (Below.refl w.heap.size w)
 have H : ((swarfref38_Valid.f k l0 200).bind fun t255 => (if t255 = 0 then ((swarfref38_Order.f k (l0.length : Int) l1).bind fun t256 => (if t256 = true then ((swarfref38_way.f k l0 l1).bind fun t257 => (some (t257, 0))) else (some (0, 1)))) else (some (0, t255)))) = some (r1, r2) := h
 clear h
 replace H := Option.bind_eq_some_iff.mp H
 obtain ⟨t255, A30, H⟩ := H
 replace H : (if t255 = 0 then ((swarfref38_Order.f k (l0.length : Int) l1).bind fun t256 => (if t256 = true then ((swarfref38_way.f k l0 l1).bind fun t257 => (some (t257, 0))) else (some (0, 1)))) else (some (0, t255))) = some (r1, r2) := H
 have A3 := Aside0.mk A30
 clear A30
 by_cases c4 : t255 = 0
 ·rw [if_pos c4] at H
  have c4b0 : (t255 == 0) = true := beq_iff_eq.mpr c4
  have c4b1 : (t255 != 0) = false := bne_eq_false_iff_eq.mpr c4
  clear c4; replace H := Option.bind_eq_some_iff.mp H
  obtain ⟨t256, A50, H⟩ := H
  replace H : (if t256 = true then ((swarfref38_way.f k l0 l1).bind fun t257 => (some (t257, 0))) else (some (0, 1))) = some (r1, r2) := H
  have A5 := Aside0.mk A50; clear A50
  by_cases c6 : t256 = true
  ·subst c6
   have H1 : ((swarfref38_way.f k l0 l1).bind fun t257 => (some (t257, 0))) = some (r1, r2) := by rw [if_pos rfl] at H; exact H
   clear H; have H := H1; clear H1; replace H := Option.bind_eq_some_iff.mp H
   obtain ⟨t257, A70, H⟩ := H
   replace H : (some (t257, 0)) = some (r1, r2) := H
   have A7 := Aside0.mk A70; clear A70
   simp only [Option.some.injEq, Prod.mk.injEq] at H
   obtain ⟨rfl, rfl⟩ := H
   go_enter Try.func13, Try.ntmps13
   go_wp2_with (first | ((with_reducible refine gate_callee (f := 31) rfl ?_); refine goesL_ (some 8) rfl rfl Try.func31 (by kernel_rfl) rfl #[.slice A0 l0.length c0, .int .i64 200] rfl (by (try simp only [List.map_toArray, List.map_cons, List.map_nil]); first | done | rfl | (simp only [List.length_drop, List.length_take]; rfl)) ?_; (with_reducible refine (swarfref38_Valid.calls k _ _ l0 200 t255 _ ?side1 ?side2 A3.out).mono ?_); (case side1 => repeat (first | exact HR0.out | (with_reducible refine Kd.C_alloc ?_ _) | (with_reducible refine Kd.C_drewN ?_ _) | (with_reducible refine Kd.C_drew ?_))); (case side2 => exact HC0.out); rintro e w' ⟨rfl, ⟨nd, rfl⟩⟩; refine ⟨_, rfl, ?_⟩) | ((with_reducible refine gate_callee (f := 32) rfl ?_); refine goesL_ (some 15) rfl rfl Try.func32 (by kernel_rfl) rfl #[.int .i64 (l0.length : Int), .slice A1 l1.length c1] rfl (by (try simp only [List.map_toArray, List.map_cons, List.map_nil]); first | done | rfl | (simp only [List.length_drop, List.length_take]; rfl)) ?_; (with_reducible refine (swarfref38_Order.calls k (l0.length : Int) _ _ l1 true _ ?side1 ?side2 A5.out).mono ?_); (case side1 => repeat (first | exact HR1.out | (with_reducible refine Kd.C_alloc ?_ _) | (with_reducible refine Kd.C_drewN ?_ _) | (with_reducible refine Kd.C_drew ?_))); (case side2 => exact HC1.out); rintro e w8 ⟨rfl, hb⟩; refine ⟨_, rfl, ?_⟩; have n0_ := Aside0.mk (below_step (by repeat (first | (with_reducible first | exact HB.out | apply below_alloc | apply pw_below_drewN | apply below_drew1) | exact HB.out)) hb); clear HB; have HB := n0_; clear n0_; (try clear hb); (try clear hb2); (try clear hk); (try clear hi)) | ((with_reducible refine gate_callee (f := 33) rfl ?_); refine goesL_ (some 19) rfl rfl Try.func33 (by kernel_rfl) rfl #[.slice A0 l0.length c0, .slice A1 l1.length c1] rfl (by (try simp only [List.map_toArray, List.map_cons, List.map_nil]); first | done | rfl | (simp only [List.length_drop, List.length_take]; rfl)) ?_; (with_reducible refine (swarfref38_way.calls k _ _ l0 _ _ l1 t257 _ ?side1 ?side2 ?side3 ?side4 A7.out).mono ?_); (case side1 => repeat (first | exact (Kd.C_below HR0.out HB.out) | (with_reducible refine Kd.C_alloc ?_ _) | (with_reducible refine Kd.C_drewN ?_ _) | (with_reducible refine Kd.C_drew ?_))); (case side2 => exact HC0.out); (case side3 => repeat (first | exact (Kd.C_below HR1.out HB.out) | (with_reducible refine Kd.C_alloc ?_ _) | (with_reducible refine Kd.C_drewN ?_ _) | (with_reducible refine Kd.C_drew ?_))); (case side4 => exact HC1.out); rintro e w9 ⟨rfl, hb⟩; refine ⟨_, rfl, ?_⟩; have n0_ := Aside0.mk (below_step (by repeat (first | (with_reducible first | exact HB.out | apply below_alloc | apply pw_below_drewN | apply below_drew1) | exact HB.out)) hb); clear HB; have HB := n0_; clear n0_; (try clear hb); (try clear hb2); (try clear hk); (try clear hi)))
   go_ret2
   exact ⟨by first | rfl | (simp [errW_none, errW_some] <;> rfl) | (simp [*, errW_none, errW_some] <;> rfl), by repeat (first | (with_reducible first | exact HB.out | apply below_alloc | apply pw_below_drewN | apply below_drew1) | exact HB.out)⟩
  ·replace c6 := Bool.eq_false_iff.mpr c6
   subst c6
   have H1 : (some (0, 1)) = some (r1, r2) := by rw [if_neg (show ¬ (false = true) by decide)] at H; exact H
   clear H; have H := H1; clear H1
   simp only [Option.some.injEq, Prod.mk.injEq] at H
   obtain ⟨rfl, rfl⟩ := H
   go_enter Try.func13, Try.ntmps13
   go_wp2_with (first | ((with_reducible refine gate_callee (f := 31) rfl ?_); refine goesL_ (some 8) rfl rfl Try.func31 (by kernel_rfl) rfl #[.slice A0 l0.length c0, .int .i64 200] rfl (by (try simp only [List.map_toArray, List.map_cons, List.map_nil]); first | done | rfl | (simp only [List.length_drop, List.length_take]; rfl)) ?_; (with_reducible refine (swarfref38_Valid.calls k _ _ l0 200 t255 _ ?side1 ?side2 A3.out).mono ?_); (case side1 => repeat (first | exact HR0.out | (with_reducible refine Kd.C_alloc ?_ _) | (with_reducible refine Kd.C_drewN ?_ _) | (with_reducible refine Kd.C_drew ?_))); (case side2 => exact HC0.out); rintro e w' ⟨rfl, ⟨nd, rfl⟩⟩; refine ⟨_, rfl, ?_⟩) | ((with_reducible refine gate_callee (f := 32) rfl ?_); refine goesL_ (some 15) rfl rfl Try.func32 (by kernel_rfl) rfl #[.int .i64 (l0.length : Int), .slice A1 l1.length c1] rfl (by (try simp only [List.map_toArray, List.map_cons, List.map_nil]); first | done | rfl | (simp only [List.length_drop, List.length_take]; rfl)) ?_; (with_reducible refine (swarfref38_Order.calls k (l0.length : Int) _ _ l1 false _ ?side1 ?side2 A5.out).mono ?_); (case side1 => repeat (first | exact HR1.out | (with_reducible refine Kd.C_alloc ?_ _) | (with_reducible refine Kd.C_drewN ?_ _) | (with_reducible refine Kd.C_drew ?_))); (case side2 => exact HC1.out); rintro e w10 ⟨rfl, hb⟩; refine ⟨_, rfl, ?_⟩; have n0_ := Aside0.mk (below_step (by repeat (first | (with_reducible first | exact HB.out | apply below_alloc | apply pw_below_drewN | apply below_drew1) | exact HB.out)) hb); clear HB; have HB := n0_; clear n0_; (try clear hb); (try clear hb2); (try clear hk); (try clear hi)))
   go_ret2
   exact ⟨by first | rfl | (simp [errW_none, errW_some] <;> rfl) | (simp [*, errW_none, errW_some] <;> rfl), by repeat (first | (with_reducible first | exact HB.out | apply below_alloc | apply pw_below_drewN | apply below_drew1) | exact HB.out)⟩
 ·rw [if_neg c4] at H
  have c4b0 : (t255 == 0) = false := beq_eq_false_iff_ne.mpr c4
  have c4b1 : (t255 != 0) = true := bne_iff_ne.mpr c4
  simp only [Option.some.injEq, Prod.mk.injEq] at H
  obtain ⟨rfl, rfl⟩ := H
  go_enter Try.func13, Try.ntmps13
  go_wp2_with (first | ((with_reducible refine gate_callee (f := 31) rfl ?_); refine goesL_ (some 8) rfl rfl Try.func31 (by kernel_rfl) rfl #[.slice A0 l0.length c0, .int .i64 200] rfl (by (try simp only [List.map_toArray, List.map_cons, List.map_nil]); first | done | rfl | (simp only [List.length_drop, List.length_take]; rfl)) ?_; (with_reducible refine (swarfref38_Valid.calls k _ _ l0 200 t255 _ ?side1 ?side2 A3.out).mono ?_); (case side1 => repeat (first | exact HR0.out | (with_reducible refine Kd.C_alloc ?_ _) | (with_reducible refine Kd.C_drewN ?_ _) | (with_reducible refine Kd.C_drew ?_))); (case side2 => exact HC0.out); rintro e w' ⟨rfl, ⟨nd, rfl⟩⟩; refine ⟨_, rfl, ?_⟩))
  go_ret2
  exact ⟨by first | rfl | (simp [errW_none, errW_some] <;> rfl) | (simp [*, errW_none, errW_some] <;> rfl), by repeat (first | (with_reducible first | exact HB.out | apply below_alloc | apply pw_below_drewN | apply below_drew1) | exact HB.out)⟩

end Go.Proofs.Ytohjocajaanhaaa.P
