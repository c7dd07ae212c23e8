import Derived.Test.YtbbkclcfmcjlgaaT4M21
import Derived.Test.YtbbkclcfmcjlgaaT4M23
-- PRINTED by print.py (a twelfth state) out of the translation. Not trusted: Lean checks it.

namespace Go.Proofs.Ytbbkclcfmcjlgaa.P
open Go.RowKit Go.Proofs.YtbbkclcfmcjlgaaW.PrintWords Go.Proofs.YtbbkclcfmcjlgaaW.PrintLast Go.Proofs.YtbbkclcfmcjlgaaW.PrintMore
attribute [local go_sem] max2_int min2_int max_two min_two max_three min_three max_four min_four   -- for this text's walks alone
set_option linter.unusedVariables false
set_option linter.unusedSimpArgs false

/-! ### swarfref29_Valid: function 21 -/
mutual
def swarfref29_Valid.j0 : Nat → Int → List (S47) → Bool → Option (Int)
 | 0, _, _, _ => none
 | k + 1, x0, x1, x14 => if x14 = true then (some 3) else (if x0 < 0 then (some 1) else (swarfref29_Valid.l0 k x0 x1 0))
def swarfref29_Valid.l0 : Nat → Int → List (S47) → Int → Option (Int)
 | 0, _, _, _ => none
 | k + 1, x0, x1, x5 => if x5 < (x1.length : Int) then (if 0 ≤ x5 then (if ((rd_T47 x1 x5).f0) < 0 then (some 1) else (if ((rd_T47 x1 x5).f0) ≥ x0 then (some 1) else (if ((rd_T47 x1 x5).f1) < 0 then (some 1) else (if ((rd_T47 x1 x5).f1) ≥ x0 then (some 1) else (if ((rd_T47 x1 x5).f0) = ((rd_T47 x1 x5).f1) then (some 1) else (swarfref29_Valid.l0 k x0 x1 (wrap64 (x5 + 1)))))))) else (none)) else (some 0)
end
def swarfref29_Valid.f (k : Nat) (a0 : Int) (l1 : List (S47)) : Option (Int) := if a0 > 200 then (swarfref29_Valid.j0 k a0 l1 true) else (swarfref29_Valid.j0 k a0 l1 (decide ((l1.length : Int) > 2000)))
theorem swarfref29_Valid.mono_l : ∀ k, (∀ y0 y1 y2, LeO (swarfref29_Valid.j0 k y0 y1 y2) (swarfref29_Valid.j0 (k + 1) y0 y1 y2)) ∧ (∀ y0 y1 y2, LeO (swarfref29_Valid.l0 k y0 y1 y2) (swarfref29_Valid.l0 (k + 1) y0 y1 y2))
 | 0 => ⟨fun _ _ _ r h => by simp [swarfref29_Valid.j0] at h, fun _ _ _ r h => by simp [swarfref29_Valid.l0] at h⟩
 | k + 1 => by
  obtain ⟨ih0, ih1⟩ := swarfref29_Valid.mono_l k
  refine ⟨?_, ?_⟩
  ·intro y0 y1 y2
   unfold swarfref29_Valid.j0
   repeat' first
   | (with_reducible exact ih0 _ _ _)
   | (with_reducible exact ih1 _ _ _)
   | (with_reducible exact LeO.refl _)
   | (with_reducible exact LeO.none _)
   | (with_reducible refine LeO.ite ?_ ?_)
   | (with_reducible refine LeO.bind ?_ (fun _ => ?_))
   | exact ih0 _ _ _
   | exact ih1 _ _ _
   | exact LeO.none _
   | refine LeO.ite ?_ ?_
   | refine LeO.bind ?_ (fun _ => ?_)
  ·intro y0 y1 y2
   unfold swarfref29_Valid.l0
   repeat' first
   | (with_reducible exact ih0 _ _ _)
   | (with_reducible exact ih1 _ _ _)
   | (with_reducible exact LeO.refl _)
   | (with_reducible exact LeO.none _)
   | (with_reducible refine LeO.ite ?_ ?_)
   | (with_reducible refine LeO.bind ?_ (fun _ => ?_))
   | exact ih0 _ _ _
   | exact ih1 _ _ _
   | exact LeO.none _
   | refine LeO.ite ?_ ?_
   | refine LeO.bind ?_ (fun _ => ?_)
theorem swarfref29_Valid.mono : ∀ a0 a1 k, LeO (swarfref29_Valid.f k a0 a1) (swarfref29_Valid.f (k + 1) a0 a1) := by
 intro a0 a1 k
 obtain ⟨ih0, ih1⟩ := swarfref29_Valid.mono_l k
 unfold swarfref29_Valid.f
 repeat' first
   | (with_reducible exact ih0 _ _ _)
   | (with_reducible exact ih1 _ _ _)
   | (with_reducible exact LeO.refl _)
   | (with_reducible exact LeO.none _)
   | (with_reducible refine LeO.ite ?_ ?_)
   | (with_reducible refine LeO.bind ?_ (fun _ => ?_))
   | exact ih0 _ _ _
   | exact ih1 _ _ _
   | exact LeO.none _
   | refine LeO.ite ?_ ?_
   | refine LeO.bind ?_ (fun _ => ?_)
set_option maxHeartbeats 8000000 in
set_option maxRecDepth 100000 in
theorem swarfref29_Valid.calls (k : Nat) (a0 : Int) (A1 : Option Addr) (c1 : Nat) (l1 : List (S47)) (r : Int) (w : World) (hr1 : Kd.C k47 w A1 l1.length l1) (hc1 : l1.length ≤ c1) (h : swarfref29_Valid.f k a0 l1 = some r) :
  Calls Try.prog 21 #[.int .i64 a0, .slice A1 l1.length c1] w fun e w' => e = .returned (.int .i64 r) ∧ Drawn0 w w' := by
 have HR1 := Aside0.mk hr1
 have HC1 := Aside0.mk hc1
 clear hr1 hc1
 have H : (if a0 > 200 then (swarfref29_Valid.j0 k a0 l1 true) else (swarfref29_Valid.j0 k a0 l1 (decide ((l1.length : Int) > 2000)))) = some r := h
 clear h
 have HC3 := Aside0.mk H
 clear H
 go_enter Try.func21, Try.ntmps21
 go_upto_region 1 with (fail)
 repeat (go_quiet (fail); go_upto_region 1 with (fail))
 go_cut [14] (fun v14 wc => ∃ (kq : Nat) (x14_2 : Bool), v14 = .bool x14_2 ∧ Aside0 (swarfref29_Valid.j0 kq a0 l1 x14_2 = some r) ∧ Aside0 (kq ≤ k) ∧ Drawn0 w wc)
 case first =>
  have H := HC3.out
  clear HC3
  by_cases c4 : a0 > 200
  ·rw [if_pos c4] at H
   have c4b0 : decide (200 < a0) = true := decide_eq_true c4
   clear c4
   (first | rw [c4b0] | (simp only [i64_w, i32_w]; rw [c4b0]) | skip)
   have H' := Aside0.mk H; clear H; go_wp2
   repeat (go_quiet (fail); try go_wp2)
   go_meet
   case rel => exact ⟨_, (true), (by first | rfl | (simp; done) | (simp [*]; done)), H', ⟨by first | omega | exact Nat.le_refl _⟩, by repeat (first | exact Drawn0.refl _ | apply Drawn0.step)⟩
  ·rw [if_neg c4] at H
   have c4b0 : decide (200 < a0) = false := decide_eq_false c4
   clear c4
   (first | rw [c4b0] | (simp only [i64_w, i32_w]; rw [c4b0]) | skip)
   have H' := Aside0.mk H; clear H; go_wp2
   repeat (go_quiet (fail); try go_wp2)
   go_meet
   case rel => exact ⟨_, (decide ((l1.length : Int) > 2000)), (by first | rfl | (simp; done) | (simp [*]; done)), H', ⟨by first | omega | exact Nat.le_refl _⟩, by repeat (first | exact Drawn0.refl _ | apply Drawn0.step)⟩
 case rest =>
  clear HC3; try clear c1; try clear c2; try clear p2; try clear c4; try clear c4b0
  obtain ⟨kq, x14_2, rfl, HA, HJ2, ⟨mc2, rfl⟩⟩ := hcut
  cases kq with
  | zero => exact absurd HA.out (by simp [swarfref29_Valid.j0])
  | succ kj2 =>
   have H := HA.out
   clear HA
   simp only [swarfref29_Valid.j0] at H
   by_cases c5 : x14_2 = true
   ·subst c5
    have H1 : (some 3) = some r := by rw [if_pos rfl] at H; exact H
    clear H; have H := H1; clear H1; obtain rfl := Option.some.inj H; go_wp2
    repeat (go_quiet (fail); try go_wp2)
    go_ret
    exact ⟨by first | rfl | (simp; done) | (simp [*]; done), by repeat (first | exact Drawn0.refl _ | apply Drawn0.step)⟩
   ·replace c5 := Bool.eq_false_iff.mpr c5
    subst c5
    have H1 : (if a0 < 0 then (some 1) else (swarfref29_Valid.l0 kj2 a0 l1 0)) = some r := by rw [if_neg (show ¬ (false = true) by decide)] at H; exact H
    clear H; have H := H1; clear H1
    by_cases c6 : a0 < 0
    ·rw [if_pos c6] at H
     have c6b0 : decide (a0 < 0) = true := decide_eq_true c6
     clear c6; obtain rfl := Option.some.inj H; go_wp2
     repeat (go_quiet (fail); try go_wp2)
     go_ret
     exact ⟨by first | rfl | (simp; done) | (simp [*]; done), by repeat (first | exact Drawn0.refl _ | apply Drawn0.step)⟩
    ·rw [if_neg c6] at H
     have c6b0 : decide (a0 < 0) = false := decide_eq_false c6
     clear c6; have H' := Aside0.mk H; clear H; go_wp2
     repeat (go_quiet (fail); try go_wp2)
     go_loopg [5] kj2 (fun kq v5 w' => ∃ (x5_2 : Int), v5 = .int .i64 x5_2 ∧ Aside0 (swarfref29_Valid.l0 kq a0 l1 x5_2 = some r) ∧ Aside0 (kq ≤ kj2) ∧ Drawn0 w w')
     case atStart => exact ⟨(0), (by first | rfl | (simp; done) | (simp [*]; done)), H', ⟨Nat.le_refl _⟩, by repeat (first | exact Drawn0.refl _ | apply Drawn0.step)⟩
     case round =>
      clear H'; try clear c1; try clear c2; try clear p2; try clear c4; try clear c4b0; try clear c5; try clear c6; try clear c6b0; try clear p2
      obtain ⟨x5_2, rfl, HA, HK2, ⟨m2, rfl⟩⟩ := hrel
      cases gk with
      | zero => exact absurd HA.out (by simp [swarfref29_Valid.l0])
      | succ k2 =>
       have H := HA.out
       clear HA
       simp only [swarfref29_Valid.l0] at H
       by_cases c7 : x5_2 < (l1.length : Int)
       ·rw [if_pos c7] at H
        have c7b0 : decide (x5_2 < (l1.length : Int)) = true := decide_eq_true c7
        clear c7
        by_cases c8 : 0 ≤ x5_2
        ·rw [if_pos c8] at H
         have c8b0 : decide (0 ≤ x5_2) = true := decide_eq_true c8
         clear c8
         by_cases c9 : ((rd_T47 l1 x5_2).f0) < 0
         ·rw [if_pos c9] at H
          have c9b0 : decide (((rd_T47 l1 x5_2).f0) < 0) = true := decide_eq_true c9
          clear c9; obtain rfl := Option.some.inj H
          have p187 : 0 ≤ (x5_2 : Int) := of_decide_eq_true (by first | (with_reducible assumption) | assumption)
          have q187 : x5_2 < (l1.length : Int) := of_decide_eq_true (by first | (with_reducible assumption) | assumption)
          obtain ⟨ad187, e187, hx187_0, hx187_1⟩ := at_T47 HR1.out x5_2 p187 q187
          cases e187; replace p187 := eq_true p187; replace q187 := eq_true q187
          have p188 : 0 ≤ (x5_2 : Int) := of_decide_eq_true (by first | (with_reducible assumption) | assumption)
          have q188 : x5_2 < (l1.length : Int) := of_decide_eq_true (by first | (with_reducible assumption) | assumption)
          obtain ⟨ad188, e188, hx188_0, hx188_1⟩ := at_T47 HR1.out x5_2 p188 q188
          obtain rfl : ad187 = ad188 := (by injection e188)
          replace p188 := eq_true p188; replace q188 := eq_true q188; go_wp2
          repeat (go_quiet (fail); try go_wp2)
          go_ret
          exact ⟨by first | rfl | (simp; done) | (simp [*]; done), by repeat (first | exact Drawn0.refl _ | apply Drawn0.step)⟩
         ·rw [if_neg c9] at H
          have c9b0 : decide (((rd_T47 l1 x5_2).f0) < 0) = false := decide_eq_false c9
          clear c9
          by_cases c10 : ((rd_T47 l1 x5_2).f0) ≥ a0
          ·rw [if_pos c10] at H
           have c10b0 : decide (a0 ≤ ((rd_T47 l1 x5_2).f0)) = true := decide_eq_true c10
           clear c10; obtain rfl := Option.some.inj H
           have p187 : 0 ≤ (x5_2 : Int) := of_decide_eq_true (by first | (with_reducible assumption) | assumption)
           have q187 : x5_2 < (l1.length : Int) := of_decide_eq_true (by first | (with_reducible assumption) | assumption)
           obtain ⟨ad187, e187, hx187_0, hx187_1⟩ := at_T47 HR1.out x5_2 p187 q187
           cases e187; replace p187 := eq_true p187; replace q187 := eq_true q187
           have p188 : 0 ≤ (x5_2 : Int) := of_decide_eq_true (by first | (with_reducible assumption) | assumption)
           have q188 : x5_2 < (l1.length : Int) := of_decide_eq_true (by first | (with_reducible assumption) | assumption)
           obtain ⟨ad188, e188, hx188_0, hx188_1⟩ := at_T47 HR1.out x5_2 p188 q188
           obtain rfl : ad187 = ad188 := (by injection e188)
           replace p188 := eq_true p188; replace q188 := eq_true q188; go_wp2
           repeat (go_quiet (fail); try go_wp2)
           go_ret
           exact ⟨by first | rfl | (simp; done) | (simp [*]; done), by repeat (first | exact Drawn0.refl _ | apply Drawn0.step)⟩
          ·rw [if_neg c10] at H
           have c10b0 : decide (a0 ≤ ((rd_T47 l1 x5_2).f0)) = false := decide_eq_false c10
           clear c10
           by_cases c11 : ((rd_T47 l1 x5_2).f1) < 0
           ·rw [if_pos c11] at H
            have c11b0 : decide (((rd_T47 l1 x5_2).f1) < 0) = true := decide_eq_true c11
            clear c11; obtain rfl := Option.some.inj H
            have p187 : 0 ≤ (x5_2 : Int) := of_decide_eq_true (by first | (with_reducible assumption) | assumption)
            have q187 : x5_2 < (l1.length : Int) := of_decide_eq_true (by first | (with_reducible assumption) | assumption)
            obtain ⟨ad187, e187, hx187_0, hx187_1⟩ := at_T47 HR1.out x5_2 p187 q187
            cases e187; replace p187 := eq_true p187; replace q187 := eq_true q187
            have p188 : 0 ≤ (x5_2 : Int) := of_decide_eq_true (by first | (with_reducible assumption) | assumption)
            have q188 : x5_2 < (l1.length : Int) := of_decide_eq_true (by first | (with_reducible assumption) | assumption)
            obtain ⟨ad188, e188, hx188_0, hx188_1⟩ := at_T47 HR1.out x5_2 p188 q188
            obtain rfl : ad187 = ad188 := (by injection e188)
            replace p188 := eq_true p188; replace q188 := eq_true q188; go_wp2
            repeat (go_quiet (fail); try go_wp2)
            go_ret
            exact ⟨by first | rfl | (simp; done) | (simp [*]; done), by repeat (first | exact Drawn0.refl _ | apply Drawn0.step)⟩
           ·rw [if_neg c11] at H
            have c11b0 : decide (((rd_T47 l1 x5_2).f1) < 0) = false := decide_eq_false c11
            clear c11
            by_cases c12 : ((rd_T47 l1 x5_2).f1) ≥ a0
            ·rw [if_pos c12] at H
             have c12b0 : decide (a0 ≤ ((rd_T47 l1 x5_2).f1)) = true := decide_eq_true c12
             clear c12; obtain rfl := Option.some.inj H
             have p187 : 0 ≤ (x5_2 : Int) := of_decide_eq_true (by first | (with_reducible assumption) | assumption)
             have q187 : x5_2 < (l1.length : Int) := of_decide_eq_true (by first | (with_reducible assumption) | assumption)
             obtain ⟨ad187, e187, hx187_0, hx187_1⟩ := at_T47 HR1.out x5_2 p187 q187
             cases e187; replace p187 := eq_true p187; replace q187 := eq_true q187
             have p188 : 0 ≤ (x5_2 : Int) := of_decide_eq_true (by first | (with_reducible assumption) | assumption)
             have q188 : x5_2 < (l1.length : Int) := of_decide_eq_true (by first | (with_reducible assumption) | assumption)
             obtain ⟨ad188, e188, hx188_0, hx188_1⟩ := at_T47 HR1.out x5_2 p188 q188
             obtain rfl : ad187 = ad188 := (by injection e188)
             replace p188 := eq_true p188; replace q188 := eq_true q188; go_wp2
             repeat (go_quiet (fail); try go_wp2)
             go_ret
             exact ⟨by first | rfl | (simp; done) | (simp [*]; done), by repeat (first | exact Drawn0.refl _ | apply Drawn0.step)⟩
            ·rw [if_neg c12] at H
             have c12b0 : decide (a0 ≤ ((rd_T47 l1 x5_2).f1)) = false := decide_eq_false c12
             clear c12
             by_cases c13 : ((rd_T47 l1 x5_2).f0) = ((rd_T47 l1 x5_2).f1)
             ·rw [if_pos c13] at H
              have c13b0 : (((rd_T47 l1 x5_2).f0) == ((rd_T47 l1 x5_2).f1)) = true := beq_iff_eq.mpr c13
              have c13b1 : (((rd_T47 l1 x5_2).f0) != ((rd_T47 l1 x5_2).f1)) = false := bne_eq_false_iff_eq.mpr c13
              clear c13; obtain rfl := Option.some.inj H
              have p187 : 0 ≤ (x5_2 : Int) := of_decide_eq_true (by first | (with_reducible assumption) | assumption)
              have q187 : x5_2 < (l1.length : Int) := of_decide_eq_true (by first | (with_reducible assumption) | assumption)
              obtain ⟨ad187, e187, hx187_0, hx187_1⟩ := at_T47 HR1.out x5_2 p187 q187
              cases e187; replace p187 := eq_true p187; replace q187 := eq_true q187
              have p188 : 0 ≤ (x5_2 : Int) := of_decide_eq_true (by first | (with_reducible assumption) | assumption)
              have q188 : x5_2 < (l1.length : Int) := of_decide_eq_true (by first | (with_reducible assumption) | assumption)
              obtain ⟨ad188, e188, hx188_0, hx188_1⟩ := at_T47 HR1.out x5_2 p188 q188
              obtain rfl : ad187 = ad188 := (by injection e188)
              replace p188 := eq_true p188; replace q188 := eq_true q188; go_wp2
              repeat (go_quiet (fail); try go_wp2)
              go_ret
              exact ⟨by first | rfl | (simp; done) | (simp [*]; done), by repeat (first | exact Drawn0.refl _ | apply Drawn0.step)⟩
             ·rw [if_neg c13] at H
              have c13b0 : (((rd_T47 l1 x5_2).f0) == ((rd_T47 l1 x5_2).f1)) = false := beq_eq_false_iff_ne.mpr c13
              have c13b1 : (((rd_T47 l1 x5_2).f0) != ((rd_T47 l1 x5_2).f1)) = true := bne_iff_ne.mpr c13
              have H' := Aside0.mk H; clear H
              have p187 : 0 ≤ (x5_2 : Int) := of_decide_eq_true (by first | (with_reducible assumption) | assumption)
              have q187 : x5_2 < (l1.length : Int) := of_decide_eq_true (by first | (with_reducible assumption) | assumption)
              obtain ⟨ad187, e187, hx187_0, hx187_1⟩ := at_T47 HR1.out x5_2 p187 q187
              cases e187; replace p187 := eq_true p187; replace q187 := eq_true q187
              have p188 : 0 ≤ (x5_2 : Int) := of_decide_eq_true (by first | (with_reducible assumption) | assumption)
              have q188 : x5_2 < (l1.length : Int) := of_decide_eq_true (by first | (with_reducible assumption) | assumption)
              obtain ⟨ad188, e188, hx188_0, hx188_1⟩ := at_T47 HR1.out x5_2 p188 q188
              obtain rfl : ad187 = ad188 := (by injection e188)
              replace p188 := eq_true p188; replace q188 := eq_true q188; go_wp2
              repeat (go_quiet (fail); try go_wp2)
              go_roundg k2
              case measure => have := HJ2.out; have := HK2.out; omega
              case rel => exact ⟨(wrap64 (x5_2 + 1)), (by first | rfl | (simp; done) | (simp [*]; done)), H', ⟨by have := HJ2.out; have := HK2.out; omega⟩, by repeat (first | exact Drawn0.refl _ | apply Drawn0.step)⟩
        ·rw [if_neg c8] at H
         exact absurd H (by simp)
       ·rw [if_neg c7] at H
        have c7b0 : decide (x5_2 < (l1.length : Int)) = false := decide_eq_false c7
        clear c7; obtain rfl := Option.some.inj H; go_wp2
        repeat (go_quiet (fail); try go_wp2)
        go_ret
        exact ⟨by first | rfl | (simp; done) | (simp [*]; done), by repeat (first | exact Drawn0.refl _ | apply Drawn0.step)⟩

end Go.Proofs.Ytbbkclcfmcjlgaa.P

-- PRINTED by print.py (a twelfth state) out of the translation. Not trusted: Lean checks it.

namespace Go.Proofs.Ytbbkclcfmcjlgaa.P
open Go.RowKit Go.Proofs.YtbbkclcfmcjlgaaW.PrintWords Go.Proofs.YtbbkclcfmcjlgaaW.PrintLast Go.Proofs.YtbbkclcfmcjlgaaW.PrintMore
attribute [local go_sem] max2_int min2_int max_two min_two max_three min_three max_four min_four   -- for this text's walks alone
set_option linter.unusedVariables false
set_option linter.unusedSimpArgs false

/-! ### swarflaw29_few: function 13 -/
def swarflaw29_few.f (k : Nat) (a0 : Int) (a1 : Int) (l2 : List (S47)) : Option (Bool) := if (l2.length : Int) ≤ 60 then (if a0 ≤ a1 then (some true) else ((swarfref29_Valid.f k a0 l2).bind fun t189 => (some (t189 != 0)))) else (some false)
theorem swarflaw29_few.mono : ∀ a0 a1 a2 k, LeO (swarflaw29_few.f k a0 a1 a2) (swarflaw29_few.f (k + 1) a0 a1 a2) := by
 intro a0 a1 a2 k
 unfold swarflaw29_few.f
 repeat' first
   | (with_reducible exact swarfref29_Valid.mono _ _ _)
   | (with_reducible exact LeO.refl _)
   | (with_reducible exact LeO.none _)
   | (with_reducible refine LeO.ite ?_ ?_)
   | (with_reducible refine LeO.bind ?_ (fun _ => ?_))
   | exact swarfref29_Valid.mono _ _ _
   | exact LeO.none _
   | refine LeO.ite ?_ ?_
   | refine LeO.bind ?_ (fun _ => ?_)
set_option maxHeartbeats 8000000 in
set_option maxRecDepth 100000 in
theorem swarflaw29_few.calls (k : Nat) (a0 : Int) (a1 : Int) (A2 : Option Addr) (c2 : Nat) (l2 : List (S47)) (r : Bool) (w : World) (hr2 : Kd.C k47 w A2 l2.length l2) (hc2 : l2.length ≤ c2) (h : swarflaw29_few.f k a0 a1 l2 = some r) :
  Calls Try.prog 13 #[.int .i64 a0, .int .i64 a1, .slice A2 l2.length c2] w fun e w' => e = .returned (.bool r) ∧ Drawn0 w w' := by
 have HR2 := Aside0.mk hr2
 have HC2 := Aside0.mk hc2
 clear hr2 hc2
 have H : (if (l2.length : Int) ≤ 60 then (if a0 ≤ a1 then (some true) else ((swarfref29_Valid.f k a0 l2).bind fun t189 => (some (t189 != 0)))) else (some false)) = some r := h
 clear h
 by_cases c4 : (l2.length : Int) ≤ 60
 ·rw [if_pos c4] at H
  have c4b0 : decide ((l2.length : Int) ≤ 60) = true := decide_eq_true c4
  have c4b1 : decide (l2.length ≤ 60) = true := decide_eq_true (by omega)
  clear c4
  by_cases c5 : a0 ≤ a1
  ·rw [if_pos c5] at H
   have c5b0 : decide (a0 ≤ a1) = true := decide_eq_true c5
   clear c5; obtain rfl := Option.some.inj H
   go_enter Try.func13, Try.ntmps13
   go_wp2; go_ret
   exact ⟨by first | rfl | (simp; done) | (simp [*]; done), by repeat (first | exact Drawn0.refl _ | apply Drawn0.step)⟩
  ·rw [if_neg c5] at H
   have c5b0 : decide (a0 ≤ a1) = false := decide_eq_false c5
   clear c5; replace H := Option.bind_eq_some_iff.mp H
   obtain ⟨t189, A60, H⟩ := H
   replace H : (some (t189 != 0)) = some r := H
   have A6 := Aside0.mk A60; clear A60; obtain rfl := Option.some.inj H
   go_enter Try.func13, Try.ntmps13
   go_wp2_with (first | (go_at_call 21; (with_reducible refine (swarfref29_Valid.calls k a0 _ _ l2 t189 _ ?side1 ?side2 A6.out).mono ?_); (case side1 => repeat (first | exact HR2.out | (with_reducible refine Kd.C_alloc ?_ _) | (with_reducible refine Kd.C_drewN ?_ _) | (with_reducible refine Kd.C_drew ?_))); (case side2 => exact HC2.out); rintro e w' ⟨rfl, ⟨nd, rfl⟩⟩))
   go_ret
   exact ⟨by first | rfl | (simp; done) | (simp [*]; done), by repeat (first | exact Drawn0.refl _ | apply Drawn0.step)⟩
 ·rw [if_neg c4] at H
  have c4b0 : decide ((l2.length : Int) ≤ 60) = false := decide_eq_false c4
  have c4b1 : decide (l2.length ≤ 60) = false := decide_eq_false (by omega)
  clear c4; obtain rfl := Option.some.inj H
  go_enter Try.func13, Try.ntmps13
  go_wp2; go_ret
  exact ⟨by first | rfl | (simp; done) | (simp [*]; done), by repeat (first | exact Drawn0.refl _ | apply Drawn0.step)⟩

end Go.Proofs.Ytbbkclcfmcjlgaa.P

-- PRINTED by print.py (a twelfth state) out of the translation. Not trusted: Lean checks it.

namespace Go.Proofs.Ytbbkclcfmcjlgaa.P
open Go.RowKit Go.Proofs.YtbbkclcfmcjlgaaW.PrintWords Go.Proofs.YtbbkclcfmcjlgaaW.PrintLast Go.Proofs.YtbbkclcfmcjlgaaW.PrintMore
attribute [local go_sem] max2_int min2_int max_two min_two max_three min_three max_four min_four   -- for this text's walks alone
set_option linter.unusedVariables false
set_option linter.unusedSimpArgs false

/-! ### swarflaw29_cp: function 15 -/
def swarflaw29_cp.f (l0 : List (S47)) : Option ((List (S47))) := (some (([] : List (S47)) : List (S47))).bind fun y190 => (if y190.length + l0.length < 8796093022208 then (some (y190 ++ l0)) else (none))
set_option maxHeartbeats 8000000 in
set_option maxRecDepth 100000 in
theorem swarflaw29_cp.calls (A0 : Option Addr) (c0 : Nat) (l0 : List (S47)) (r : List (S47)) (w : World) (hr0 : Kd.C k47 w A0 l0.length l0) (hc0 : l0.length ≤ c0) (h : swarflaw29_cp.f l0 = some r) :
  Calls Try.prog 15 #[.slice A0 l0.length c0] w fun e w' => ∃ v0_ : Value, e = .returned (v0_) ∧ Kd.R k47 47 w' w.heap.size (fun _ => True) v0_ r ∧ Below w.heap.size w w' := by
 have HR0 := Aside0.mk hr0
 have HC0 := Aside0.mk hc0
 clear hr0 hc0
 have HB := Aside0.mk (Below.refl w.heap.size w)
 have H : ((some (([] : List (S47)) : List (S47))).bind fun y190 => (if y190.length + l0.length < 8796093022208 then (some (y190 ++ l0)) else (none))) = some r := h
 clear h
 obtain ⟨y190, hy190⟩ : ∃ y_ : List (S47), y_ = (([] : List (S47))) := ⟨_, rfl⟩
 replace H : (if y190.length + l0.length < 8796093022208 then (some (y190 ++ l0)) else (none)) = some r := by first | (rw [hy190]; with_reducible exact H) | (have H2_ := (Option.bind_some _ _).symm.trans H; rw [hy190]; with_reducible exact H2_) | (have H2_ := (Option.bind_some _ _).symm.trans H; with_reducible exact H2_) | with_reducible exact H | (rw [hy190]; exact H) | exact H
 have Ny190 := Aside0.mk hy190
 clear hy190
 by_cases c2 : y190.length + l0.length < 8796093022208
 ·rw [if_pos c2] at H; have LMc2 := Aside0.mk c2; clear c2
  obtain ⟨y193, hy193⟩ : ∃ y_ : List (S47), y_ = (y190 ++ l0) := ⟨_, rfl⟩
  replace H : (some y193) = some r := by first | (rw [hy193]; with_reducible exact H) | (have H2_ := (Option.bind_some _ _).symm.trans H; rw [hy193]; with_reducible exact H2_) | (have H2_ := (Option.bind_some _ _).symm.trans H; with_reducible exact H2_) | with_reducible exact H | (rw [hy193]; exact H) | exact H
  have Ny193 := Aside0.mk hy193; clear hy193; obtain rfl := Option.some.inj H
  go_enter Try.func15, Try.ntmps15
  go_wp2_with (first | ((with_reducible refine gate_dst (N := 3) rfl ?_); refine Kd.R_lit k47 _ 47 ?hg (N := 3) ?hd (xs := ([] : List (S47))) (inner := []) (ok := fun _ => True) (okp := fun _ => True) ?hr ?hp (fun _ hk => hk) trivial (Below.refl _ _) (Nat.le_refl _) (by simp) ?_; (case hd => rfl); (case hg => rfl); (case hr => first | (go_simp; done) | (go_simp; rfl)); (case hp => exact (Reps.none _ _)); intro v191 w3 ho4 hb hg_ hnew_; clear hg_ hnew_; (first | rw [← Ny190.out] at ho4 | (simp only [Int.reduceToNat] at ho4; rw [← Ny190.out] at ho4)); have n0_ := Aside0.mk (Kd.R_lower ho4 (below_size (by repeat (first | (with_reducible first | exact HB.out | apply below_alloc | apply pw_below_drewN | apply below_drew1) | exact HB.out)))); have n1_ := Aside0.mk (below_step (by repeat (first | (with_reducible first | exact HB.out | apply below_alloc | apply pw_below_drewN | apply below_drew1) | exact HB.out)) hb); clear HB; have HO192 := n0_; have HB := n1_; clear n0_ n1_; clear hb ho4) | ((with_reducible refine gate_builtin (b := .append) (xs := #[.tmp 3, .tmp 4]) rfl ?_); at_builtin; refine Kd.R_append_rows k47 (w0 := w) w.heap.size rfl (.tmp 3) (.tmp 4) 22 47 (.agg #[(.int .i64 0), (.int .i64 0)]) 16 rfl Try.underlying22 info47 rfl (by decide) (by omega) v191 y190 l0 _ _ _ (fun _ => True) (fun _ => False) rfl rfl ?aO ?aR (fun _ _ h => h) (fun _ h => h.elim) ?aF ?aB ?aS ?aL ?_; (case aR => repeat (first | exact (Kd.C_below HR0.out HB.out) | (with_reducible refine Kd.C_alloc ?_ _) | (with_reducible refine Kd.C_drewN ?_ _) | (with_reducible refine Kd.C_drew ?_))); (case aB => exact (by repeat (first | (with_reducible first | exact HB.out | apply below_alloc | apply pw_below_drewN | apply below_drew1) | exact HB.out))); (case aF => exact (fun _ _ => trivial)); (case aO => exact (by (with_reducible repeat (first | apply Kd.R_alloc | apply Kd.R_drewN | apply Kd.R_drew)); exact HO192.out)); (case aS => exact (below_size (by repeat (first | (with_reducible first | exact HB.out | apply below_alloc | apply pw_below_drewN | apply below_drew1) | exact HB.out)))); (case aL => have := LMc2.out; omega); intro v194 w5 ho hb hg hat; rw [← Ny193.out] at ho; have n0_ := Aside0.mk (hb); have n1_ := Aside0.mk (ho); clear HB; clear HO192; have HB := n0_; have HO195 := n1_; clear n0_ n1_; clear ho hb hg hat))
  go_ret
  exact ⟨_, by first | rfl | (simp [errW_none, errW_some] <;> rfl) | (simp [*, errW_none, errW_some] <;> rfl), by (with_reducible repeat (first | apply Kd.R_alloc | apply Kd.R_drewN | apply Kd.R_drew)); exact HO195.out, by repeat (first | (with_reducible first | exact HB.out | apply below_alloc | apply pw_below_drewN | apply below_drew1) | exact HB.out)⟩
 ·rw [if_neg c2] at H
  exact absurd H (by simp)

end Go.Proofs.Ytbbkclcfmcjlgaa.P

-- PRINTED by print.py (a twelfth state) out of the translation. Not trusted: Lean checks it.

namespace Go.Proofs.Ytbbkclcfmcjlgaa.P
open Go.RowKit Go.Proofs.YtbbkclcfmcjlgaaW.PrintWords Go.Proofs.YtbbkclcfmcjlgaaW.PrintLast Go.Proofs.YtbbkclcfmcjlgaaW.PrintMore
attribute [local go_sem] max2_int min2_int max_two min_two max_three min_three max_four min_four   -- for this text's walks alone
set_option linter.unusedVariables false
set_option linter.unusedSimpArgs false

/-! ### swarfref29_ready: function 41 -/
def swarfref29_ready.l0 : Nat → List (S47) → List Int → Int → Int → Option (Bool)
 | 0, _, _, _, _ => none
 | k + 1, x0, x1, x2, x7 => if x7 < (x0.length : Int) then (if 0 ≤ x7 then (if ((rd_T47 x0 x7).f1) = x2 then ((swarfref29_in.f k x1 ((rd_T47 x0 x7).f0)).bind fun t241 => (if t241 = true then (swarfref29_ready.l0 k x0 x1 x2 (wrap64 (x7 + 1))) else (some false))) else (swarfref29_ready.l0 k x0 x1 x2 (wrap64 (x7 + 1)))) else (none)) else (some true)
def swarfref29_ready.f (k : Nat) (l0 : List (S47)) (l1 : List Int) (a2 : Int) : Option (Bool) := swarfref29_ready.l0 k l0 l1 a2 0
theorem swarfref29_ready.mono_l : ∀ k, (∀ y0 y1 y2 y3, LeO (swarfref29_ready.l0 k y0 y1 y2 y3) (swarfref29_ready.l0 (k + 1) y0 y1 y2 y3))
 | 0 => fun _ _ _ _ r h => by simp [swarfref29_ready.l0] at h
 | k + 1 => by
  have ih0 := swarfref29_ready.mono_l k
  ·intro y0 y1 y2 y3
   unfold swarfref29_ready.l0
   repeat' first
   | (with_reducible exact ih0 _ _ _ _)
   | (with_reducible exact swarfref29_in.mono _ _ _)
   | (with_reducible exact LeO.refl _)
   | (with_reducible exact LeO.none _)
   | (with_reducible refine LeO.ite ?_ ?_)
   | (with_reducible refine LeO.bind ?_ (fun _ => ?_))
   | exact ih0 _ _ _ _
   | exact swarfref29_in.mono _ _ _
   | exact LeO.none _
   | refine LeO.ite ?_ ?_
   | refine LeO.bind ?_ (fun _ => ?_)
theorem swarfref29_ready.mono : ∀ a0 a1 a2 k, LeO (swarfref29_ready.f k a0 a1 a2) (swarfref29_ready.f (k + 1) a0 a1 a2) := by
 intro a0 a1 a2 k
 have ih0 := swarfref29_ready.mono_l k
 unfold swarfref29_ready.f
 repeat' first
   | (with_reducible exact ih0 _ _ _ _)
   | (with_reducible exact swarfref29_in.mono _ _ _)
   | (with_reducible exact LeO.refl _)
   | (with_reducible exact LeO.none _)
   | (with_reducible refine LeO.ite ?_ ?_)
   | (with_reducible refine LeO.bind ?_ (fun _ => ?_))
   | exact ih0 _ _ _ _
   | exact swarfref29_in.mono _ _ _
   | exact LeO.none _
   | refine LeO.ite ?_ ?_
   | refine LeO.bind ?_ (fun _ => ?_)
set_option maxHeartbeats 8000000 in
set_option maxRecDepth 100000 in
theorem swarfref29_ready.calls (k : Nat) (A0 : Option Addr) (c0 : Nat) (l0 : List (S47)) (A1 : Option Addr) (c1 : Nat) (l1 : List Int) (a2 : Int) (r : Bool) (w : World) (hr0 : Kd.C k47 w A0 l0.length l0) (hc0 : l0.length ≤ c0) (hr1 : Kd.C (Kd.int .i64) w A1 l1.length l1) (hc1 : l1.length ≤ c1) (h : swarfref29_ready.f k l0 l1 a2 = some r) :
  Calls Try.prog 41 #[.slice A0 l0.length c0, .slice A1 l1.length c1, .int .i64 a2] w fun e w' => e = .returned (.bool r) ∧ Drawn0 w w' := by
 have HR0 := Aside0.mk hr0
 have HC0 := Aside0.mk hc0
 clear hr0 hc0
 have HR1 := Aside0.mk hr1
 have HC1 := Aside0.mk hc1
 clear hr1 hc1
 have H : (swarfref29_ready.l0 k l0 l1 a2 0) = some r := h
 clear h
 have H' := Aside0.mk H
 clear H
 go_enter Try.func41, Try.ntmps41
 go_wp2
 go_loopg [7] k (fun kq v7 w' => ∃ (x7_1 : Int), v7 = .int .i64 x7_1 ∧ Aside0 (swarfref29_ready.l0 kq l0 l1 a2 x7_1 = some r) ∧ Aside0 (kq ≤ k) ∧ Drawn0 w w')
 case atStart => exact ⟨(0), (by first | rfl | (simp; done) | (simp [*]; done)), H', ⟨Nat.le_refl _⟩, by repeat (first | exact Drawn0.refl _ | apply Drawn0.step)⟩
 case round =>
  clear H'; try clear c1; try clear p2
  obtain ⟨x7_1, rfl, HA, HK1, ⟨m1, rfl⟩⟩ := hrel
  cases gk with
  | zero => exact absurd HA.out (by simp [swarfref29_ready.l0])
  | succ k1 =>
   have H := HA.out
   clear HA
   simp only [swarfref29_ready.l0] at H
   by_cases c4 : x7_1 < (l0.length : Int)
   ·rw [if_pos c4] at H
    have c4b0 : decide (x7_1 < (l0.length : Int)) = true := decide_eq_true c4
    clear c4
    by_cases c5 : 0 ≤ x7_1
    ·rw [if_pos c5] at H
     have c5b0 : decide (0 ≤ x7_1) = true := decide_eq_true c5
     clear c5
     by_cases c6 : ((rd_T47 l0 x7_1).f1) = a2
     ·rw [if_pos c6] at H
      have c6b0 : (((rd_T47 l0 x7_1).f1) == a2) = true := beq_iff_eq.mpr c6
      have c6b1 : (((rd_T47 l0 x7_1).f1) != a2) = false := bne_eq_false_iff_eq.mpr c6
      clear c6; replace H := Option.bind_eq_some_iff.mp H
      obtain ⟨t241, A70, H⟩ := H
      replace H : (if t241 = true then (swarfref29_ready.l0 k1 l0 l1 a2 (wrap64 (x7_1 + 1))) else (some false)) = some r := H
      have A7 := Aside0.mk A70; clear A70
      by_cases c8 : t241 = true
      ·subst c8
       have H1 : (swarfref29_ready.l0 k1 l0 l1 a2 (wrap64 (x7_1 + 1))) = some r := by rw [if_pos rfl] at H; exact H
       clear H; have H := H1; clear H1; have H' := Aside0.mk H; clear H
       have p239 : 0 ≤ (x7_1 : Int) := of_decide_eq_true (by first | (with_reducible assumption) | assumption)
       have q239 : x7_1 < (l0.length : Int) := of_decide_eq_true (by first | (with_reducible assumption) | assumption)
       obtain ⟨ad239, e239, hx239_0, hx239_1⟩ := at_T47 HR0.out x7_1 p239 q239
       cases e239; replace p239 := eq_true p239; replace q239 := eq_true q239
       have p240 : 0 ≤ (x7_1 : Int) := of_decide_eq_true (by first | (with_reducible assumption) | assumption)
       have q240 : x7_1 < (l0.length : Int) := of_decide_eq_true (by first | (with_reducible assumption) | assumption)
       obtain ⟨ad240, e240, hx240_0, hx240_1⟩ := at_T47 HR0.out x7_1 p240 q240
       obtain rfl : ad239 = ad240 := (by injection e240)
       replace p240 := eq_true p240; replace q240 := eq_true q240
       go_wp2_with (first | (go_at_call 40; (with_reducible refine (swarfref29_in.calls k1 _ _ l1 ((rd_T47 l0 x7_1).f0) true _ ?side1 ?side2 A7.out).mono ?_); (case side1 => repeat (first | exact HR1.out | (with_reducible refine Kd.C_alloc ?_ _) | (with_reducible refine Kd.C_drewN ?_ _) | (with_reducible refine Kd.C_drew ?_))); (case side2 => exact HC1.out); rintro e w' ⟨rfl, ⟨nd, rfl⟩⟩))
       go_roundg k1
       case measure => have := HK1.out; omega
       case rel => exact ⟨(wrap64 (x7_1 + 1)), (by first | rfl | (simp; done) | (simp [*]; done)), H', ⟨by have := HK1.out; omega⟩, by repeat (first | exact Drawn0.refl _ | apply Drawn0.step)⟩
      ·replace c8 := Bool.eq_false_iff.mpr c8
       subst c8
       have H1 : (some false) = some r := by rw [if_neg (show ¬ (false = true) by decide)] at H; exact H
       clear H; have H := H1; clear H1; obtain rfl := Option.some.inj H
       have p239 : 0 ≤ (x7_1 : Int) := of_decide_eq_true (by first | (with_reducible assumption) | assumption)
       have q239 : x7_1 < (l0.length : Int) := of_decide_eq_true (by first | (with_reducible assumption) | assumption)
       obtain ⟨ad239, e239, hx239_0, hx239_1⟩ := at_T47 HR0.out x7_1 p239 q239
       cases e239; replace p239 := eq_true p239; replace q239 := eq_true q239
       have p240 : 0 ≤ (x7_1 : Int) := of_decide_eq_true (by first | (with_reducible assumption) | assumption)
       have q240 : x7_1 < (l0.length : Int) := of_decide_eq_true (by first | (with_reducible assumption) | assumption)
       obtain ⟨ad240, e240, hx240_0, hx240_1⟩ := at_T47 HR0.out x7_1 p240 q240
       obtain rfl : ad239 = ad240 := (by injection e240)
       replace p240 := eq_true p240; replace q240 := eq_true q240
       go_wp2_with (first | (go_at_call 40; (with_reducible refine (swarfref29_in.calls k1 _ _ l1 ((rd_T47 l0 x7_1).f0) false _ ?side1 ?side2 A7.out).mono ?_); (case side1 => repeat (first | exact HR1.out | (with_reducible refine Kd.C_alloc ?_ _) | (with_reducible refine Kd.C_drewN ?_ _) | (with_reducible refine Kd.C_drew ?_))); (case side2 => exact HC1.out); rintro e w' ⟨rfl, ⟨nd, rfl⟩⟩))
       go_ret
       exact ⟨by first | rfl | (simp; done) | (simp [*]; done), by repeat (first | exact Drawn0.refl _ | apply Drawn0.step)⟩
     ·rw [if_neg c6] at H
      have c6b0 : (((rd_T47 l0 x7_1).f1) == a2) = false := beq_eq_false_iff_ne.mpr c6
      have c6b1 : (((rd_T47 l0 x7_1).f1) != a2) = true := bne_iff_ne.mpr c6
      have H' := Aside0.mk H; clear H
      have p239 : 0 ≤ (x7_1 : Int) := of_decide_eq_true (by first | (with_reducible assumption) | assumption)
      have q239 : x7_1 < (l0.length : Int) := of_decide_eq_true (by first | (with_reducible assumption) | assumption)
      obtain ⟨ad239, e239, hx239_0, hx239_1⟩ := at_T47 HR0.out x7_1 p239 q239
      cases e239; replace p239 := eq_true p239; replace q239 := eq_true q239; go_wp2
      go_roundg k1
      case measure => have := HK1.out; omega
      case rel => exact ⟨(wrap64 (x7_1 + 1)), (by first | rfl | (simp; done) | (simp [*]; done)), H', ⟨by have := HK1.out; omega⟩, by repeat (first | exact Drawn0.refl _ | apply Drawn0.step)⟩
    ·rw [if_neg c5] at H
     exact absurd H (by simp)
   ·rw [if_neg c4] at H
    have c4b0 : decide (x7_1 < (l0.length : Int)) = false := decide_eq_false c4
    clear c4; obtain rfl := Option.some.inj H; go_wp2; go_ret
    exact ⟨by first | rfl | (simp; done) | (simp [*]; done), by repeat (first | exact Drawn0.refl _ | apply Drawn0.step)⟩

end Go.Proofs.Ytbbkclcfmcjlgaa.P
