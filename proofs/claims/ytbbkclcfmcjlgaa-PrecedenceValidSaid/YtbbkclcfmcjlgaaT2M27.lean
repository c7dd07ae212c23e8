import Derived.Test.YtbbkclcfmcjlgaaT2M21
import Derived.Test.YtbbkclcfmcjlgaaT2M26
import Derived.Test.YtbbkclcfmcjlgaaT2M23

namespace Go.Proofs.Ytbbkclcfmcjlgaa.P
open Go.RowKit Go.Proofs.YtbbkclcfmcjlgaaW.PrintWords Go.Proofs.YtbbkclcfmcjlgaaW.PrintLast Go.Proofs.YtbbkclcfmcjlgaaW.PrintMore
attribute [local go_sem] max2_int min2_int max_two min_two max_three min_three max_four min_four
set_option linter.unusedVariables false
set_option linter.unusedSimpArgs false

mutual
def swarfref29_Valid.j0 : Nat → Int → List (S47) → Bool → Option (Int)
 | 0, _, _, _ => none
 | k + 1, x0, x1, x14 => if x14 = true then (some 3) else (if x0 < 0 then (some 1) else (swarfref29_Valid.l0 k x0 x1 0))
def swarfref29_Valid.l0 : Nat → Int → List (S47) → Int → Option (Int)
 | 0, _, _, _ => none
 | k + 1, x0, x1, x5 => if x5 < (x1.length : Int) then (if 0 ≤ x5 then (if ((rd_T47 x1 x5).f0) < 0 then (some 1) else (if ((rd_T47 x1 x5).f0) ≥ x0 then (some 1) else (if ((rd_T47 x1 x5).f1) < 0 then (some 1) else (if ((rd_T47 x1 x5).f1) ≥ x0 then (some 1) else (if ((rd_T47 x1 x5).f0) = ((rd_T47 x1 x5).f1) then (some 1) else (swarfref29_Valid.l0 k x0 x1 (wrap64 (x5 + 1)))))))) else (none)) else (some 0)
end
def swarfref29_Valid.f (k : Nat) (a0 : Int) (l1 : List (S47)) : Option (Int) := if a0 > 200 then (swarfref29_Valid.j0 k a0 l1 true) else (swarfref29_Valid.j0 k a0 l1 (decide ((l1.length : Int) > 2000)))
theorem swarfref29_Valid.mono_l : ∀ k, (∀ y0 y1 y2, LeO (swarfref29_Valid.j0 k y0 y1 y2) (swarfref29_Valid.j0 (k + 1) y0 y1 y2)) ∧ (∀ y0 y1 y2, LeO (swarfref29_Valid.l0 k y0 y1 y2) (swarfref29_Valid.l0 (k + 1) y0 y1 y2))
 | 0 => ⟨fun _ _ _ r h => by simp [swarfref29_Valid.j0] at h, fun _ _ _ r h => by simp [swarfref29_Valid.l0] at h⟩
 | k + 1 => by
  obtain ⟨ih0, ih1⟩ := swarfref29_Valid.mono_l k
  refine ⟨?_, ?_⟩
  ·intro y0 y1 y2
   unfold swarfref29_Valid.j0
   repeat' first
   | (with_reducible exact ih0 _ _ _)
   | (with_reducible exact ih1 _ _ _)
   | (with_reducible exact LeO.refl _)
   | (with_reducible exact LeO.none _)
   | (with_reducible refine LeO.ite ?_ ?_)
   | (with_reducible refine LeO.bind ?_ (fun _ => ?_))
   | exact ih0 _ _ _
   | exact ih1 _ _ _
   | exact LeO.none _
   | refine LeO.ite ?_ ?_
   | refine LeO.bind ?_ (fun _ => ?_)
  ·intro y0 y1 y2
   unfold swarfref29_Valid.l0
   repeat' first
   | (with_reducible exact ih0 _ _ _)
   | (with_reducible exact ih1 _ _ _)
   | (with_reducible exact LeO.refl _)
   | (with_reducible exact LeO.none _)
   | (with_reducible refine LeO.ite ?_ ?_)
   | (with_reducible refine LeO.bind ?_ (fun _ => ?_))
   | exact ih0 _ _ _
   | exact ih1 _ _ _
   | exact LeO.none _
   | refine LeO.ite ?_ ?_
   | refine LeO.bind ?_ (fun _ => ?_)
theorem swarfref29_Valid.mono : ∀ a0 a1 k, LeO (swarfref29_Valid.f k a0 a1) (swarfref29_Valid.f (k + 1) a0 a1) := by
 intro a0 a1 k
 obtain ⟨ih0, ih1⟩ := swarfref29_Valid.mono_l k
 unfold swarfref29_Valid.f
 repeat' first
   | (with_reducible exact ih0 _ _ _)
   | (with_reducible exact ih1 _ _ _)
   | (with_reducible exact LeO.refl _)
   | (with_reducible exact LeO.none _)
   | (with_reducible refine LeO.ite ?_ ?_)
   | (with_reducible refine LeO.bind ?_ (fun _ => ?_))
   | exact ih0 _ _ _
   | exact ih1 _ _ _
   | exact LeO.none _
   | refine LeO.ite ?_ ?_
   | refine LeO.bind ?_ (fun _ => ?_)
set_option maxHeartbeats 8000000 in
set_option maxRecDepth 100000 in
theorem swarfref29_Valid.calls (k : Nat) (a0 : Int) (A1 : Option Addr) (c1 : Nat) (l1 : List (S47)) (r : Int) (w : World) (hr1 : Kd.C k47 w A1 l1.length l1) (hc1 : l1.length ≤ c1) (h : swarfref29_Valid.f k a0 l1 = some r) :
  Calls Try.prog 21 #[.int .i64 a0, .slice A1 l1.length c1] w fun e w' => e = .returned (.int .i64 r) ∧ Drawn0 w w' := by
 have HR1 := aK hr1
 have HC1 := aK hc1
 clear hr1 hc1
 have H : (if a0 > 200 then (swarfref29_Valid.j0 k a0 l1 true) else (swarfref29_Valid.j0 k a0 l1 (decide ((l1.length : Int) > 2000)))) = some r := h
 clear h
 have HC3 := aK H
 clear H
 go_enter Try.func21, Try.ntmps21
 go_upto_region 1 with (fail)
 repeat (go_quiet (fail); go_upto_region 1 with (fail))
 go_cut [14] (fun v14 wc => ∃ (kq : Nat) (x14_2 : Bool), v14 = .bool x14_2 ∧ Aside0 (swarfref29_Valid.j0 kq a0 l1 x14_2 = some r) ∧ Aside0 (kq ≤ k) ∧ Drawn0 w wc)
 case first =>
  have H := HC3.out
  clear HC3
  by_cases c4 : a0 > 200
  ·rw [if_pos c4] at H
   have c4b0 : decide (200 < a0) = true := decide_eq_true c4
   clear c4
   (first | rw [c4b0] | (simp only [i64_w, i32_w]; rw [c4b0]) | skip)
   have H' := aK H; clear H; go_wp2
   repeat (go_quiet (fail); try go_wp2)
   go_meet
   case rel => exact ⟨_, (true), (by first | rfl | (simp; done) | (simp [*]; done)), H', ⟨by first | omega | exact Nat.le_refl _⟩, by repeat (first | exact Drawn0.refl _ | apply Drawn0.step)⟩
  ·rw [if_neg c4] at H
   have c4b0 : decide (200 < a0) = false := decide_eq_false c4
   clear c4
   (first | rw [c4b0] | (simp only [i64_w, i32_w]; rw [c4b0]) | skip)
   have H' := aK H; clear H; go_wp2
   repeat (go_quiet (fail); try go_wp2)
   go_meet
   case rel => exact ⟨_, (decide ((l1.length : Int) > 2000)), (by first | rfl | (simp; done) | (simp [*]; done)), H', ⟨by first | omega | exact Nat.le_refl _⟩, by repeat (first | exact Drawn0.refl _ | apply Drawn0.step)⟩
 case rest =>
  clear HC3; try clear c1; try clear c2; try clear p2; try clear c4; try clear c4b0
  obtain ⟨kq, x14_2, rfl, HA, HJ2, ⟨mc2, rfl⟩⟩ := hcut
  cases kq with
  | zero => exact absurd HA.out (by simp [swarfref29_Valid.j0])
  | succ kj2 =>
   have H := HA.out
   clear HA
   simp only [swarfref29_Valid.j0] at H
   by_cases c5 : x14_2 = true
   ·subst c5
    have H1 : (some 3) = some r := by rw [if_pos rfl] at H; exact H
    clear H; have H := H1; clear H1; obtain rfl := Option.some.inj H; go_wp2
    repeat (go_quiet (fail); try go_wp2)
    go_ret
    exact ⟨by first | rfl | (simp; done) | (simp [*]; done), by repeat (first | exact Drawn0.refl _ | apply Drawn0.step)⟩
   ·replace c5 := Bool.eq_false_iff.mpr c5
    subst c5
    have H1 : (if a0 < 0 then (some 1) else (swarfref29_Valid.l0 kj2 a0 l1 0)) = some r := by rw [if_neg (show ¬ (false = true) by decide)] at H; exact H
    clear H; have H := H1; clear H1
    by_cases c6 : a0 < 0
    ·rw [if_pos c6] at H
     have c6b0 : decide (a0 < 0) = true := decide_eq_true c6
     clear c6; obtain rfl := Option.some.inj H; go_wp2
     repeat (go_quiet (fail); try go_wp2)
     go_ret
     exact ⟨by first | rfl | (simp; done) | (simp [*]; done), by repeat (first | exact Drawn0.refl _ | apply Drawn0.step)⟩
    ·rw [if_neg c6] at H
     have c6b0 : decide (a0 < 0) = false := decide_eq_false c6
     clear c6; have H' := aK H; clear H; go_wp2
     repeat (go_quiet (fail); try go_wp2)
     go_loopg [5] kj2 (fun kq v5 w' => ∃ (x5_2 : Int), v5 = .int .i64 x5_2 ∧ Aside0 (swarfref29_Valid.l0 kq a0 l1 x5_2 = some r) ∧ Aside0 (kq ≤ kj2) ∧ Drawn0 w w')
     case atStart => exact ⟨(0), (by first | rfl | (simp; done) | (simp [*]; done)), H', ⟨Nat.le_refl _⟩, by repeat (first | exact Drawn0.refl _ | apply Drawn0.step)⟩
     case round =>
      clear H'; try clear c1; try clear c2; try clear p2; try clear c4; try clear c4b0; try clear c5; try clear c6; try clear c6b0; try clear p2
      obtain ⟨x5_2, rfl, HA, HK2, ⟨m2, rfl⟩⟩ := hrel
      cases gk with
      | zero => exact absurd HA.out (by simp [swarfref29_Valid.l0])
      | succ k2 =>
       have H := HA.out
       clear HA
       simp only [swarfref29_Valid.l0] at H
       by_cases c7 : x5_2 < (l1.length : Int)
       ·rw [if_pos c7] at H
        have c7b0 : decide (x5_2 < (l1.length : Int)) = true := decide_eq_true c7
        clear c7
        by_cases c8 : 0 ≤ x5_2
        ·rw [if_pos c8] at H
         have c8b0 : decide (0 ≤ x5_2) = true := decide_eq_true c8
         clear c8
         by_cases c9 : ((rd_T47 l1 x5_2).f0) < 0
         ·rw [if_pos c9] at H
          have c9b0 : decide (((rd_T47 l1 x5_2).f0) < 0) = true := decide_eq_true c9
          clear c9; obtain rfl := Option.some.inj H
          have p187 : 0 ≤ (x5_2 : Int) := of_decide_eq_true (by first | (with_reducible assumption) | assumption)
          have q187 : x5_2 < (l1.length : Int) := of_decide_eq_true (by first | (with_reducible assumption) | assumption)
          obtain ⟨ad187, e187, hx187_0, hx187_1⟩ := at_T47 HR1.out x5_2 p187 q187
          cases e187; replace p187 := eq_true p187; replace q187 := eq_true q187
          have p188 : 0 ≤ (x5_2 : Int) := of_decide_eq_true (by first | (with_reducible assumption) | assumption)
          have q188 : x5_2 < (l1.length : Int) := of_decide_eq_true (by first | (with_reducible assumption) | assumption)
          obtain ⟨ad188, e188, hx188_0, hx188_1⟩ := at_T47 HR1.out x5_2 p188 q188
          obtain rfl : ad187 = ad188 := (by injection e188)
          replace p188 := eq_true p188; replace q188 := eq_true q188; go_wp2
          repeat (go_quiet (fail); try go_wp2)
          go_ret
          exact ⟨by first | rfl | (simp; done) | (simp [*]; done), by repeat (first | exact Drawn0.refl _ | apply Drawn0.step)⟩
         ·rw [if_neg c9] at H
          have c9b0 : decide (((rd_T47 l1 x5_2).f0) < 0) = false := decide_eq_false c9
          clear c9
          by_cases c10 : ((rd_T47 l1 x5_2).f0) ≥ a0
          ·rw [if_pos c10] at H
           have c10b0 : decide (a0 ≤ ((rd_T47 l1 x5_2).f0)) = true := decide_eq_true c10
           clear c10; obtain rfl := Option.some.inj H
           have p187 : 0 ≤ (x5_2 : Int) := of_decide_eq_true (by first | (with_reducible assumption) | assumption)
           have q187 : x5_2 < (l1.length : Int) := of_decide_eq_true (by first | (with_reducible assumption) | assumption)
           obtain ⟨ad187, e187, hx187_0, hx187_1⟩ := at_T47 HR1.out x5_2 p187 q187
           cases e187; replace p187 := eq_true p187; replace q187 := eq_true q187
           have p188 : 0 ≤ (x5_2 : Int) := of_decide_eq_true (by first | (with_reducible assumption) | assumption)
           have q188 : x5_2 < (l1.length : Int) := of_decide_eq_true (by first | (with_reducible assumption) | assumption)
           obtain ⟨ad188, e188, hx188_0, hx188_1⟩ := at_T47 HR1.out x5_2 p188 q188
           obtain rfl : ad187 = ad188 := (by injection e188)
           replace p188 := eq_true p188; replace q188 := eq_true q188; go_wp2
           repeat (go_quiet (fail); try go_wp2)
           go_ret
           exact ⟨by first | rfl | (simp; done) | (simp [*]; done), by repeat (first | exact Drawn0.refl _ | apply Drawn0.step)⟩
          ·rw [if_neg c10] at H
           have c10b0 : decide (a0 ≤ ((rd_T47 l1 x5_2).f0)) = false := decide_eq_false c10
           clear c10
           by_cases c11 : ((rd_T47 l1 x5_2).f1) < 0
           ·rw [if_pos c11] at H
            have c11b0 : decide (((rd_T47 l1 x5_2).f1) < 0) = true := decide_eq_true c11
            clear c11; obtain rfl := Option.some.inj H
            have p187 : 0 ≤ (x5_2 : Int) := of_decide_eq_true (by first | (with_reducible assumption) | assumption)
            have q187 : x5_2 < (l1.length : Int) := of_decide_eq_true (by first | (with_reducible assumption) | assumption)
            obtain ⟨ad187, e187, hx187_0, hx187_1⟩ := at_T47 HR1.out x5_2 p187 q187
            cases e187; replace p187 := eq_true p187; replace q187 := eq_true q187
            have p188 : 0 ≤ (x5_2 : Int) := of_decide_eq_true (by first | (with_reducible assumption) | assumption)
            have q188 : x5_2 < (l1.length : Int) := of_decide_eq_true (by first | (with_reducible assumption) | assumption)
            obtain ⟨ad188, e188, hx188_0, hx188_1⟩ := at_T47 HR1.out x5_2 p188 q188
            obtain rfl : ad187 = ad188 := (by injection e188)
            replace p188 := eq_true p188; replace q188 := eq_true q188; go_wp2
            repeat (go_quiet (fail); try go_wp2)
            go_ret
            exact ⟨by first | rfl | (simp; done) | (simp [*]; done), by repeat (first | exact Drawn0.refl _ | apply Drawn0.step)⟩
           ·rw [if_neg c11] at H
            have c11b0 : decide (((rd_T47 l1 x5_2).f1) < 0) = false := decide_eq_false c11
            clear c11
            by_cases c12 : ((rd_T47 l1 x5_2).f1) ≥ a0
            ·rw [if_pos c12] at H
             have c12b0 : decide (a0 ≤ ((rd_T47 l1 x5_2).f1)) = true := decide_eq_true c12
             clear c12; obtain rfl := Option.some.inj H
             have p187 : 0 ≤ (x5_2 : Int) := of_decide_eq_true (by first | (with_reducible assumption) | assumption)
             have q187 : x5_2 < (l1.length : Int) := of_decide_eq_true (by first | (with_reducible assumption) | assumption)
             obtain ⟨ad187, e187, hx187_0, hx187_1⟩ := at_T47 HR1.out x5_2 p187 q187
             cases e187; replace p187 := eq_true p187; replace q187 := eq_true q187
             have p188 : 0 ≤ (x5_2 : Int) := of_decide_eq_true (by first | (with_reducible assumption) | assumption)
             have q188 : x5_2 < (l1.length : Int) := of_decide_eq_true (by first | (with_reducible assumption) | assumption)
             obtain ⟨ad188, e188, hx188_0, hx188_1⟩ := at_T47 HR1.out x5_2 p188 q188
             obtain rfl : ad187 = ad188 := (by injection e188)
             replace p188 := eq_true p188; replace q188 := eq_true q188; go_wp2
             repeat (go_quiet (fail); try go_wp2)
             go_ret
             exact ⟨by first | rfl | (simp; done) | (simp [*]; done), by repeat (first | exact Drawn0.refl _ | apply Drawn0.step)⟩
            ·rw [if_neg c12] at H
             have c12b0 : decide (a0 ≤ ((rd_T47 l1 x5_2).f1)) = false := decide_eq_false c12
             clear c12
             by_cases c13 : ((rd_T47 l1 x5_2).f0) = ((rd_T47 l1 x5_2).f1)
             ·rw [if_pos c13] at H
              have c13b0 : (((rd_T47 l1 x5_2).f0) == ((rd_T47 l1 x5_2).f1)) = true := beq_iff_eq.mpr c13
              have c13b1 : (((rd_T47 l1 x5_2).f0) != ((rd_T47 l1 x5_2).f1)) = false := bne_eq_false_iff_eq.mpr c13
              clear c13; obtain rfl := Option.some.inj H
              have p187 : 0 ≤ (x5_2 : Int) := of_decide_eq_true (by first | (with_reducible assumption) | assumption)
              have q187 : x5_2 < (l1.length : Int) := of_decide_eq_true (by first | (with_reducible assumption) | assumption)
              obtain ⟨ad187, e187, hx187_0, hx187_1⟩ := at_T47 HR1.out x5_2 p187 q187
              cases e187; replace p187 := eq_true p187; replace q187 := eq_true q187
              have p188 : 0 ≤ (x5_2 : Int) := of_decide_eq_true (by first | (with_reducible assumption) | assumption)
              have q188 : x5_2 < (l1.length : Int) := of_decide_eq_true (by first | (with_reducible assumption) | assumption)
              obtain ⟨ad188, e188, hx188_0, hx188_1⟩ := at_T47 HR1.out x5_2 p188 q188
              obtain rfl : ad187 = ad188 := (by injection e188)
              replace p188 := eq_true p188; replace q188 := eq_true q188; go_wp2
              repeat (go_quiet (fail); try go_wp2)
              go_ret
              exact ⟨by first | rfl | (simp; done) | (simp [*]; done), by repeat (first | exact Drawn0.refl _ | apply Drawn0.step)⟩
             ·rw [if_neg c13] at H
              have c13b0 : (((rd_T47 l1 x5_2).f0) == ((rd_T47 l1 x5_2).f1)) = false := beq_eq_false_iff_ne.mpr c13
              have c13b1 : (((rd_T47 l1 x5_2).f0) != ((rd_T47 l1 x5_2).f1)) = true := bne_iff_ne.mpr c13
              have H' := aK H; clear H
              have p187 : 0 ≤ (x5_2 : Int) := of_decide_eq_true (by first | (with_reducible assumption) | assumption)
              have q187 : x5_2 < (l1.length : Int) := of_decide_eq_true (by first | (with_reducible assumption) | assumption)
              obtain ⟨ad187, e187, hx187_0, hx187_1⟩ := at_T47 HR1.out x5_2 p187 q187
              cases e187; replace p187 := eq_true p187; replace q187 := eq_true q187
              have p188 : 0 ≤ (x5_2 : Int) := of_decide_eq_true (by first | (with_reducible assumption) | assumption)
              have q188 : x5_2 < (l1.length : Int) := of_decide_eq_true (by first | (with_reducible assumption) | assumption)
              obtain ⟨ad188, e188, hx188_0, hx188_1⟩ := at_T47 HR1.out x5_2 p188 q188
              obtain rfl : ad187 = ad188 := (by injection e188)
              replace p188 := eq_true p188; replace q188 := eq_true q188; go_wp2
              repeat (go_quiet (fail); try go_wp2)
              go_roundg k2
              case measure => have := HJ2.out; have := HK2.out; omega
              case rel => exact ⟨(wrap64 (x5_2 + 1)), (by first | rfl | (simp; done) | (simp [*]; done)), H', ⟨by have := HJ2.out; have := HK2.out; omega⟩, by repeat (first | exact Drawn0.refl _ | apply Drawn0.step)⟩
        ·rw [if_neg c8] at H
         exact absurd H (by simp)
       ·rw [if_neg c7] at H
        have c7b0 : decide (x5_2 < (l1.length : Int)) = false := decide_eq_false c7
        clear c7; obtain rfl := Option.some.inj H; go_wp2
        repeat (go_quiet (fail); try go_wp2)
        go_ret
        exact ⟨by first | rfl | (simp; done) | (simp [*]; done), by repeat (first | exact Drawn0.refl _ | apply Drawn0.step)⟩

end Go.Proofs.Ytbbkclcfmcjlgaa.P


namespace Go.Proofs.Ytbbkclcfmcjlgaa.P
open Go.RowKit Go.Proofs.YtbbkclcfmcjlgaaW.PrintWords Go.Proofs.YtbbkclcfmcjlgaaW.PrintLast Go.Proofs.YtbbkclcfmcjlgaaW.PrintMore
attribute [local go_sem] max2_int min2_int max_two min_two max_three min_three max_four min_four
set_option linter.unusedVariables false
set_option linter.unusedSimpArgs false

def swarflaw29_cp.f (l0 : List (S47)) : Option ((List (S47))) := (some (([] : List (S47)) : List (S47))).bind fun y190 => (if y190.length + l0.length < 8796093022208 then (some (y190 ++ l0)) else (none))
set_option maxHeartbeats 8000000 in
set_option maxRecDepth 100000 in
theorem swarflaw29_cp.calls (A0 : Option Addr) (c0 : Nat) (l0 : List (S47)) (r : List (S47)) (w : World) (hr0 : Kd.C k47 w A0 l0.length l0) (hc0 : l0.length ≤ c0) (h : swarflaw29_cp.f l0 = some r) :
  Calls Try.prog 15 #[.slice A0 l0.length c0] w fun e w' => ∃ v0_ : Value, e = .returned (v0_) ∧ Kd.R k47 47 w' w.heap.size (fun _ => True) v0_ r ∧ Below w.heap.size w w' := by
 have HR0 := aK hr0
 have HC0 := aK hc0
 clear hr0 hc0
 have HB := aK (Below.refl w.heap.size w)
 have H : ((some (([] : List (S47)) : List (S47))).bind fun y190 => (if y190.length + l0.length < 8796093022208 then (some (y190 ++ l0)) else (none))) = some r := h
 clear h
 obtain ⟨y190, hy190⟩ : ∃ y_ : List (S47), y_ = (([] : List (S47))) := ⟨_, rfl⟩
 replace H : (if y190.length + l0.length < 8796093022208 then (some (y190 ++ l0)) else (none)) = some r := by first | (rw [hy190]; with_reducible exact H) | (have H2_ := (Option.bind_some _ _).symm.trans H; rw [hy190]; with_reducible exact H2_) | (have H2_ := (Option.bind_some _ _).symm.trans H; with_reducible exact H2_) | with_reducible exact H | (rw [hy190]; exact H) | exact H
 have Ny190 := aK hy190
 clear hy190
 by_cases c2 : y190.length + l0.length < 8796093022208
 ·rw [if_pos c2] at H; have LMc2 := aK c2; clear c2
  obtain ⟨y193, hy193⟩ : ∃ y_ : List (S47), y_ = (y190 ++ l0) := ⟨_, rfl⟩
  replace H : (some y193) = some r := by first | (rw [hy193]; with_reducible exact H) | (have H2_ := (Option.bind_some _ _).symm.trans H; rw [hy193]; with_reducible exact H2_) | (have H2_ := (Option.bind_some _ _).symm.trans H; with_reducible exact H2_) | with_reducible exact H | (rw [hy193]; exact H) | exact H
  have Ny193 := aK hy193; clear hy193; obtain rfl := Option.some.inj H
  go_enter Try.func15, Try.ntmps15
  go_wp2_with (first | ((with_reducible refine gate_dst (N := 3) rfl ?_); refine Kd.R_lit k47 _ 47 ?hg (N := 3) ?hd (xs := ([] : List (S47))) (inner := []) (ok := fun _ => True) (okp := fun _ => True) ?hr ?hp (fun _ hk => hk) trivial (Below.refl _ _) (Nat.le_refl _) (by simp) ?_; (case hd => rfl); (case hg => rfl); (case hr => first | (go_simp; done) | (go_simp; rfl)); (case hp => exact (Reps.none _ _)); intro v191 w3 ho4 hb hg_ hnew_; clear hg_ hnew_; (first | rw [← Ny190.out] at ho4 | (simp only [Int.reduceToNat] at ho4; rw [← Ny190.out] at ho4)); have n0_ := aK (Kd.R_lower ho4 (bZ_ (by repeat (first | (with_reducible first | exact HB.out | apply bA_ | apply bN_ | apply bD_) | exact HB.out)))); have n1_ := aK (bT_ (by repeat (first | (with_reducible first | exact HB.out | apply bA_ | apply bN_ | apply bD_) | exact HB.out)) hb); clear HB; have HO192 := n0_; have HB := n1_; clear n0_ n1_; clear hb ho4) | ((with_reducible refine gate_builtin (b := .append) (xs := #[.tmp 3, .tmp 4]) rfl ?_); at_builtin; refine Kd.R_append_rows k47 (w0 := w) w.heap.size rfl (.tmp 3) (.tmp 4) 22 47 (.agg #[(.int .i64 0), (.int .i64 0)]) 16 rfl Try.underlying22 info47 rfl (by decide) (by omega) v191 y190 l0 _ _ _ (fun _ => True) (fun _ => False) rfl rfl ?aO ?aR (fun _ _ h => h) (fun _ h => h.elim) ?aF ?aB ?aS ?aL ?_; (case aR => repeat (first | exact (Kd.C_below HR0.out HB.out) | (with_reducible refine Kd.C_alloc ?_ _) | (with_reducible refine Kd.C_drewN ?_ _) | (with_reducible refine Kd.C_drew ?_))); (case aB => exact (by repeat (first | (with_reducible first | exact HB.out | apply bA_ | apply bN_ | apply bD_) | exact HB.out))); (case aF => exact (fun _ _ => trivial)); (case aO => exact (by (with_reducible repeat (first | apply Kd.R_alloc | apply Kd.R_drewN | apply Kd.R_drew)); exact HO192.out)); (case aS => exact (bZ_ (by repeat (first | (with_reducible first | exact HB.out | apply bA_ | apply bN_ | apply bD_) | exact HB.out)))); (case aL => have := LMc2.out; omega); intro v194 w5 ho hb hg hat; rw [← Ny193.out] at ho; have n0_ := aK (hb); have n1_ := aK (ho); clear HB; clear HO192; have HB := n0_; have HO195 := n1_; clear n0_ n1_; clear ho hb hg hat))
  go_ret
  exact ⟨_, by first | rfl | (simp [errW_none, errW_some] <;> rfl) | (simp [*, errW_none, errW_some] <;> rfl), by (with_reducible repeat (first | apply Kd.R_alloc | apply Kd.R_drewN | apply Kd.R_drew)); exact HO195.out, by repeat (first | (with_reducible first | exact HB.out | apply bA_ | apply bN_ | apply bD_) | exact HB.out)⟩
 ·rw [if_neg c2] at H
  exact absurd H (by simp)

end Go.Proofs.Ytbbkclcfmcjlgaa.P



namespace Go.Proofs.Ytbbkclcfmcjlgaa.P
open Go.RowKit Go.Proofs.YtbbkclcfmcjlgaaW.PrintWords Go.Proofs.YtbbkclcfmcjlgaaW.PrintLast Go.Proofs.YtbbkclcfmcjlgaaW.PrintMore
attribute [local go_sem] max2_int min2_int max_two min_two max_three min_three max_four min_four
set_option linter.unusedVariables false
set_option linter.unusedSimpArgs false

mutual
def swarflaw29_PrecedenceValid.j0 : Nat → Int → List (S47) → Int → Bool → Option (Bool)
 | 0, _, _, _, _ => none
 | k + 1, x0, x1, x2, x18 => if x18 = true then ((swarflaw29_awake.f k).bind fun t266 => (some t266)) else ((swarflaw29_cp.f x1).bind fun t267 => (swarflaw29_PrecedenceValid.l0 k x0 x1 t267 x2 0))
def swarflaw29_PrecedenceValid.l0 : Nat → Int → List (S47) → List (S47) → Int → Int → Option (Bool)
 | 0, _, _, _, _, _ => none
 | k + 1, x0, x1, x7, x22, x23 => if x23 < x22 then (if x7.length + x1.length < 8796093022208 then (swarflaw29_PrecedenceValid.l0 k x0 x1 (x7 ++ x1) x22 (IntKind.u16.wrap (x23 + 1))) else (none)) else ((swarflaw29_cp.f x7).bind fun t273 => ((precedence_Valid.f k x0 t273).bind fun t276 => ((swarfref29_Valid.f k x0 x7).bind fun t277 => (some (t276 == t277)))))
end
def swarflaw29_PrecedenceValid.f (k : Nat) (a0 : Int) (l1 : List (S47)) (a2 : Int) : Option (Bool) := (swarflaw29_awake.f k).bind fun t265 => (if t265 = true then (if (l1.length : Int) > 60 then (swarflaw29_PrecedenceValid.j0 k a0 l1 a2 true) else (swarflaw29_PrecedenceValid.j0 k a0 l1 a2 (decide (a2 > 60)))) else (swarflaw29_PrecedenceValid.j0 k a0 l1 a2 true))
theorem swarflaw29_PrecedenceValid.mono_l : ∀ k, (∀ y0 y1 y2 y3, LeO (swarflaw29_PrecedenceValid.j0 k y0 y1 y2 y3) (swarflaw29_PrecedenceValid.j0 (k + 1) y0 y1 y2 y3)) ∧ (∀ y0 y1 y2 y3 y4, LeO (swarflaw29_PrecedenceValid.l0 k y0 y1 y2 y3 y4) (swarflaw29_PrecedenceValid.l0 (k + 1) y0 y1 y2 y3 y4))
 | 0 => ⟨fun _ _ _ _ r h => by simp [swarflaw29_PrecedenceValid.j0] at h, fun _ _ _ _ _ r h => by simp [swarflaw29_PrecedenceValid.l0] at h⟩
 | k + 1 => by
  obtain ⟨ih0, ih1⟩ := swarflaw29_PrecedenceValid.mono_l k
  refine ⟨?_, ?_⟩
  ·intro y0 y1 y2 y3
   unfold swarflaw29_PrecedenceValid.j0
   repeat' first
   | (with_reducible exact ih0 _ _ _ _)
   | (with_reducible exact ih1 _ _ _ _ _)
   | (with_reducible exact precedence_Valid.mono _ _ _)
   | (with_reducible exact swarflaw29_awake.mono _)
   | (with_reducible exact swarfref29_Valid.mono _ _ _)
   | (with_reducible exact LeO.refl _)
   | (with_reducible exact LeO.none _)
   | (with_reducible refine LeO.ite ?_ ?_)
   | (with_reducible refine LeO.bind ?_ (fun _ => ?_))
   | exact ih0 _ _ _ _
   | exact ih1 _ _ _ _ _
   | exact precedence_Valid.mono _ _ _
   | exact swarflaw29_awake.mono _
   | exact swarfref29_Valid.mono _ _ _
   | exact LeO.none _
   | refine LeO.ite ?_ ?_
   | refine LeO.bind ?_ (fun _ => ?_)
  ·intro y0 y1 y2 y3 y4
   unfold swarflaw29_PrecedenceValid.l0
   repeat' first
   | (with_reducible exact ih0 _ _ _ _)
   | (with_reducible exact ih1 _ _ _ _ _)
   | (with_reducible exact precedence_Valid.mono _ _ _)
   | (with_reducible exact swarflaw29_awake.mono _)
   | (with_reducible exact swarfref29_Valid.mono _ _ _)
   | (with_reducible exact LeO.refl _)
   | (with_reducible exact LeO.none _)
   | (with_reducible refine LeO.ite ?_ ?_)
   | (with_reducible refine LeO.bind ?_ (fun _ => ?_))
   | exact ih0 _ _ _ _
   | exact ih1 _ _ _ _ _
   | exact precedence_Valid.mono _ _ _
   | exact swarflaw29_awake.mono _
   | exact swarfref29_Valid.mono _ _ _
   | exact LeO.none _
   | refine LeO.ite ?_ ?_
   | refine LeO.bind ?_ (fun _ => ?_)
theorem swarflaw29_PrecedenceValid.mono : ∀ a0 a1 a2 k, LeO (swarflaw29_PrecedenceValid.f k a0 a1 a2) (swarflaw29_PrecedenceValid.f (k + 1) a0 a1 a2) := by
 intro a0 a1 a2 k
 obtain ⟨ih0, ih1⟩ := swarflaw29_PrecedenceValid.mono_l k
 unfold swarflaw29_PrecedenceValid.f
 repeat' first
   | (with_reducible exact ih0 _ _ _ _)
   | (with_reducible exact ih1 _ _ _ _ _)
   | (with_reducible exact precedence_Valid.mono _ _ _)
   | (with_reducible exact swarflaw29_awake.mono _)
   | (with_reducible exact swarfref29_Valid.mono _ _ _)
   | (with_reducible exact LeO.refl _)
   | (with_reducible exact LeO.none _)
   | (with_reducible refine LeO.ite ?_ ?_)
   | (with_reducible refine LeO.bind ?_ (fun _ => ?_))
   | exact ih0 _ _ _ _
   | exact ih1 _ _ _ _ _
   | exact precedence_Valid.mono _ _ _
   | exact swarflaw29_awake.mono _
   | exact swarfref29_Valid.mono _ _ _
   | exact LeO.none _
   | refine LeO.ite ?_ ?_
   | refine LeO.bind ?_ (fun _ => ?_)
set_option maxHeartbeats 8000000 in
set_option maxRecDepth 100000 in
theorem swarflaw29_PrecedenceValid.calls (k : Nat) (a0 : Int) (A1 : Option Addr) (c1 : Nat) (l1 : List (S47)) (a2 : Int) (r : Bool) (w : World) (hr1 : Kd.C k47 w A1 l1.length l1) (hc1 : l1.length ≤ c1) (h : swarflaw29_PrecedenceValid.f k a0 l1 a2 = some r) (hr : r = true) :
  Calls Try.prog 5 #[.int .i64 a0, .slice A1 l1.length c1, .int .u16 a2] w fun e w' => e = .returned (.bool r) ∧ Below w.heap.size w w' := by
 have HRT := aK hr
 clear hr
 have HR1 := aK hr1
 have HC1 := aK hc1
 clear hr1 hc1
 have HB := aK (Below.refl w.heap.size w)
 have H : ((swarflaw29_awake.f k).bind fun t265 => (if t265 = true then (if (l1.length : Int) > 60 then (swarflaw29_PrecedenceValid.j0 k a0 l1 a2 true) else (swarflaw29_PrecedenceValid.j0 k a0 l1 a2 (decide (a2 > 60)))) else (swarflaw29_PrecedenceValid.j0 k a0 l1 a2 true))) = some r := h
 clear h
 have HC4 := aK H
 clear H
 go_enter Try.func5, Try.ntmps5
 go_upto_region 1 with (fail)
 go_cut [18] (fun v18 wc => ∃ (kq : Nat) (x18_3 : Bool), v18 = .bool x18_3 ∧ Aside0 (swarflaw29_PrecedenceValid.j0 kq a0 l1 a2 x18_3 = some r) ∧ Aside0 (kq ≤ k) ∧ Aside0 (Below w.heap.size w wc))
 case first =>
  have H := HC4.out
  clear HC4; replace H := oB_ H
  obtain ⟨t265, A50, H⟩ := H
  replace H : (if t265 = true then (if (l1.length : Int) > 60 then (swarflaw29_PrecedenceValid.j0 k a0 l1 a2 true) else (swarflaw29_PrecedenceValid.j0 k a0 l1 a2 (decide (a2 > 60)))) else (swarflaw29_PrecedenceValid.j0 k a0 l1 a2 true)) = some r := H
  have A5 := aK A50; clear A50
  by_cases c6 : t265 = true
  ·subst c6
   have H1 : (if (l1.length : Int) > 60 then (swarflaw29_PrecedenceValid.j0 k a0 l1 a2 true) else (swarflaw29_PrecedenceValid.j0 k a0 l1 a2 (decide (a2 > 60)))) = some r := by rw [if_pos rfl] at H; exact H
   clear H; have H := H1; clear H1
   by_cases c7 : (l1.length : Int) > 60
   ·rw [if_pos c7] at H
    have c7b0 : decide (60 < (l1.length : Int)) = true := decide_eq_true c7
    have c7b1 : decide (60 < l1.length) = true := decide_eq_true (by omega)
    clear c7
    (first | rw [c7b0] | (simp only [i64_w, i32_w]; rw [c7b0]) | skip)
    have H' := aK H; clear H
    go_wp2_with (first | ((with_reducible refine gate_callee (f := 12) rfl ?_); refine goesL_ (some 8) rfl rfl Try.func12 (by kernel_rfl) rfl #[] rfl (by (try simp only [List.map_toArray, List.map_cons, List.map_nil]); first | done | rfl | (simp only [List.length_drop, List.length_take]; rfl)) ?_; (with_reducible refine (swarflaw29_awake.calls k  true _ A5.out).mono ?_); rintro e w8 ⟨rfl, hb⟩; refine ⟨_, rfl, ?_⟩; have n0_ := aK (bT_ (by repeat (first | (with_reducible first | exact HB.out | apply bA_ | apply bN_ | apply bD_) | exact HB.out)) hb); clear HB; have HB := n0_; clear n0_; (try clear hb); (try clear hb2); (try clear hk); (try clear hi)))
    go_meet
    case rel => exact ⟨_, (true), (by first | rfl | (simp; done) | (simp [*]; done)), H', ⟨by first | omega | exact Nat.le_refl _⟩, ⟨by repeat (first | (with_reducible first | exact HB.out | apply bA_ | apply bN_ | apply bD_) | exact HB.out)⟩⟩
   ·rw [if_neg c7] at H
    have c7b0 : decide (60 < (l1.length : Int)) = false := decide_eq_false c7
    have c7b1 : decide (60 < l1.length) = false := decide_eq_false (by omega)
    clear c7
    (first | rw [c7b0] | (simp only [i64_w, i32_w]; rw [c7b0]) | skip)
    have H' := aK H; clear H
    go_wp2_with (first | ((with_reducible refine gate_callee (f := 12) rfl ?_); refine goesL_ (some 8) rfl rfl Try.func12 (by kernel_rfl) rfl #[] rfl (by (try simp only [List.map_toArray, List.map_cons, List.map_nil]); first | done | rfl | (simp only [List.length_drop, List.length_take]; rfl)) ?_; (with_reducible refine (swarflaw29_awake.calls k  true _ A5.out).mono ?_); rintro e w9 ⟨rfl, hb⟩; refine ⟨_, rfl, ?_⟩; have n0_ := aK (bT_ (by repeat (first | (with_reducible first | exact HB.out | apply bA_ | apply bN_ | apply bD_) | exact HB.out)) hb); clear HB; have HB := n0_; clear n0_; (try clear hb); (try clear hb2); (try clear hk); (try clear hi)))
    go_meet
    case rel => exact ⟨_, (decide (a2 > 60)), (by first | rfl | (simp; done) | (simp [*]; done)), H', ⟨by first | omega | exact Nat.le_refl _⟩, ⟨by repeat (first | (with_reducible first | exact HB.out | apply bA_ | apply bN_ | apply bD_) | exact HB.out)⟩⟩
  ·replace c6 := Bool.eq_false_iff.mpr c6
   subst c6
   have H1 : (swarflaw29_PrecedenceValid.j0 k a0 l1 a2 true) = some r := by rw [if_neg (show ¬ (false = true) by decide)] at H; exact H
   clear H; have H := H1; clear H1; have H' := aK H; clear H
   go_wp2_with (first | ((with_reducible refine gate_callee (f := 12) rfl ?_); refine goesL_ (some 8) rfl rfl Try.func12 (by kernel_rfl) rfl #[] rfl (by (try simp only [List.map_toArray, List.map_cons, List.map_nil]); first | done | rfl | (simp only [List.length_drop, List.length_take]; rfl)) ?_; (with_reducible refine (swarflaw29_awake.calls k  false _ A5.out).mono ?_); rintro e w10 ⟨rfl, hb⟩; refine ⟨_, rfl, ?_⟩; have n0_ := aK (bT_ (by repeat (first | (with_reducible first | exact HB.out | apply bA_ | apply bN_ | apply bD_) | exact HB.out)) hb); clear HB; have HB := n0_; clear n0_; (try clear hb); (try clear hb2); (try clear hk); (try clear hi)))
   go_meet
   case rel => exact ⟨_, (true), (by first | rfl | (simp; done) | (simp [*]; done)), H', ⟨by first | omega | exact Nat.le_refl _⟩, ⟨by repeat (first | (with_reducible first | exact HB.out | apply bA_ | apply bN_ | apply bD_) | exact HB.out)⟩⟩
 case rest =>
  clear HC4; try clear c1; try clear p2; try clear c5; try clear c6; try clear c7; try clear c7b0; try clear c7b1
  obtain ⟨kq, x18_3, rfl, HA, HJ3, HB⟩ := hcut
  cases kq with
  | zero => exact absurd HA.out (by simp [swarflaw29_PrecedenceValid.j0])
  | succ kj3 =>
   have H := HA.out
   clear HA
   simp only [swarflaw29_PrecedenceValid.j0] at H
   by_cases c11 : x18_3 = true
   ·subst c11
    have H1 : ((swarflaw29_awake.f kj3).bind fun t266 => (some t266)) = some r := by rw [if_pos rfl] at H; exact H
    clear H; have H := H1; clear H1; replace H := oB_ H
    obtain ⟨t266, A120, H⟩ := H
    replace H : (some t266) = some r := H
    have A12 := aK A120; clear A120; obtain rfl := Option.some.inj H
    go_wp2_with (first | ((with_reducible refine gate_callee (f := 12) rfl ?_); refine goesL_ (some 19) rfl rfl Try.func12 (by kernel_rfl) rfl #[] rfl (by (try simp only [List.map_toArray, List.map_cons, List.map_nil]); first | done | rfl | (simp only [List.length_drop, List.length_take]; rfl)) ?_; (with_reducible refine (swarflaw29_awake.calls kj3  t266 _ A12.out).mono ?_); rintro e w13 ⟨rfl, hb⟩; refine ⟨_, rfl, ?_⟩; have n0_ := aK (bT_ (by repeat (first | (with_reducible first | exact HB.out | apply bA_ | apply bN_ | apply bD_) | exact HB.out)) hb); clear HB; have HB := n0_; clear n0_; (try clear hb); (try clear hb2); (try clear hk); (try clear hi)))
    go_ret
    exact ⟨by first | rfl | (simp [errW_none, errW_some] <;> rfl) | (simp [*, errW_none, errW_some] <;> rfl), by repeat (first | (with_reducible first | exact HB.out | apply bA_ | apply bN_ | apply bD_) | exact HB.out)⟩
   ·replace c11 := Bool.eq_false_iff.mpr c11
    subst c11
    have H1 : ((swarflaw29_cp.f l1).bind fun t267 => (swarflaw29_PrecedenceValid.l0 kj3 a0 l1 t267 a2 0)) = some r := by rw [if_neg (show ¬ (false = true) by decide)] at H; exact H
    clear H; have H := H1; clear H1; replace H := oB_ H
    obtain ⟨t267, A140, H⟩ := H
    replace H : (swarflaw29_PrecedenceValid.l0 kj3 a0 l1 t267 a2 0) = some r := H
    have A14 := aK A140; clear A140; have H' := aK H; clear H
    go_wp2_with (first | ((with_reducible refine gate_callee (f := 15) rfl ?_); refine goesL_ (some 21) rfl rfl Try.func15 (by kernel_rfl) rfl #[.slice A1 l1.length c1] rfl (by (try simp only [List.map_toArray, List.map_cons, List.map_nil]); first | done | rfl | (simp only [List.length_drop, List.length_take]; rfl)) ?_; (with_reducible refine (swarflaw29_cp.calls _ _ l1 t267 _ ?side1 ?side2 A14.out).mono ?_); (case side1 => repeat (first | exact (Kd.C_below HR1.out HB.out) | (with_reducible refine Kd.C_alloc ?_ _) | (with_reducible refine Kd.C_drewN ?_ _) | (with_reducible refine Kd.C_drew ?_))); (case side2 => exact HC1.out); rintro e w15 ⟨v268, rfl, ho0, hb⟩; refine ⟨_, rfl, ?_⟩; have n0_ := aK (Kd.R_lower ho0 (bZ_ (by repeat (first | (with_reducible first | exact HB.out | apply bA_ | apply bN_ | apply bD_) | exact HB.out)))); have n1_ := aK (bT_ (by repeat (first | (with_reducible first | exact HB.out | apply bA_ | apply bN_ | apply bD_) | exact HB.out)) hb); clear HB; have HO269 := n0_; have HB := n1_; clear n0_ n1_; (try clear hb); (try clear hb2); (try clear hk); (try clear hi); (try clear ho0)))
    go_loopg [7, 23] kj3 (fun kq v7 v23 w' => ∃ (x7_2 : List (S47)) (x23_2 : Int), v23 = .int .u16 x23_2 ∧ Aside0 (swarflaw29_PrecedenceValid.l0 kq a0 l1 x7_2 a2 x23_2 = some r) ∧ Aside0 (kq ≤ kj3) ∧ Aside0 (Kd.R k47 47 w' w.heap.size (fun _ => True) v7 x7_2) ∧ Aside0 (Below w.heap.size w w'))
    case atStart => exact ⟨(t267), (0), (by first | rfl | (simp; done) | (simp [*]; done)), H', ⟨Nat.le_refl _⟩, ⟨by (with_reducible repeat (first | apply Kd.R_alloc | apply Kd.R_drewN | apply Kd.R_drew)); exact HO269.out⟩, ⟨by repeat (first | (with_reducible first | exact HB.out | apply bA_ | apply bN_ | apply bD_) | exact HB.out)⟩⟩
    case round =>
     clear H'; try clear c1; try clear p2; try clear c5; try clear c6; try clear c7; try clear c7b0; try clear c7b1; try clear c11; try clear c12; try clear c15; try clear p2
     obtain ⟨x7_2, x23_2, rfl, HA, HK2, HO_7, HB⟩ := hrel
     cases gk with
     | zero => exact absurd HA.out (by simp [swarflaw29_PrecedenceValid.l0])
     | succ k2 =>
      have H := HA.out
      clear HA
      simp only [swarflaw29_PrecedenceValid.l0] at H
      by_cases c16 : x23_2 < a2
      ·rw [if_pos c16] at H
       have c16b0 : decide (x23_2 < a2) = true := decide_eq_true c16
       clear c16
       by_cases c17 : x7_2.length + l1.length < 8796093022208
       ·rw [if_pos c17] at H; have LMc17 := aK c17; clear c17
        obtain ⟨y270, hy270⟩ : ∃ y_ : List (S47), y_ = (x7_2 ++ l1) := ⟨_, rfl⟩
        replace H : (swarflaw29_PrecedenceValid.l0 k2 a0 l1 y270 a2 (IntKind.u16.wrap (x23_2 + 1))) = some r := by first | (rw [hy270]; with_reducible exact H) | (have H2_ := (Option.bind_some _ _).symm.trans H; rw [hy270]; with_reducible exact H2_) | (have H2_ := (Option.bind_some _ _).symm.trans H; with_reducible exact H2_) | with_reducible exact H | (rw [hy270]; exact H) | exact H
        have Ny270 := aK hy270; clear hy270; have H' := aK H; clear H
        go_wp2_with (first | ((with_reducible refine gate_builtin (b := .append) (xs := #[.tmp 25, .tmp 26]) rfl ?_); (try (refine gate_guard (by rfl) ?_; dsimp only)); at_builtin; refine Kd.R_append_rows k47 (w0 := w) w.heap.size rfl (.tmp 25) (.tmp 26) 22 47 (.agg #[(.int .i64 0), (.int .i64 0)]) 16 rfl Try.underlying22 info47 rfl (by decide) (by omega) u7 x7_2 l1 _ _ _ (fun _ => True) (fun _ => False) rfl rfl ?aO ?aR (fun _ _ h => h) (fun _ h => h.elim) ?aF ?aB ?aS ?aL ?_; (case aR => repeat (first | exact (Kd.C_below HR1.out HB.out) | (with_reducible refine Kd.C_alloc ?_ _) | (with_reducible refine Kd.C_drewN ?_ _) | (with_reducible refine Kd.C_drew ?_))); (case aB => exact (by repeat (first | (with_reducible first | exact HB.out | apply bA_ | apply bN_ | apply bD_) | exact HB.out))); (case aF => exact (fun _ _ => trivial)); (case aO => exact (by (with_reducible repeat (first | apply Kd.R_alloc | apply Kd.R_drewN | apply Kd.R_drew)); exact HO_7.out)); (case aS => exact (bZ_ (by repeat (first | (with_reducible first | exact HB.out | apply bA_ | apply bN_ | apply bD_) | exact HB.out)))); (case aL => have := LMc17.out; omega); intro v271 w18 ho hb hg hat; rw [← Ny270.out] at ho; have n0_ := aK (hb); have n1_ := aK (ho); clear HB; clear HO_7; have HB := n0_; have HO272 := n1_; clear n0_ n1_; clear ho hb hg hat))
        go_roundg k2
        case measure => have := HJ3.out; have := HK2.out; omega
        case rel => exact ⟨(y270), (IntKind.u16.wrap (x23_2 + 1)), (by first | rfl | (simp; done) | (simp [*]; done)), H', ⟨by have := HJ3.out; have := HK2.out; omega⟩, ⟨by (with_reducible repeat (first | apply Kd.R_alloc | apply Kd.R_drewN | apply Kd.R_drew)); exact HO272.out⟩, ⟨by repeat (first | (with_reducible first | exact HB.out | apply bA_ | apply bN_ | apply bD_) | exact HB.out)⟩⟩
       ·rw [if_neg c17] at H
        exact absurd H (by simp)
      ·rw [if_neg c16] at H
       have c16b0 : decide (x23_2 < a2) = false := decide_eq_false c16
       clear c16; replace H := oB_ H
       obtain ⟨t273, A190, H⟩ := H
       replace H : ((precedence_Valid.f k2 a0 t273).bind fun t276 => ((swarfref29_Valid.f k2 a0 x7_2).bind fun t277 => (some (t276 == t277)))) = some r := H
       have A19 := aK A190; clear A190; replace H := oB_ H
       obtain ⟨t276, A200, H⟩ := H
       replace H : ((swarfref29_Valid.f k2 a0 x7_2).bind fun t277 => (some (t276 == t277))) = some r := H
       have A20 := aK A200; clear A200; replace H := oB_ H
       obtain ⟨t277, A210, H⟩ := H
       replace H : (some (t276 == t277)) = some r := H
       have A21 := aK A210; clear A210; obtain rfl := Option.some.inj H
       obtain ⟨Ao22, co22, eo22⟩ := Kd.R_slice HO_7.out
       subst eo22
       go_wp2_with (first | ((with_reducible refine gate_callee (f := 15) rfl ?_); refine goesL_ (some 31) rfl rfl Try.func15 (by kernel_rfl) rfl #[.slice Ao22 x7_2.length co22] rfl (by (try simp only [List.map_toArray, List.map_cons, List.map_nil]); first | done | rfl | (simp only [List.length_drop, List.length_take]; rfl)) ?_; (with_reducible refine (swarflaw29_cp.calls _ _ x7_2 t273 _ ?side1 ?side2 A19.out).mono ?_); (case side1 => repeat (first | exact (Kd.R_reads' HO_7.out).2.2 | (with_reducible refine Kd.C_alloc ?_ _) | (with_reducible refine Kd.C_drewN ?_ _) | (with_reducible refine Kd.C_drew ?_))); (case side2 => exact (Kd.R_reads' HO_7.out).2.1); rintro e w23 ⟨v274, rfl, ho0, hb⟩; refine ⟨_, rfl, ?_⟩; have n0_ := aK (Kd.R_elder' (by (with_reducible repeat (first | apply Kd.R_alloc | apply Kd.R_drewN | apply Kd.R_drew)); exact HO_7.out) (Kd.R_base ho0) hb); have n1_ := aK (Kd.R_lower (Kd.R_new' ho0 (Kd.R_lt (by (with_reducible repeat (first | apply Kd.R_alloc | apply Kd.R_drewN | apply Kd.R_drew)); exact HO_7.out))) (bZ_ (by repeat (first | (with_reducible first | exact HB.out | apply bA_ | apply bN_ | apply bD_) | exact HB.out)))); have n2_ := aK (bT_ (by repeat (first | (with_reducible first | exact HB.out | apply bA_ | apply bN_ | apply bD_) | exact HB.out)) hb); clear HO_7; clear HB; have HO_7 := n0_; have HO275 := n1_; have HB := n2_; clear n0_ n1_ n2_; (try clear hb); (try clear hb2); (try clear hk); (try clear hi); (try clear ho0); obtain ⟨Ao24, co24, eo24⟩ := Kd.R_slice HO275.out; subst eo24) | ((with_reducible refine gate_callee (f := 20) rfl ?_); refine goesL_ (some 32) rfl rfl Try.func20 (by kernel_rfl) rfl #[.int .i64 a0, .slice Ao24 t273.length co24] rfl (by (try simp only [List.map_toArray, List.map_cons, List.map_nil]); first | done | rfl | (simp only [List.length_drop, List.length_take]; rfl)) ?_; (with_reducible refine (precedence_Valid.calls k2 a0 _ _ t273 t276 _ ?side1 ?side2 A20.out).mono ?_); (case side1 => repeat (first | exact (Kd.R_reads' HO275.out).2.2 | (with_reducible refine Kd.C_alloc ?_ _) | (with_reducible refine Kd.C_drewN ?_ _) | (with_reducible refine Kd.C_drew ?_))); (case side2 => exact (Kd.R_reads' HO275.out).2.1); rintro e w25 ⟨rfl, hb⟩; refine ⟨_, rfl, ?_⟩; have n0_ := aK (Kd.R_below (by (with_reducible repeat (first | apply Kd.R_alloc | apply Kd.R_drewN | apply Kd.R_drew)); exact HO_7.out) hb); have n1_ := aK (Kd.R_below (by (with_reducible repeat (first | apply Kd.R_alloc | apply Kd.R_drewN | apply Kd.R_drew)); exact HO275.out) hb); have n2_ := aK (bT_ (by repeat (first | (with_reducible first | exact HB.out | apply bA_ | apply bN_ | apply bD_) | exact HB.out)) hb); clear HO_7; clear HO275; clear HB; have HO_7 := n0_; have HO275 := n1_; have HB := n2_; clear n0_ n1_ n2_; (try clear hb); (try clear hb2); (try clear hk); (try clear hi)) | ((with_reducible refine gate_callee (f := 21) rfl ?_); refine goesL_ (some 35) rfl rfl Try.func21 (by kernel_rfl) rfl #[.int .i64 a0, .slice Ao22 x7_2.length co22] rfl (by (try simp only [List.map_toArray, List.map_cons, List.map_nil]); first | done | rfl | (simp only [List.length_drop, List.length_take]; rfl)) ?_; (with_reducible refine (swarfref29_Valid.calls k2 a0 _ _ x7_2 t277 _ ?side1 ?side2 A21.out).mono ?_); (case side1 => repeat (first | exact (Kd.R_reads' HO_7.out).2.2 | (with_reducible refine Kd.C_alloc ?_ _) | (with_reducible refine Kd.C_drewN ?_ _) | (with_reducible refine Kd.C_drew ?_))); (case side2 => exact (Kd.R_reads' HO_7.out).2.1); rintro e w' ⟨rfl, ⟨nd, rfl⟩⟩; refine ⟨_, rfl, ?_⟩))
       go_ret
       exact ⟨by first | rfl | (simp [errW_none, errW_some] <;> rfl) | (simp [*, errW_none, errW_some] <;> rfl), by repeat (first | (with_reducible first | exact HB.out | apply bA_ | apply bN_ | apply bD_) | exact HB.out)⟩

end Go.Proofs.Ytbbkclcfmcjlgaa.P


namespace Go.Proofs.Ytbbkclcfmcjlgaa.B
open Go.RowKit Go.Proofs.Ytbbkclcfmcjlgaa.P Go.Proofs.YtbbkclcfmcjlgaaW.PrintWords Go.Proofs.YtbbkclcfmcjlgaaW.PrintLast
theorem awake_ev : Ev (fun k => swarflaw29_awake.f k) true := Ev.of swarflaw29_awake.mono swarflaw29_awake.small
end Go.Proofs.Ytbbkclcfmcjlgaa.B



namespace Go.Proofs.Ytbbkclcfmcjlgaa.P
open Go.RowKit Go.Proofs.YtbbkclcfmcjlgaaW.PrintWords Go.Proofs.YtbbkclcfmcjlgaaW.PrintLast Go.Proofs.YtbbkclcfmcjlgaaW.PrintMore
attribute [local go_sem] max2_int min2_int max_two min_two max_three min_three max_four min_four
set_option linter.unusedVariables false
set_option linter.unusedSimpArgs false

def swarflaw29_few.f (k : Nat) (a0 : Int) (a1 : Int) (l2 : List (S47)) : Option (Bool) := if (l2.length : Int) ≤ 60 then (if a0 ≤ a1 then (some true) else ((swarfref29_Valid.f k a0 l2).bind fun t189 => (some (t189 != 0)))) else (some false)
theorem swarflaw29_few.mono : ∀ a0 a1 a2 k, LeO (swarflaw29_few.f k a0 a1 a2) (swarflaw29_few.f (k + 1) a0 a1 a2) := by
 intro a0 a1 a2 k
 unfold swarflaw29_few.f
 repeat' first
   | (with_reducible exact swarfref29_Valid.mono _ _ _)
   | (with_reducible exact LeO.refl _)
   | (with_reducible exact LeO.none _)
   | (with_reducible refine LeO.ite ?_ ?_)
   | (with_reducible refine LeO.bind ?_ (fun _ => ?_))
   | exact swarfref29_Valid.mono _ _ _
   | exact LeO.none _
   | refine LeO.ite ?_ ?_
   | refine LeO.bind ?_ (fun _ => ?_)
set_option maxHeartbeats 8000000 in
set_option maxRecDepth 100000 in
theorem swarflaw29_few.calls (k : Nat) (a0 : Int) (a1 : Int) (A2 : Option Addr) (c2 : Nat) (l2 : List (S47)) (r : Bool) (w : World) (hr2 : Kd.C k47 w A2 l2.length l2) (hc2 : l2.length ≤ c2) (h : swarflaw29_few.f k a0 a1 l2 = some r) :
  Calls Try.prog 13 #[.int .i64 a0, .int .i64 a1, .slice A2 l2.length c2] w fun e w' => e = .returned (.bool r) ∧ Drawn0 w w' := by
 have HR2 := aK hr2
 have HC2 := aK hc2
 clear hr2 hc2
 have H : (if (l2.length : Int) ≤ 60 then (if a0 ≤ a1 then (some true) else ((swarfref29_Valid.f k a0 l2).bind fun t189 => (some (t189 != 0)))) else (some false)) = some r := h
 clear h
 by_cases c4 : (l2.length : Int) ≤ 60
 ·rw [if_pos c4] at H
  have c4b0 : decide ((l2.length : Int) ≤ 60) = true := decide_eq_true c4
  have c4b1 : decide (l2.length ≤ 60) = true := decide_eq_true (by omega)
  clear c4
  by_cases c5 : a0 ≤ a1
  ·rw [if_pos c5] at H
   have c5b0 : decide (a0 ≤ a1) = true := decide_eq_true c5
   clear c5; obtain rfl := Option.some.inj H
   go_enter Try.func13, Try.ntmps13
   go_wp2; go_ret
   exact ⟨by first | rfl | (simp; done) | (simp [*]; done), by repeat (first | exact Drawn0.refl _ | apply Drawn0.step)⟩
  ·rw [if_neg c5] at H
   have c5b0 : decide (a0 ≤ a1) = false := decide_eq_false c5
   clear c5; replace H := oB_ H
   obtain ⟨t189, A60, H⟩ := H
   replace H : (some (t189 != 0)) = some r := H
   have A6 := aK A60; clear A60; obtain rfl := Option.some.inj H
   go_enter Try.func13, Try.ntmps13
   go_wp2_with (first | (go_at_call 21; (with_reducible refine (swarfref29_Valid.calls k a0 _ _ l2 t189 _ ?side1 ?side2 A6.out).mono ?_); (case side1 => repeat (first | exact HR2.out | (with_reducible refine Kd.C_alloc ?_ _) | (with_reducible refine Kd.C_drewN ?_ _) | (with_reducible refine Kd.C_drew ?_))); (case side2 => exact HC2.out); rintro e w' ⟨rfl, ⟨nd, rfl⟩⟩))
   go_ret
   exact ⟨by first | rfl | (simp; done) | (simp [*]; done), by repeat (first | exact Drawn0.refl _ | apply Drawn0.step)⟩
 ·rw [if_neg c4] at H
  have c4b0 : decide ((l2.length : Int) ≤ 60) = false := decide_eq_false c4
  have c4b1 : decide (l2.length ≤ 60) = false := decide_eq_false (by omega)
  clear c4; obtain rfl := Option.some.inj H
  go_enter Try.func13, Try.ntmps13
  go_wp2; go_ret
  exact ⟨by first | rfl | (simp; done) | (simp [*]; done), by repeat (first | exact Drawn0.refl _ | apply Drawn0.step)⟩

end Go.Proofs.Ytbbkclcfmcjlgaa.P



namespace Go.Proofs.Ytbbkclcfmcjlgaa.P
open Go.RowKit Go.Proofs.YtbbkclcfmcjlgaaW.PrintWords Go.Proofs.YtbbkclcfmcjlgaaW.PrintLast Go.Proofs.YtbbkclcfmcjlgaaW.PrintMore
attribute [local go_sem] max2_int min2_int max_two min_two max_three min_three max_four min_four
set_option linter.unusedVariables false
set_option linter.unusedSimpArgs false

def swarfref29_ready.l0 : Nat → List (S47) → List Int → Int → Int → Option (Bool)
 | 0, _, _, _, _ => none
 | k + 1, x0, x1, x2, x7 => if x7 < (x0.length : Int) then (if 0 ≤ x7 then (if ((rd_T47 x0 x7).f1) = x2 then ((swarfref29_in.f k x1 ((rd_T47 x0 x7).f0)).bind fun t241 => (if t241 = true then (swarfref29_ready.l0 k x0 x1 x2 (wrap64 (x7 + 1))) else (some false))) else (swarfref29_ready.l0 k x0 x1 x2 (wrap64 (x7 + 1)))) else (none)) else (some true)
def swarfref29_ready.f (k : Nat) (l0 : List (S47)) (l1 : List Int) (a2 : Int) : Option (Bool) := swarfref29_ready.l0 k l0 l1 a2 0
theorem swarfref29_ready.mono_l : ∀ k, (∀ y0 y1 y2 y3, LeO (swarfref29_ready.l0 k y0 y1 y2 y3) (swarfref29_ready.l0 (k + 1) y0 y1 y2 y3))
 | 0 => fun _ _ _ _ r h => by simp [swarfref29_ready.l0] at h
 | k + 1 => by
  have ih0 := swarfref29_ready.mono_l k
  ·intro y0 y1 y2 y3
   unfold swarfref29_ready.l0
   repeat' first
   | (with_reducible exact ih0 _ _ _ _)
   | (with_reducible exact swarfref29_in.mono _ _ _)
   | (with_reducible exact LeO.refl _)
   | (with_reducible exact LeO.none _)
   | (with_reducible refine LeO.ite ?_ ?_)
   | (with_reducible refine LeO.bind ?_ (fun _ => ?_))
   | exact ih0 _ _ _ _
   | exact swarfref29_in.mono _ _ _
   | exact LeO.none _
   | refine LeO.ite ?_ ?_
   | refine LeO.bind ?_ (fun _ => ?_)
theorem swarfref29_ready.mono : ∀ a0 a1 a2 k, LeO (swarfref29_ready.f k a0 a1 a2) (swarfref29_ready.f (k + 1) a0 a1 a2) := by
 intro a0 a1 a2 k
 have ih0 := swarfref29_ready.mono_l k
 unfold swarfref29_ready.f
 repeat' first
   | (with_reducible exact ih0 _ _ _ _)
   | (with_reducible exact swarfref29_in.mono _ _ _)
   | (with_reducible exact LeO.refl _)
   | (with_reducible exact LeO.none _)
   | (with_reducible refine LeO.ite ?_ ?_)
   | (with_reducible refine LeO.bind ?_ (fun _ => ?_))
   | exact ih0 _ _ _ _
   | exact swarfref29_in.mono _ _ _
   | exact LeO.none _
   | refine LeO.ite ?_ ?_
   | refine LeO.bind ?_ (fun _ => ?_)
set_option maxHeartbeats 8000000 in
set_option maxRecDepth 100000 in
theorem swarfref29_ready.calls (k : Nat) (A0 : Option Addr) (c0 : Nat) (l0 : List (S47)) (A1 : Option Addr) (c1 : Nat) (l1 : List Int) (a2 : Int) (r : Bool) (w : World) (hr0 : Kd.C k47 w A0 l0.length l0) (hc0 : l0.length ≤ c0) (hr1 : Kd.C (Kd.int .i64) w A1 l1.length l1) (hc1 : l1.length ≤ c1) (h : swarfref29_ready.f k l0 l1 a2 = some r) :
  Calls Try.prog 41 #[.slice A0 l0.length c0, .slice A1 l1.length c1, .int .i64 a2] w fun e w' => e = .returned (.bool r) ∧ Drawn0 w w' := by
 have HR0 := aK hr0
 have HC0 := aK hc0
 clear hr0 hc0
 have HR1 := aK hr1
 have HC1 := aK hc1
 clear hr1 hc1
 have H : (swarfref29_ready.l0 k l0 l1 a2 0) = some r := h
 clear h
 have H' := aK H
 clear H
 go_enter Try.func41, Try.ntmps41
 go_wp2
 go_loopg [7] k (fun kq v7 w' => ∃ (x7_1 : Int), v7 = .int .i64 x7_1 ∧ Aside0 (swarfref29_ready.l0 kq l0 l1 a2 x7_1 = some r) ∧ Aside0 (kq ≤ k) ∧ Drawn0 w w')
 case atStart => exact ⟨(0), (by first | rfl | (simp; done) | (simp [*]; done)), H', ⟨Nat.le_refl _⟩, by repeat (first | exact Drawn0.refl _ | apply Drawn0.step)⟩
 case round =>
  clear H'; try clear c1; try clear p2
  obtain ⟨x7_1, rfl, HA, HK1, ⟨m1, rfl⟩⟩ := hrel
  cases gk with
  | zero => exact absurd HA.out (by simp [swarfref29_ready.l0])
  | succ k1 =>
   have H := HA.out
   clear HA
   simp only [swarfref29_ready.l0] at H
   by_cases c4 : x7_1 < (l0.length : Int)
   ·rw [if_pos c4] at H
    have c4b0 : decide (x7_1 < (l0.length : Int)) = true := decide_eq_true c4
    clear c4
    by_cases c5 : 0 ≤ x7_1
    ·rw [if_pos c5] at H
     have c5b0 : decide (0 ≤ x7_1) = true := decide_eq_true c5
     clear c5
     by_cases c6 : ((rd_T47 l0 x7_1).f1) = a2
     ·rw [if_pos c6] at H
      have c6b0 : (((rd_T47 l0 x7_1).f1) == a2) = true := beq_iff_eq.mpr c6
      have c6b1 : (((rd_T47 l0 x7_1).f1) != a2) = false := bne_eq_false_iff_eq.mpr c6
      clear c6; replace H := oB_ H
      obtain ⟨t241, A70, H⟩ := H
      replace H : (if t241 = true then (swarfref29_ready.l0 k1 l0 l1 a2 (wrap64 (x7_1 + 1))) else (some false)) = some r := H
      have A7 := aK A70; clear A70
      by_cases c8 : t241 = true
      ·subst c8
       have H1 : (swarfref29_ready.l0 k1 l0 l1 a2 (wrap64 (x7_1 + 1))) = some r := by rw [if_pos rfl] at H; exact H
       clear H; have H := H1; clear H1; have H' := aK H; clear H
       have p239 : 0 ≤ (x7_1 : Int) := of_decide_eq_true (by first | (with_reducible assumption) | assumption)
       have q239 : x7_1 < (l0.length : Int) := of_decide_eq_true (by first | (with_reducible assumption) | assumption)
       obtain ⟨ad239, e239, hx239_0, hx239_1⟩ := at_T47 HR0.out x7_1 p239 q239
       cases e239; replace p239 := eq_true p239; replace q239 := eq_true q239
       have p240 : 0 ≤ (x7_1 : Int) := of_decide_eq_true (by first | (with_reducible assumption) | assumption)
       have q240 : x7_1 < (l0.length : Int) := of_decide_eq_true (by first | (with_reducible assumption) | assumption)
       obtain ⟨ad240, e240, hx240_0, hx240_1⟩ := at_T47 HR0.out x7_1 p240 q240
       obtain rfl : ad239 = ad240 := (by injection e240)
       replace p240 := eq_true p240; replace q240 := eq_true q240
       go_wp2_with (first | (go_at_call 40; (with_reducible refine (swarfref29_in.calls k1 _ _ l1 ((rd_T47 l0 x7_1).f0) true _ ?side1 ?side2 A7.out).mono ?_); (case side1 => repeat (first | exact HR1.out | (with_reducible refine Kd.C_alloc ?_ _) | (with_reducible refine Kd.C_drewN ?_ _) | (with_reducible refine Kd.C_drew ?_))); (case side2 => exact HC1.out); rintro e w' ⟨rfl, ⟨nd, rfl⟩⟩))
       go_roundg k1
       case measure => have := HK1.out; omega
       case rel => exact ⟨(wrap64 (x7_1 + 1)), (by first | rfl | (simp; done) | (simp [*]; done)), H', ⟨by have := HK1.out; omega⟩, by repeat (first | exact Drawn0.refl _ | apply Drawn0.step)⟩
      ·replace c8 := Bool.eq_false_iff.mpr c8
       subst c8
       have H1 : (some false) = some r := by rw [if_neg (show ¬ (false = true) by decide)] at H; exact H
       clear H; have H := H1; clear H1; obtain rfl := Option.some.inj H
       have p239 : 0 ≤ (x7_1 : Int) := of_decide_eq_true (by first | (with_reducible assumption) | assumption)
       have q239 : x7_1 < (l0.length : Int) := of_decide_eq_true (by first | (with_reducible assumption) | assumption)
       obtain ⟨ad239, e239, hx239_0, hx239_1⟩ := at_T47 HR0.out x7_1 p239 q239
       cases e239; replace p239 := eq_true p239; replace q239 := eq_true q239
       have p240 : 0 ≤ (x7_1 : Int) := of_decide_eq_true (by first | (with_reducible assumption) | assumption)
       have q240 : x7_1 < (l0.length : Int) := of_decide_eq_true (by first | (with_reducible assumption) | assumption)
       obtain ⟨ad240, e240, hx240_0, hx240_1⟩ := at_T47 HR0.out x7_1 p240 q240
       obtain rfl : ad239 = ad240 := (by injection e240)
       replace p240 := eq_true p240; replace q240 := eq_true q240
       go_wp2_with (first | (go_at_call 40; (with_reducible refine (swarfref29_in.calls k1 _ _ l1 ((rd_T47 l0 x7_1).f0) false _ ?side1 ?side2 A7.out).mono ?_); (case side1 => repeat (first | exact HR1.out | (with_reducible refine Kd.C_alloc ?_ _) | (with_reducible refine Kd.C_drewN ?_ _) | (with_reducible refine Kd.C_drew ?_))); (case side2 => exact HC1.out); rintro e w' ⟨rfl, ⟨nd, rfl⟩⟩))
       go_ret
       exact ⟨by first | rfl | (simp; done) | (simp [*]; done), by repeat (first | exact Drawn0.refl _ | apply Drawn0.step)⟩
     ·rw [if_neg c6] at H
      have c6b0 : (((rd_T47 l0 x7_1).f1) == a2) = false := beq_eq_false_iff_ne.mpr c6
      have c6b1 : (((rd_T47 l0 x7_1).f1) != a2) = true := bne_iff_ne.mpr c6
      have H' := aK H; clear H
      have p239 : 0 ≤ (x7_1 : Int) := of_decide_eq_true (by first | (with_reducible assumption) | assumption)
      have q239 : x7_1 < (l0.length : Int) := of_decide_eq_true (by first | (with_reducible assumption) | assumption)
      obtain ⟨ad239, e239, hx239_0, hx239_1⟩ := at_T47 HR0.out x7_1 p239 q239
      cases e239; replace p239 := eq_true p239; replace q239 := eq_true q239; go_wp2
      go_roundg k1
      case measure => have := HK1.out; omega
      case rel => exact ⟨(wrap64 (x7_1 + 1)), (by first | rfl | (simp; done) | (simp [*]; done)), H', ⟨by have := HK1.out; omega⟩, by repeat (first | exact Drawn0.refl _ | apply Drawn0.step)⟩
    ·rw [if_neg c5] at H
     exact absurd H (by simp)
   ·rw [if_neg c4] at H
    have c4b0 : decide (x7_1 < (l0.length : Int)) = false := decide_eq_false c4
    clear c4; obtain rfl := Option.some.inj H; go_wp2; go_ret
    exact ⟨by first | rfl | (simp; done) | (simp [*]; done), by repeat (first | exact Drawn0.refl _ | apply Drawn0.step)⟩

end Go.Proofs.Ytbbkclcfmcjlgaa.P



namespace Go.Proofs.Ytbbkclcfmcjlgaa.B
open Go.RowKit Go.Proofs.Ytbbkclcfmcjlgaa.P Go.Proofs.YtbbkclcfmcjlgaaW.PrintWords Go.Proofs.YtbbkclcfmcjlgaaW.PrintLast Go.Proofs.YtbbkclcfmcjlgaaW.PrintMore
set_option linter.unusedVariables false
set_option linter.unusedSimpArgs false

theorem wrap_mid (x : Int) (h0 : -4000000000000000 ≤ x) (h1 : x ≤ 4000000000000000) : wrap64 x = x := by unfold wrap64; omega
theorem wrap_succ (x : Int) (h0 : 0 ≤ x) (h1 : x ≤ 1000000000000000) : wrap64 (x + 1) = x + 1 := wrap_mid _ (by omega) (by omega)
theorem ev_end {α : Type} {g : Nat → Option α} {r : α} (h : ∀ k, g (k + 1) = some r) : Ev g r := Ev.step (f := fun _ => some r) h (Ev.now r)
def EvP {α : Type} (g : Nat → Option α) (Post : α → Prop) : Prop := ∃ r, Ev g r ∧ Post r
theorem EvP.step {α : Type} {g f : Nat → Option α} {Post : α → Prop} (h : ∀ k, g (k + 1) = f k) (k : EvP f Post) : EvP g Post := by
 obtain ⟨r, h1, h2⟩ := k
 exact ⟨r, Ev.step h h1, h2⟩
theorem EvP.stop {α : Type} {g : Nat → Option α} {Post : α → Prop} (r : α) (h : ∀ k, g (k + 1) = some r) (hp : Post r) : EvP g Post := ⟨r, ev_end h, hp⟩
theorem EvP.bind {α β : Type} {g : Nat → Option α} {f : Nat → α → Option β} {a : α} {Post : β → Prop} (h : Ev g a) (k : EvP (fun n => f n a) Post) : EvP (fun n => (g n).bind (f n)) Post := by
 obtain ⟨r, h1, h2⟩ := k
 exact ⟨r, Ev.bind h h1, h2⟩
theorem EvP.mono {α : Type} {g : Nat → Option α} {P Q : α → Prop} (h : EvP g P) (hq : ∀ a, P a → Q a) : EvP g Q := by
 obtain ⟨r, h1, h2⟩ := h
 exact ⟨r, h1, hq _ h2⟩
theorem EvP.same {α : Type} {g f : Nat → Option α} {Post : α → Prop} (h : ∀ k, g k = f k) (k : EvP f Post) : EvP g Post := by
 have : g = f := funext h
 rw [this]; exact k

theorem drop_T47 (l : List S47) (j : Int) (h0 : 0 ≤ j) (h : j < (l.length : Int)) : l.drop j.toNat = rd_T47 l j :: l.drop (j + 1).toNat := by
 have h1 : j.toNat < l.length := by omega
 rw [List.drop_eq_getElem_cons h1, show (j + 1).toNat = j.toNat + 1 by omega]
 congr 1
 unfold rd_T47
 simp [List.getD, h1]
theorem drop_end {α : Type} (l : List α) (j : Int) (h : (l.length : Int) ≤ j) : l.drop j.toNat = [] := List.drop_eq_nil_of_le (by omega)

def okp (n : Int) (p : S47) : Bool := decide (p.f0 ≠ p.f1) && (decide (0 ≤ p.f0) && decide (p.f0 < n)) && (decide (0 ≤ p.f1) && decide (p.f1 < n))
theorem okp_iff (n : Int) (p : S47) : okp n p = true ↔ p.f0 ≠ p.f1 ∧ (0 ≤ p.f0 ∧ p.f0 < n) ∧ (0 ≤ p.f1 ∧ p.f1 < n) := by simp [okp, and_assoc]
def vErr (n : Int) (l : List S47) : Int := if n > 200 ∨ (l.length : Int) > 2000 then 3 else if n < 0 then 1 else if l.all (okp n) = true then 0 else 1
theorem valid_l0 (n : Int) (l : List S47) (hn : l.length ≤ 100000000000000) (d : Nat) : ∀ j : Int, 0 ≤ j → j + d = l.length → Ev (fun k => precedence_Valid.l0 k n l (l.length : Int) j) (if (l.drop j.toNat).all (okp n) = true then 0 else 1) := by
 induction d with
 | zero =>
  intro j h0 hj
  rw [drop_end l j (by omega)]
  exact ev_end (fun k => by simp only [precedence_Valid.l0]; rw [if_neg (by omega)]; rfl)
 | succ d ih =>
  intro j h0 hj
  have hw := wrap_succ j h0 (by omega)
  rw [drop_T47 l j h0 (by omega)]
  generalize hp : rd_T47 l j = p
  by_cases ho : okp n p = true
  ·have hi := ih (j + 1) (by omega) (by omega)
   rw [List.all_cons, ho, Bool.true_and]
   refine Ev.step (fun k => ?_) hi
   rw [okp_iff] at ho
   simp only [precedence_Valid.l0]
   rw [if_pos (by omega), if_pos (by omega), if_pos (by omega), hp, if_neg ho.1, if_neg (by unfold mn; split <;> omega), if_neg (by unfold mx; split <;> omega), hw]
  ·rw [List.all_cons, show okp n p = false by simpa using ho, Bool.false_and]
   refine ev_end (fun k => ?_)
   rw [okp_iff] at ho
   simp only [precedence_Valid.l0]
   rw [if_pos (by omega), if_pos (by omega), if_pos (by omega), hp]
   by_cases h1 : p.f0 = p.f1
   ·rw [if_pos h1]; rfl
   ·rw [if_neg h1]
    by_cases h2 : mn p.f0 p.f1 < 0
    ·rw [if_pos h2]; rfl
    ·rw [if_neg h2, if_pos (by unfold mn at h2; unfold mx; split at h2 <;> split <;> omega)]; rfl
theorem rvalid_l0 (n : Int) (l : List S47) (hn : l.length ≤ 100000000000000) (d : Nat) : ∀ j : Int, 0 ≤ j → j + d = l.length → Ev (fun k => swarfref29_Valid.l0 k n l j) (if (l.drop j.toNat).all (okp n) = true then 0 else 1) := by
 induction d with
 | zero =>
  intro j h0 hj
  rw [drop_end l j (by omega)]
  exact ev_end (fun k => by simp only [swarfref29_Valid.l0]; rw [if_neg (by omega)]; rfl)
 | succ d ih =>
  intro j h0 hj
  have hw := wrap_succ j h0 (by omega)
  rw [drop_T47 l j h0 (by omega)]
  generalize hp : rd_T47 l j = p
  by_cases ho : okp n p = true
  ·have hi := ih (j + 1) (by omega) (by omega)
   rw [List.all_cons, ho, Bool.true_and]
   refine Ev.step (fun k => ?_) hi
   rw [okp_iff] at ho
   simp only [swarfref29_Valid.l0]
   rw [if_pos (by omega), if_pos (by omega), hp, if_neg (by omega), if_neg (by omega), if_neg (by omega), if_neg (by omega), if_neg ho.1, hw]
  ·rw [List.all_cons, show okp n p = false by simpa using ho, Bool.false_and]
   refine ev_end (fun k => ?_)
   rw [okp_iff] at ho
   simp only [swarfref29_Valid.l0]
   rw [if_pos (by omega), if_pos (by omega), hp]
   by_cases h1 : p.f0 < 0
   ·rw [if_pos h1]; rfl
   ·rw [if_neg h1]
    by_cases h2 : p.f0 ≥ n
    ·rw [if_pos h2]; rfl
    ·rw [if_neg h2]
     by_cases h3 : p.f1 < 0
     ·rw [if_pos h3]; rfl
     ·rw [if_neg h3]
      by_cases h4 : p.f1 ≥ n
      ·rw [if_pos h4]; rfl
      ·rw [if_neg h4, if_pos (by omega)]; rfl
theorem valid_ev (n : Int) (l : List S47) (hn : l.length ≤ 100000000000000) : Ev (fun k => precedence_Valid.f k n l) (vErr n l) := by
 have h := valid_l0 n l hn l.length 0 (by omega) (by omega)
 rw [show (0 : Int).toNat = 0 from rfl, List.drop_zero] at h
 unfold precedence_Valid.f vErr
 by_cases c : n > 200
 ·simp only [if_pos c, if_pos (show n > 200 ∨ (l.length : Int) > 2000 from .inl c)]
  exact ev_end (fun k => by simp [precedence_Valid.j0])
 ·simp only [if_neg c]
  by_cases c2 : (l.length : Int) > 2000
  ·simp only [if_pos (show n > 200 ∨ (l.length : Int) > 2000 from .inr c2), decide_eq_true c2]
   exact ev_end (fun k => by simp [precedence_Valid.j0])
  ·simp only [if_neg (show ¬ (n > 200 ∨ (l.length : Int) > 2000) by omega), decide_eq_false c2]
   by_cases c3 : n < 0
   ·simp only [if_pos c3]
    exact ev_end (fun k => by simp [precedence_Valid.j0, c3])
   ·simp only [if_neg c3]
    refine Ev.step (fun k => ?_) h
    simp only [precedence_Valid.j0]
    rw [if_neg (by decide), if_neg c3]
theorem rvalid_ev (n : Int) (l : List S47) (hn : l.length ≤ 100000000000000) : Ev (fun k => swarfref29_Valid.f k n l) (vErr n l) := by
 have h := rvalid_l0 n l hn l.length 0 (by omega) (by omega)
 rw [show (0 : Int).toNat = 0 from rfl, List.drop_zero] at h
 unfold swarfref29_Valid.f vErr
 by_cases c : n > 200
 ·simp only [if_pos c, if_pos (show n > 200 ∨ (l.length : Int) > 2000 from .inl c)]
  exact ev_end (fun k => by simp [swarfref29_Valid.j0])
 ·simp only [if_neg c]
  by_cases c2 : (l.length : Int) > 2000
  ·simp only [if_pos (show n > 200 ∨ (l.length : Int) > 2000 from .inr c2), decide_eq_true c2]
   exact ev_end (fun k => by simp [swarfref29_Valid.j0])
  ·simp only [if_neg (show ¬ (n > 200 ∨ (l.length : Int) > 2000) by omega), decide_eq_false c2]
   by_cases c3 : n < 0
   ·simp only [if_pos c3]
    exact ev_end (fun k => by simp [swarfref29_Valid.j0, c3])
   ·simp only [if_neg c3]
    refine Ev.step (fun k => ?_) h
    simp only [swarfref29_Valid.j0]
    rw [if_neg (by decide), if_neg c3]
theorem cp_eq (l : List S47) (hn : l.length < 8796093022208) : swarflaw29_cp.f l = some l := by
 unfold swarflaw29_cp.f
 simp only [Option.bind_some]
 rw [if_pos (by simpa using hn)]
 rfl

theorem S47.eta (p q : S47) : p = q ↔ p.f0 = q.f0 ∧ p.f1 = q.f1 := by
 constructor
 ·rintro rfl; exact ⟨rfl, rfl⟩
 ·cases p; cases q; rintro ⟨rfl, rfl⟩; rfl
instance : DecidableEq S47 := fun p q => if h : p.f0 = q.f0 ∧ p.f1 = q.f1 then isTrue ((S47.eta p q).2 h) else isFalse (fun e => h ((S47.eta p q).1 e))
end Go.Proofs.Ytbbkclcfmcjlgaa.B



namespace Go.Proofs.Ytbbkclcfmcjlgaa.B
open Go.RowKit Go.Proofs.Ytbbkclcfmcjlgaa.P Go.Proofs.YtbbkclcfmcjlgaaW.PrintWords Go.Proofs.YtbbkclcfmcjlgaaW.PrintLast Go.Proofs.YtbbkclcfmcjlgaaW.PrintMore
set_option linter.unusedVariables false
set_option linter.unusedSimpArgs false
theorem u16_succ (x : Int) (h0 : 0 ≤ x) (h1 : x ≤ 60) : IntKind.u16.wrap (x + 1) = x + 1 := by
 show (x + 1) % 65536 = x + 1
 omega
theorem vlaw_l0 (n : Int) (l : List S47) (hl : l.length ≤ 60) (r : Int) (hr : r ≤ 60) (d : Nat) : ∀ (j : Int) (m : List S47), 0 ≤ j → j + d = r → m.length ≤ 1000000 + 60 * j.toNat → Ev (fun k => swarflaw29_PrecedenceValid.l0 k n l m r j) true := by
 induction d with
 | zero =>
  intro j m h0 hj hm
  have hml : m.length ≤ 100000000 := by omega
  refine Ev.step (f := fun k => (swarflaw29_cp.f m).bind fun t273 => (precedence_Valid.f k n t273).bind fun t276 => (swarfref29_Valid.f k n m).bind fun t277 => some (t276 == t277)) (fun k => ?_) ?_
  ·simp only [swarflaw29_PrecedenceValid.l0]
   rw [if_neg (by omega)]
  ·rw [cp_eq m (by omega)]
   simp only [Option.bind_some]
   refine Ev.bind (valid_ev n m (by omega)) (Ev.bind (rvalid_ev n m (by omega)) ?_)
   simp only [beq_self_eq_true]; exact Ev.now _
 | succ d ih =>
  intro j m h0 hj hm
  refine Ev.step (fun k => ?_) (ih (j + 1) (m ++ l) (by omega) (by omega) (by rw [List.length_append]; omega))
  simp only [swarflaw29_PrecedenceValid.l0]
  rw [if_pos (by omega), if_pos (by omega), u16_succ j h0 (by omega)]
theorem vlaw_j0 (n : Int) (l : List S47) (r : Int) (hr0 : 0 ≤ r) (b : Bool) (h : b = false → l.length ≤ 60 ∧ r ≤ 60) : Ev (fun k => swarflaw29_PrecedenceValid.j0 k n l r b) true := by
 cases b with
 | true =>
  refine Ev.step (f := fun k => (swarflaw29_awake.f k).bind fun t => some t) (fun k => ?_) (Ev.bind awake_ev (Ev.now _))
  simp only [swarflaw29_PrecedenceValid.j0]
  rw [if_pos trivial]
 | false =>
  have hl := h rfl
  refine Ev.step (f := fun k => swarflaw29_PrecedenceValid.l0 k n l l r 0) (fun k => ?_) (vlaw_l0 n l hl.1 r hl.2 r.toNat 0 l (by omega) (by omega) (by omega))
  simp only [swarflaw29_PrecedenceValid.j0]
  rw [if_neg (by decide), cp_eq l (by omega)]
  rfl
theorem PrecedenceValid (n : Int) (l : List S47) (r : Int) (hr0 : 0 ≤ r) : ∃ k, swarflaw29_PrecedenceValid.f k n l r = some true := by
 refine Ev.rounds (g := fun k => swarflaw29_PrecedenceValid.f k n l r) ?_
 unfold swarflaw29_PrecedenceValid.f
 refine Ev.bind awake_ev ?_
 simp only [if_true]
 by_cases h1 : (l.length : Int) > 60
 ·simp only [if_pos h1]
  exact vlaw_j0 n l r hr0 _ (fun h => by cases h)
 ·simp only [if_neg h1]
  exact vlaw_j0 n l r hr0 _ (fun h => by simp only [decide_eq_false_iff_not] at h; omega)
end Go.Proofs.Ytbbkclcfmcjlgaa.B
