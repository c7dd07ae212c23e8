import Derived.Test.YtbbkclcfmcjlgaaT1M21
import Derived.Test.YtbbkclcfmcjlgaaT1M26
import Derived.Test.YtbbkclcfmcjlgaaT1M23
-- PRINTED by print.py (a twelfth state) out of the translation. Not trusted: Lean checks it.

namespace Go.Proofs.Ytbbkclcfmcjlgaa.P
open Go.RowKit Go.Proofs.YtbbkclcfmcjlgaaW.PrintWords Go.Proofs.YtbbkclcfmcjlgaaW.PrintLast Go.Proofs.YtbbkclcfmcjlgaaW.PrintMore
attribute [local go_sem] max2_int min2_int max_two min_two max_three min_three max_four min_four   -- for this text's walks alone
set_option linter.unusedVariables false
set_option linter.unusedSimpArgs false

/-! ### swarfref29_Changes: function 30 -/
mutual
def swarfref29_Changes.l0 : Nat → List Int → List Int → Int → Int → Option (Int)
 | 0, _, _, _, _ => none
 | k + 1, x0, x1, x5, x6 => if x6 < (x0.length : Int) then (if 0 ≤ x6 then (if (rd x0 x6) < 0 then (swarfref29_Changes.j1 k x0 x1 x5 x6 true) else (swarfref29_Changes.j1 k x0 x1 x5 x6 (decide ((rd x0 x6) ≥ (x1.length : Int))))) else (none)) else (some x5)
def swarfref29_Changes.j1 : Nat → List Int → List Int → Int → Int → Bool → Option (Int)
 | 0, _, _, _, _, _ => none
 | k + 1, x0, x1, x5, x6, x26 => if x26 = true then (some (-1)) else (if x6 > 0 then (if 0 ≤ x6 then (if x6 < (x0.length : Int) then (if 0 ≤ (rd x0 x6) then (if (rd x0 x6) < (x1.length : Int) then (if 0 ≤ (wrap64 (x6 - 1)) then (if (wrap64 (x6 - 1)) < (x0.length : Int) then (if 0 ≤ (rd x0 (wrap64 (x6 - 1))) then (if (rd x0 (wrap64 (x6 - 1))) < (x1.length : Int) then (if (rd x1 (rd x0 x6)) = (rd x1 (rd x0 (wrap64 (x6 - 1)))) then (swarfref29_Changes.l0 k x0 x1 x5 (wrap64 (x6 + 1))) else (swarfref29_Changes.l0 k x0 x1 (wrap64 (x5 + 1)) (wrap64 (x6 + 1)))) else (none)) else (none)) else (none)) else (none)) else (none)) else (none)) else (none)) else (none)) else (swarfref29_Changes.l0 k x0 x1 x5 (wrap64 (x6 + 1))))
end
def swarfref29_Changes.f (k : Nat) (l0 : List Int) (l1 : List Int) : Option (Int) := swarfref29_Changes.l0 k l0 l1 0 0
theorem swarfref29_Changes.mono_l : ∀ k, (∀ y0 y1 y2 y3, LeO (swarfref29_Changes.l0 k y0 y1 y2 y3) (swarfref29_Changes.l0 (k + 1) y0 y1 y2 y3)) ∧ (∀ y0 y1 y2 y3 y4, LeO (swarfref29_Changes.j1 k y0 y1 y2 y3 y4) (swarfref29_Changes.j1 (k + 1) y0 y1 y2 y3 y4))
 | 0 => ⟨fun _ _ _ _ r h => by simp [swarfref29_Changes.l0] at h, fun _ _ _ _ _ r h => by simp [swarfref29_Changes.j1] at h⟩
 | k + 1 => by
  obtain ⟨ih0, ih1⟩ := swarfref29_Changes.mono_l k
  refine ⟨?_, ?_⟩
  ·intro y0 y1 y2 y3
   unfold swarfref29_Changes.l0
   repeat' first
   | (with_reducible exact ih0 _ _ _ _)
   | (with_reducible exact ih1 _ _ _ _ _)
   | (with_reducible exact LeO.refl _)
   | (with_reducible exact LeO.none _)
   | (with_reducible refine LeO.ite ?_ ?_)
   | (with_reducible refine LeO.bind ?_ (fun _ => ?_))
   | exact ih0 _ _ _ _
   | exact ih1 _ _ _ _ _
   | exact LeO.none _
   | refine LeO.ite ?_ ?_
   | refine LeO.bind ?_ (fun _ => ?_)
  ·intro y0 y1 y2 y3 y4
   unfold swarfref29_Changes.j1
   repeat' first
   | (with_reducible exact ih0 _ _ _ _)
   | (with_reducible exact ih1 _ _ _ _ _)
   | (with_reducible exact LeO.refl _)
   | (with_reducible exact LeO.none _)
   | (with_reducible refine LeO.ite ?_ ?_)
   | (with_reducible refine LeO.bind ?_ (fun _ => ?_))
   | exact ih0 _ _ _ _
   | exact ih1 _ _ _ _ _
   | exact LeO.none _
   | refine LeO.ite ?_ ?_
   | refine LeO.bind ?_ (fun _ => ?_)
theorem swarfref29_Changes.mono : ∀ a0 a1 k, LeO (swarfref29_Changes.f k a0 a1) (swarfref29_Changes.f (k + 1) a0 a1) := by
 intro a0 a1 k
 obtain ⟨ih0, ih1⟩ := swarfref29_Changes.mono_l k
 unfold swarfref29_Changes.f
 repeat' first
   | (with_reducible exact ih0 _ _ _ _)
   | (with_reducible exact ih1 _ _ _ _ _)
   | (with_reducible exact LeO.refl _)
   | (with_reducible exact LeO.none _)
   | (with_reducible refine LeO.ite ?_ ?_)
   | (with_reducible refine LeO.bind ?_ (fun _ => ?_))
   | exact ih0 _ _ _ _
   | exact ih1 _ _ _ _ _
   | exact LeO.none _
   | refine LeO.ite ?_ ?_
   | refine LeO.bind ?_ (fun _ => ?_)
set_option maxHeartbeats 8000000 in
set_option maxRecDepth 100000 in
theorem swarfref29_Changes.calls (k : Nat) (A0 : Option Addr) (c0 : Nat) (l0 : List Int) (A1 : Option Addr) (c1 : Nat) (l1 : List Int) (r : Int) (w : World) (hr0 : Kd.C (Kd.int .i64) w A0 l0.length l0) (hc0 : l0.length ≤ c0) (hr1 : Kd.C (Kd.int .i64) w A1 l1.length l1) (hc1 : l1.length ≤ c1) (h : swarfref29_Changes.f k l0 l1 = some r) :
  Calls Try.prog 30 #[.slice A0 l0.length c0, .slice A1 l1.length c1] w fun e w' => e = .returned (.int .i64 r) ∧ Drawn0 w w' := by
 have HR0 := Aside0.mk hr0
 have HC0 := Aside0.mk hc0
 clear hr0 hc0
 have HR1 := Aside0.mk hr1
 have HC1 := Aside0.mk hc1
 clear hr1 hc1
 have H : (swarfref29_Changes.l0 k l0 l1 0 0) = some r := h
 clear h
 have H' := Aside0.mk H
 clear H
 go_enter Try.func30, Try.ntmps30
 go_wp2
 repeat (go_quiet (fail); try go_wp2)
 go_loopg [5, 6] k (fun kq v5 v6 w' => ∃ (x5_1 : Int) (x6_1 : Int), v5 = .int .i64 x5_1 ∧ v6 = .int .i64 x6_1 ∧ Aside0 (swarfref29_Changes.l0 kq l0 l1 x5_1 x6_1 = some r) ∧ Aside0 (kq ≤ k) ∧ Drawn0 w w')
 case atStart => exact ⟨(0), (0), (by first | rfl | (simp; done) | (simp [*]; done)), (by first | rfl | (simp; done) | (simp [*]; done)), H', ⟨Nat.le_refl _⟩, by repeat (first | exact Drawn0.refl _ | apply Drawn0.step)⟩
 case round =>
  clear H'; try clear c1; try clear p2
  obtain ⟨x5_1, x6_1, rfl, rfl, HA, HK1, ⟨m1, rfl⟩⟩ := hrel
  cases gk with
  | zero => exact absurd HA.out (by simp [swarfref29_Changes.l0])
  | succ k1 =>
   have H := HA.out
   clear HA
   simp only [swarfref29_Changes.l0] at H
   by_cases c3 : x6_1 < (l0.length : Int)
   ·rw [if_pos c3] at H
    have c3b0 : decide (x6_1 < (l0.length : Int)) = true := decide_eq_true c3
    clear c3; have HC4 := Aside0.mk H; clear H
    go_upto_region 5 with (fail)
    repeat (go_quiet (fail); go_upto_region 5 with (fail))
    go_cut [26] (fun v26 wc => ∃ (kq : Nat) (x26_3 : Bool), v26 = .bool x26_3 ∧ Aside0 (swarfref29_Changes.j1 kq l0 l1 x5_1 x6_1 x26_3 = some r) ∧ Aside0 (kq ≤ k1) ∧ Drawn0 w wc)
    case first =>
     have H := HC4.out
     clear HC4
     by_cases c5 : 0 ≤ x6_1
     ·rw [if_pos c5] at H
      have c5b0 : decide (0 ≤ x6_1) = true := decide_eq_true c5
      clear c5
      (first | rw [c5b0] | (simp only [i64_w, i32_w]; rw [c5b0]) | skip)
      by_cases c6 : (rd l0 x6_1) < 0
      ·rw [if_pos c6] at H
       have c6b0 : decide ((rd l0 x6_1) < 0) = true := decide_eq_true c6
       clear c6; have H' := Aside0.mk H; clear H
       have p349 : 0 ≤ (x6_1 : Int) := of_decide_eq_true (by first | (with_reducible assumption) | assumption)
       have q349 : x6_1 < (l0.length : Int) := of_decide_eq_true (by first | (with_reducible assumption) | assumption)
       obtain ⟨ad349, e349, hx349_0⟩ := Kd.at_int HR0.out x6_1 p349 q349
       cases e349; replace p349 := eq_true p349; replace q349 := eq_true q349; go_wp2
       repeat (go_quiet (fail); try go_wp2)
       go_meet
       case rel => exact ⟨_, (true), (by first | rfl | (simp; done) | (simp [*]; done)), H', ⟨by have := HK1.out; first | omega | exact Nat.le_refl _⟩, by repeat (first | exact Drawn0.refl _ | apply Drawn0.step)⟩
      ·rw [if_neg c6] at H
       have c6b0 : decide ((rd l0 x6_1) < 0) = false := decide_eq_false c6
       clear c6; have H' := Aside0.mk H; clear H
       have p349 : 0 ≤ (x6_1 : Int) := of_decide_eq_true (by first | (with_reducible assumption) | assumption)
       have q349 : x6_1 < (l0.length : Int) := of_decide_eq_true (by first | (with_reducible assumption) | assumption)
       obtain ⟨ad349, e349, hx349_0⟩ := Kd.at_int HR0.out x6_1 p349 q349
       cases e349; replace p349 := eq_true p349; replace q349 := eq_true q349
       have p350 : 0 ≤ (x6_1 : Int) := of_decide_eq_true (by first | (with_reducible assumption) | assumption)
       have q350 : x6_1 < (l0.length : Int) := of_decide_eq_true (by first | (with_reducible assumption) | assumption)
       obtain ⟨ad350, e350, hx350_0⟩ := Kd.at_int HR0.out x6_1 p350 q350
       obtain rfl : ad349 = ad350 := (by injection e350)
       replace p350 := eq_true p350; replace q350 := eq_true q350; go_wp2
       repeat (go_quiet (fail); try go_wp2)
       go_meet
       case rel => exact ⟨_, (decide ((rd l0 x6_1) ≥ (l1.length : Int))), (by first | rfl | (simp; done) | (simp [*]; done)), H', ⟨by have := HK1.out; first | omega | exact Nat.le_refl _⟩, by repeat (first | exact Drawn0.refl _ | apply Drawn0.step)⟩
     ·rw [if_neg c5] at H
      exact absurd H (by simp)
    case rest =>
     clear HC4; try clear c1; try clear p2; try clear c3; try clear c3b0; try clear p3; try clear q3; try clear hx3; try clear c5; try clear c5b0; try clear c6; try clear c6b0; try clear hx349_0; try clear hx350_0; try clear p2; try clear p349; try clear p350; try clear q349; try clear q350
     obtain ⟨kq, x26_3, rfl, HA, HJ3, ⟨mc3, rfl⟩⟩ := hcut
     cases kq with
     | zero => exact absurd HA.out (by simp [swarfref29_Changes.j1])
     | succ kj3 =>
      have H := HA.out
      clear HA
      simp only [swarfref29_Changes.j1] at H
      by_cases c7 : x26_3 = true
      ·subst c7
       have H1 : (some (-1)) = some r := by rw [if_pos rfl] at H; exact H
       clear H; have H := H1; clear H1; obtain rfl := Option.some.inj H; go_wp2
       repeat (go_quiet (fail); try go_wp2)
       go_ret
       exact ⟨by first | rfl | (simp; done) | (simp [*]; done), by repeat (first | exact Drawn0.refl _ | apply Drawn0.step)⟩
      ·replace c7 := Bool.eq_false_iff.mpr c7
       subst c7
       have H1 : (if x6_1 > 0 then (if 0 ≤ x6_1 then (if x6_1 < (l0.length : Int) then (if 0 ≤ (rd l0 x6_1) then (if (rd l0 x6_1) < (l1.length : Int) then (if 0 ≤ (wrap64 (x6_1 - 1)) then (if (wrap64 (x6_1 - 1)) < (l0.length : Int) then (if 0 ≤ (rd l0 (wrap64 (x6_1 - 1))) then (if (rd l0 (wrap64 (x6_1 - 1))) < (l1.length : Int) then (if (rd l1 (rd l0 x6_1)) = (rd l1 (rd l0 (wrap64 (x6_1 - 1)))) then (swarfref29_Changes.l0 kj3 l0 l1 x5_1 (wrap64 (x6_1 + 1))) else (swarfref29_Changes.l0 kj3 l0 l1 (wrap64 (x5_1 + 1)) (wrap64 (x6_1 + 1)))) else (none)) else (none)) else (none)) else (none)) else (none)) else (none)) else (none)) else (none)) else (swarfref29_Changes.l0 kj3 l0 l1 x5_1 (wrap64 (x6_1 + 1)))) = some r := by rw [if_neg (show ¬ (false = true) by decide)] at H; exact H
       clear H; have H := H1; clear H1
       by_cases c8 : x6_1 > 0
       ·rw [if_pos c8] at H
        have c8b0 : decide (0 < x6_1) = true := decide_eq_true c8
        clear c8
        by_cases c9 : 0 ≤ x6_1
        ·rw [if_pos c9] at H
         have c9b0 : decide (0 ≤ x6_1) = true := decide_eq_true c9
         clear c9
         by_cases c10 : x6_1 < (l0.length : Int)
         ·rw [if_pos c10] at H
          have c10b0 : decide (x6_1 < (l0.length : Int)) = true := decide_eq_true c10
          clear c10
          by_cases c11 : 0 ≤ (rd l0 x6_1)
          ·rw [if_pos c11] at H
           have c11b0 : decide (0 ≤ (rd l0 x6_1)) = true := decide_eq_true c11
           clear c11
           by_cases c12 : (rd l0 x6_1) < (l1.length : Int)
           ·rw [if_pos c12] at H
            have c12b0 : decide ((rd l0 x6_1) < (l1.length : Int)) = true := decide_eq_true c12
            clear c12
            obtain ⟨ji13, hji13⟩ : ∃ j_ : Int, (wrap64 (x6_1 - 1)) = j_ := ⟨_, rfl⟩
            replace H : (if 0 ≤ (ji13) then (if (ji13) < (l0.length : Int) then (if 0 ≤ (rd l0 (ji13)) then (if (rd l0 (ji13)) < (l1.length : Int) then (if (rd l1 (rd l0 x6_1)) = (rd l1 (rd l0 (ji13))) then (swarfref29_Changes.l0 kj3 l0 l1 x5_1 (wrap64 (x6_1 + 1))) else (swarfref29_Changes.l0 kj3 l0 l1 (wrap64 (x5_1 + 1)) (wrap64 (x6_1 + 1)))) else (none)) else (none)) else (none)) else (none)) = some r := by first | (rw [hji13] at H; exact H) | (simp only [hji13] at H ⊢; exact H)
            have hji13w : (IntKind.i64.wrap (x6_1 - 1)) = ji13 := (i64_w _).trans hji13
            by_cases c14 : 0 ≤ (ji13)
            ·rw [if_pos c14] at H
             have c14b0 : decide (0 ≤ (ji13)) = true := decide_eq_true c14
             clear c14
             by_cases c15 : (ji13) < (l0.length : Int)
             ·rw [if_pos c15] at H
              have c15b0 : decide ((ji13) < (l0.length : Int)) = true := decide_eq_true c15
              clear c15
              by_cases c16 : 0 ≤ (rd l0 (ji13))
              ·rw [if_pos c16] at H
               have c16b0 : decide (0 ≤ (rd l0 (ji13))) = true := decide_eq_true c16
               clear c16
               by_cases c17 : (rd l0 (ji13)) < (l1.length : Int)
               ·rw [if_pos c17] at H
                have c17b0 : decide ((rd l0 (ji13)) < (l1.length : Int)) = true := decide_eq_true c17
                clear c17
                by_cases c18 : (rd l1 (rd l0 x6_1)) = (rd l1 (rd l0 (ji13)))
                ·rw [if_pos c18] at H
                 have c18b0 : ((rd l1 (rd l0 x6_1)) == (rd l1 (rd l0 (ji13)))) = true := beq_iff_eq.mpr c18
                 have c18b1 : ((rd l1 (rd l0 x6_1)) != (rd l1 (rd l0 (ji13)))) = false := bne_eq_false_iff_eq.mpr c18
                 clear c18; have H' := Aside0.mk H; clear H
                 have p351 : 0 ≤ (x6_1 : Int) := of_decide_eq_true (by first | (with_reducible assumption) | assumption)
                 have q351 : x6_1 < (l0.length : Int) := of_decide_eq_true (by first | (with_reducible assumption) | assumption)
                 obtain ⟨ad351, e351, hx351_0⟩ := Kd.at_int HR0.out x6_1 p351 q351
                 cases e351; replace p351 := eq_true p351; replace q351 := eq_true q351
                 have p352 : 0 ≤ ((rd l0 x6_1) : Int) := of_decide_eq_true (by first | (with_reducible assumption) | assumption)
                 have q352 : (rd l0 x6_1) < (l1.length : Int) := of_decide_eq_true (by first | (with_reducible assumption) | assumption)
                 obtain ⟨ad352, e352, hx352_0⟩ := Kd.at_int HR1.out (rd l0 x6_1) p352 q352
                 cases e352; replace p352 := eq_true p352; replace q352 := eq_true q352
                 have p353 : 0 ≤ ((ji13) : Int) := of_decide_eq_true (by first | (with_reducible assumption) | assumption)
                 have q353 : (ji13) < (l0.length : Int) := of_decide_eq_true (by first | (with_reducible assumption) | assumption)
                 obtain ⟨ad353, e353, hx353_0⟩ := Kd.at_int HR0.out (ji13) p353 q353
                 obtain rfl : ad351 = ad353 := (by injection e353)
                 replace p353 := eq_true p353; replace q353 := eq_true q353
                 have p354 : 0 ≤ ((rd l0 (ji13)) : Int) := of_decide_eq_true (by first | (with_reducible assumption) | assumption)
                 have q354 : (rd l0 (ji13)) < (l1.length : Int) := of_decide_eq_true (by first | (with_reducible assumption) | assumption)
                 obtain ⟨ad354, e354, hx354_0⟩ := Kd.at_int HR1.out (rd l0 (ji13)) p354 q354
                 obtain rfl : ad352 = ad354 := (by injection e354)
                 replace p354 := eq_true p354; replace q354 := eq_true q354; go_wp2
                 repeat (go_quiet (fail); try go_wp2)
                 go_roundg kj3
                 case measure => have := HK1.out; have := HJ3.out; omega
                 case rel => exact ⟨(x5_1), (wrap64 (x6_1 + 1)), (by first | rfl | (simp; done) | (simp [*]; done)), (by first | rfl | (simp; done) | (simp [*]; done)), H', ⟨by have := HK1.out; have := HJ3.out; omega⟩, by repeat (first | exact Drawn0.refl _ | apply Drawn0.step)⟩
                ·rw [if_neg c18] at H
                 have c18b0 : ((rd l1 (rd l0 x6_1)) == (rd l1 (rd l0 (ji13)))) = false := beq_eq_false_iff_ne.mpr c18
                 have c18b1 : ((rd l1 (rd l0 x6_1)) != (rd l1 (rd l0 (ji13)))) = true := bne_iff_ne.mpr c18
                 have H' := Aside0.mk H; clear H
                 have p351 : 0 ≤ (x6_1 : Int) := of_decide_eq_true (by first | (with_reducible assumption) | assumption)
                 have q351 : x6_1 < (l0.length : Int) := of_decide_eq_true (by first | (with_reducible assumption) | assumption)
                 obtain ⟨ad351, e351, hx351_0⟩ := Kd.at_int HR0.out x6_1 p351 q351
                 cases e351; replace p351 := eq_true p351; replace q351 := eq_true q351
                 have p352 : 0 ≤ ((rd l0 x6_1) : Int) := of_decide_eq_true (by first | (with_reducible assumption) | assumption)
                 have q352 : (rd l0 x6_1) < (l1.length : Int) := of_decide_eq_true (by first | (with_reducible assumption) | assumption)
                 obtain ⟨ad352, e352, hx352_0⟩ := Kd.at_int HR1.out (rd l0 x6_1) p352 q352
                 cases e352; replace p352 := eq_true p352; replace q352 := eq_true q352
                 have p353 : 0 ≤ ((ji13) : Int) := of_decide_eq_true (by first | (with_reducible assumption) | assumption)
                 have q353 : (ji13) < (l0.length : Int) := of_decide_eq_true (by first | (with_reducible assumption) | assumption)
                 obtain ⟨ad353, e353, hx353_0⟩ := Kd.at_int HR0.out (ji13) p353 q353
                 obtain rfl : ad351 = ad353 := (by injection e353)
                 replace p353 := eq_true p353; replace q353 := eq_true q353
                 have p354 : 0 ≤ ((rd l0 (ji13)) : Int) := of_decide_eq_true (by first | (with_reducible assumption) | assumption)
                 have q354 : (rd l0 (ji13)) < (l1.length : Int) := of_decide_eq_true (by first | (with_reducible assumption) | assumption)
                 obtain ⟨ad354, e354, hx354_0⟩ := Kd.at_int HR1.out (rd l0 (ji13)) p354 q354
                 obtain rfl : ad352 = ad354 := (by injection e354)
                 replace p354 := eq_true p354; replace q354 := eq_true q354; go_wp2
                 repeat (go_quiet (fail); try go_wp2)
                 go_roundg kj3
                 case measure => have := HK1.out; have := HJ3.out; omega
                 case rel => exact ⟨(wrap64 (x5_1 + 1)), (wrap64 (x6_1 + 1)), (by first | rfl | (simp; done) | (simp [*]; done)), (by first | rfl | (simp; done) | (simp [*]; done)), H', ⟨by have := HK1.out; have := HJ3.out; omega⟩, by repeat (first | exact Drawn0.refl _ | apply Drawn0.step)⟩
               ·rw [if_neg c17] at H
                exact absurd H (by simp)
              ·rw [if_neg c16] at H
               exact absurd H (by simp)
             ·rw [if_neg c15] at H
              exact absurd H (by simp)
            ·rw [if_neg c14] at H
             exact absurd H (by simp)
           ·rw [if_neg c12] at H
            exact absurd H (by simp)
          ·rw [if_neg c11] at H
           exact absurd H (by simp)
         ·rw [if_neg c10] at H
          exact absurd H (by simp)
        ·rw [if_neg c9] at H
         exact absurd H (by simp)
       ·rw [if_neg c8] at H
        have c8b0 : decide (0 < x6_1) = false := decide_eq_false c8
        clear c8; have H' := Aside0.mk H; clear H; go_wp2
        repeat (go_quiet (fail); try go_wp2)
        go_roundg kj3
        case measure => have := HK1.out; have := HJ3.out; omega
        case rel => exact ⟨(x5_1), (wrap64 (x6_1 + 1)), (by first | rfl | (simp; done) | (simp [*]; done)), (by first | rfl | (simp; done) | (simp [*]; done)), H', ⟨by have := HK1.out; have := HJ3.out; omega⟩, by repeat (first | exact Drawn0.refl _ | apply Drawn0.step)⟩
   ·rw [if_neg c3] at H
    have c3b0 : decide (x6_1 < (l0.length : Int)) = false := decide_eq_false c3
    clear c3; obtain rfl := Option.some.inj H; go_wp2
    repeat (go_quiet (fail); try go_wp2)
    go_ret
    exact ⟨by first | rfl | (simp; done) | (simp [*]; done), by repeat (first | exact Drawn0.refl _ | apply Drawn0.step)⟩

end Go.Proofs.Ytbbkclcfmcjlgaa.P

-- PRINTED by print.py (a twelfth state) out of the translation. Not trusted: Lean checks it.

namespace Go.Proofs.Ytbbkclcfmcjlgaa.P
open Go.RowKit Go.Proofs.YtbbkclcfmcjlgaaW.PrintWords Go.Proofs.YtbbkclcfmcjlgaaW.PrintLast Go.Proofs.YtbbkclcfmcjlgaaW.PrintMore
attribute [local go_sem] max2_int min2_int max_two min_two max_three min_three max_four min_four   -- for this text's walks alone
set_option linter.unusedVariables false
set_option linter.unusedSimpArgs false

/-! ### precedence_Changes: function 31 -/
mutual
def precedence_Changes.l0 : Nat → List Int → List Int → Int → List Int → Int → Int → Option (Int)
 | 0, _, _, _, _, _, _ => none
 | k + 1, x0, x1, x5, x8, x9, x10 => if x10 < x9 then (if 0 ≤ x10 then (if x10 < (x8.length : Int) then (if (rd x8 x10) < 0 then (precedence_Changes.j1 k x0 x1 x5 x10 (rd x8 x10) x8 x9 x10 true) else (precedence_Changes.j1 k x0 x1 x5 x10 (rd x8 x10) x8 x9 x10 (decide ((rd x8 x10) ≥ (x1.length : Int))))) else (none)) else (none)) else (some x5)
def precedence_Changes.j1 : Nat → List Int → List Int → Int → Int → Int → List Int → Int → Int → Bool → Option (Int)
 | 0, _, _, _, _, _, _, _, _, _ => none
 | k + 1, x0, x1, x5, x6, x7, x8, x9, x10, x22 => if x22 = true then (some (-1)) else (if x6 > 0 then (if 0 ≤ (wrap64 (x6 - 1)) then (if (wrap64 (x6 - 1)) < (x0.length : Int) then (if 0 ≤ (rd x0 (wrap64 (x6 - 1))) then (if (rd x0 (wrap64 (x6 - 1))) < (x1.length : Int) then (if 0 ≤ x7 then (if x7 < (x1.length : Int) then (if (rd x1 (rd x0 (wrap64 (x6 - 1)))) = (rd x1 x7) then (precedence_Changes.l0 k x0 x1 x5 x8 x9 (wrap64 (x10 + 1))) else (precedence_Changes.l0 k x0 x1 (wrap64 (x5 + 1)) x8 x9 (wrap64 (x10 + 1)))) else (none)) else (none)) else (none)) else (none)) else (none)) else (none)) else (precedence_Changes.l0 k x0 x1 x5 x8 x9 (wrap64 (x10 + 1))))
end
def precedence_Changes.f (k : Nat) (l0 : List Int) (l1 : List Int) : Option (Int) := precedence_Changes.l0 k l0 l1 0 l0 (l0.length : Int) 0
theorem precedence_Changes.mono_l : ∀ k, (∀ y0 y1 y2 y3 y4 y5, LeO (precedence_Changes.l0 k y0 y1 y2 y3 y4 y5) (precedence_Changes.l0 (k + 1) y0 y1 y2 y3 y4 y5)) ∧ (∀ y0 y1 y2 y3 y4 y5 y6 y7 y8, LeO (precedence_Changes.j1 k y0 y1 y2 y3 y4 y5 y6 y7 y8) (precedence_Changes.j1 (k + 1) y0 y1 y2 y3 y4 y5 y6 y7 y8))
 | 0 => ⟨fun _ _ _ _ _ _ r h => by simp [precedence_Changes.l0] at h, fun _ _ _ _ _ _ _ _ _ r h => by simp [precedence_Changes.j1] at h⟩
 | k + 1 => by
  obtain ⟨ih0, ih1⟩ := precedence_Changes.mono_l k
  refine ⟨?_, ?_⟩
  ·intro y0 y1 y2 y3 y4 y5
   unfold precedence_Changes.l0
   repeat' first
   | (with_reducible exact ih0 _ _ _ _ _ _)
   | (with_reducible exact ih1 _ _ _ _ _ _ _ _ _)
   | (with_reducible exact LeO.refl _)
   | (with_reducible exact LeO.none _)
   | (with_reducible refine LeO.ite ?_ ?_)
   | (with_reducible refine LeO.bind ?_ (fun _ => ?_))
   | exact ih0 _ _ _ _ _ _
   | exact ih1 _ _ _ _ _ _ _ _ _
   | exact LeO.none _
   | refine LeO.ite ?_ ?_
   | refine LeO.bind ?_ (fun _ => ?_)
  ·intro y0 y1 y2 y3 y4 y5 y6 y7 y8
   unfold precedence_Changes.j1
   repeat' first
   | (with_reducible exact ih0 _ _ _ _ _ _)
   | (with_reducible exact ih1 _ _ _ _ _ _ _ _ _)
   | (with_reducible exact LeO.refl _)
   | (with_reducible exact LeO.none _)
   | (with_reducible refine LeO.ite ?_ ?_)
   | (with_reducible refine LeO.bind ?_ (fun _ => ?_))
   | exact ih0 _ _ _ _ _ _
   | exact ih1 _ _ _ _ _ _ _ _ _
   | exact LeO.none _
   | refine LeO.ite ?_ ?_
   | refine LeO.bind ?_ (fun _ => ?_)
theorem precedence_Changes.mono : ∀ a0 a1 k, LeO (precedence_Changes.f k a0 a1) (precedence_Changes.f (k + 1) a0 a1) := by
 intro a0 a1 k
 obtain ⟨ih0, ih1⟩ := precedence_Changes.mono_l k
 unfold precedence_Changes.f
 repeat' first
   | (with_reducible exact ih0 _ _ _ _ _ _)
   | (with_reducible exact ih1 _ _ _ _ _ _ _ _ _)
   | (with_reducible exact LeO.refl _)
   | (with_reducible exact LeO.none _)
   | (with_reducible refine LeO.ite ?_ ?_)
   | (with_reducible refine LeO.bind ?_ (fun _ => ?_))
   | exact ih0 _ _ _ _ _ _
   | exact ih1 _ _ _ _ _ _ _ _ _
   | exact LeO.none _
   | refine LeO.ite ?_ ?_
   | refine LeO.bind ?_ (fun _ => ?_)
set_option maxHeartbeats 8000000 in
set_option maxRecDepth 100000 in
theorem precedence_Changes.calls (k : Nat) (A0 : Option Addr) (c0 : Nat) (l0 : List Int) (A1 : Option Addr) (c1 : Nat) (l1 : List Int) (r : Int) (w : World) (hr0 : Kd.C (Kd.int .i64) w A0 l0.length l0) (hc0 : l0.length ≤ c0) (hr1 : Kd.C (Kd.int .i64) w A1 l1.length l1) (hc1 : l1.length ≤ c1) (h : precedence_Changes.f k l0 l1 = some r) :
  Calls Try.prog 31 #[.slice A0 l0.length c0, .slice A1 l1.length c1] w fun e w' => e = .returned (.int .i64 r) ∧ Drawn0 w w' := by
 have HR0 := Aside0.mk hr0
 have HC0 := Aside0.mk hc0
 clear hr0 hc0
 have HR1 := Aside0.mk hr1
 have HC1 := Aside0.mk hc1
 clear hr1 hc1
 have H : (precedence_Changes.l0 k l0 l1 0 l0 (l0.length : Int) 0) = some r := h
 clear h
 have H' := Aside0.mk H
 clear H
 go_enter Try.func31, Try.ntmps31
 go_wp2
 repeat (go_quiet (fail); try go_wp2)
 go_loopg [5, 10] k (fun kq v5 v10 w' => ∃ (x5_1 : Int) (x10_1 : Int), v5 = .int .i64 x5_1 ∧ v10 = .int .i64 x10_1 ∧ Aside0 (precedence_Changes.l0 kq l0 l1 x5_1 l0 (l0.length : Int) x10_1 = some r) ∧ Aside0 (kq ≤ k) ∧ Drawn0 w w')
 case atStart => exact ⟨(0), (0), (by first | rfl | (simp; done) | (simp [*]; done)), (by first | rfl | (simp; done) | (simp [*]; done)), H', ⟨Nat.le_refl _⟩, by repeat (first | exact Drawn0.refl _ | apply Drawn0.step)⟩
 case round =>
  clear H'; try clear c1; try clear p2
  obtain ⟨x5_1, x10_1, rfl, rfl, HA, HK1, ⟨m1, rfl⟩⟩ := hrel
  cases gk with
  | zero => exact absurd HA.out (by simp [precedence_Changes.l0])
  | succ k1 =>
   have H := HA.out
   clear HA
   simp only [precedence_Changes.l0] at H
   by_cases c3 : x10_1 < (l0.length : Int)
   ·rw [if_pos c3] at H
    have c3b0 : decide (x10_1 < (l0.length : Int)) = true := decide_eq_true c3
    clear c3
    by_cases c4 : 0 ≤ x10_1
    ·rw [if_pos c4] at H
     have c4b0 : decide (0 ≤ x10_1) = true := decide_eq_true c4
     clear c4
     by_cases c5 : x10_1 < (l0.length : Int)
     ·rw [if_pos c5] at H
      have c5b0 : decide (x10_1 < (l0.length : Int)) = true := decide_eq_true c5
      clear c5; have HC6 := Aside0.mk H; clear H
      have p395 : 0 ≤ (x10_1 : Int) := of_decide_eq_true (by first | (with_reducible assumption) | assumption)
      have q395 : x10_1 < (l0.length : Int) := of_decide_eq_true (by first | (with_reducible assumption) | assumption)
      obtain ⟨ad395, e395, hx395_0⟩ := Kd.at_int HR0.out x10_1 p395 q395
      cases e395; replace p395 := eq_true p395; replace q395 := eq_true q395
      go_upto_region 5 with (fail)
      repeat (go_quiet (fail); go_upto_region 5 with (fail))
      go_cut [22] (fun v22 wc => ∃ (kq : Nat) (x22_5 : Bool), v22 = .bool x22_5 ∧ Aside0 (precedence_Changes.j1 kq l0 l1 x5_1 x10_1 (rd l0 x10_1) l0 (l0.length : Int) x10_1 x22_5 = some r) ∧ Aside0 (kq ≤ k1) ∧ Drawn0 w wc)
      case first =>
       have H := HC6.out
       clear HC6
       by_cases c7 : (rd l0 x10_1) < 0
       ·rw [if_pos c7] at H
        have c7b0 : decide ((rd l0 x10_1) < 0) = true := decide_eq_true c7
        clear c7
        (first | rw [c7b0] | (simp only [i64_w, i32_w]; rw [c7b0]) | skip)
        have H' := Aside0.mk H; clear H; go_wp2
        repeat (go_quiet (fail); try go_wp2)
        go_meet
        case rel => exact ⟨_, (true), (by first | rfl | (simp; done) | (simp [*]; done)), H', ⟨by have := HK1.out; first | omega | exact Nat.le_refl _⟩, by repeat (first | exact Drawn0.refl _ | apply Drawn0.step)⟩
       ·rw [if_neg c7] at H
        have c7b0 : decide ((rd l0 x10_1) < 0) = false := decide_eq_false c7
        clear c7
        (first | rw [c7b0] | (simp only [i64_w, i32_w]; rw [c7b0]) | skip)
        have H' := Aside0.mk H; clear H; go_wp2
        repeat (go_quiet (fail); try go_wp2)
        go_meet
        case rel => exact ⟨_, (decide ((rd l0 x10_1) ≥ (l1.length : Int))), (by first | rfl | (simp; done) | (simp [*]; done)), H', ⟨by have := HK1.out; first | omega | exact Nat.le_refl _⟩, by repeat (first | exact Drawn0.refl _ | apply Drawn0.step)⟩
      case rest =>
       clear HC6; try clear c1; try clear p2; try clear c3; try clear c3b0; try clear p3; try clear q3; try clear hx3; try clear c4; try clear c4b0; try clear c5; try clear c5b0; try clear c7; try clear c7b0; try clear hx395_0; try clear p2; try clear p395; try clear q395
       obtain ⟨kq, x22_5, rfl, HA, HJ5, ⟨mc5, rfl⟩⟩ := hcut
       cases kq with
       | zero => exact absurd HA.out (by simp [precedence_Changes.j1])
       | succ kj5 =>
        have H := HA.out
        clear HA
        simp only [precedence_Changes.j1] at H
        by_cases c8 : x22_5 = true
        ·subst c8
         have H1 : (some (-1)) = some r := by rw [if_pos rfl] at H; exact H
         clear H; have H := H1; clear H1; obtain rfl := Option.some.inj H; go_wp2
         repeat (go_quiet (fail); try go_wp2)
         go_ret
         exact ⟨by first | rfl | (simp; done) | (simp [*]; done), by repeat (first | exact Drawn0.refl _ | apply Drawn0.step)⟩
        ·replace c8 := Bool.eq_false_iff.mpr c8
         subst c8
         have H1 : (if x10_1 > 0 then (if 0 ≤ (wrap64 (x10_1 - 1)) then (if (wrap64 (x10_1 - 1)) < (l0.length : Int) then (if 0 ≤ (rd l0 (wrap64 (x10_1 - 1))) then (if (rd l0 (wrap64 (x10_1 - 1))) < (l1.length : Int) then (if 0 ≤ (rd l0 x10_1) then (if (rd l0 x10_1) < (l1.length : Int) then (if (rd l1 (rd l0 (wrap64 (x10_1 - 1)))) = (rd l1 (rd l0 x10_1)) then (precedence_Changes.l0 kj5 l0 l1 x5_1 l0 (l0.length : Int) (wrap64 (x10_1 + 1))) else (precedence_Changes.l0 kj5 l0 l1 (wrap64 (x5_1 + 1)) l0 (l0.length : Int) (wrap64 (x10_1 + 1)))) else (none)) else (none)) else (none)) else (none)) else (none)) else (none)) else (precedence_Changes.l0 kj5 l0 l1 x5_1 l0 (l0.length : Int) (wrap64 (x10_1 + 1)))) = some r := by rw [if_neg (show ¬ (false = true) by decide)] at H; exact H
         clear H; have H := H1; clear H1
         by_cases c9 : x10_1 > 0
         ·rw [if_pos c9] at H
          have c9b0 : decide (0 < x10_1) = true := decide_eq_true c9
          clear c9
          obtain ⟨ji10, hji10⟩ : ∃ j_ : Int, (wrap64 (x10_1 - 1)) = j_ := ⟨_, rfl⟩
          replace H : (if 0 ≤ (ji10) then (if (ji10) < (l0.length : Int) then (if 0 ≤ (rd l0 (ji10)) then (if (rd l0 (ji10)) < (l1.length : Int) then (if 0 ≤ (rd l0 x10_1) then (if (rd l0 x10_1) < (l1.length : Int) then (if (rd l1 (rd l0 (ji10))) = (rd l1 (rd l0 x10_1)) then (precedence_Changes.l0 kj5 l0 l1 x5_1 l0 (l0.length : Int) (wrap64 (x10_1 + 1))) else (precedence_Changes.l0 kj5 l0 l1 (wrap64 (x5_1 + 1)) l0 (l0.length : Int) (wrap64 (x10_1 + 1)))) else (none)) else (none)) else (none)) else (none)) else (none)) else (none)) = some r := by first | (rw [hji10] at H; exact H) | (simp only [hji10] at H ⊢; exact H)
          have hji10w : (IntKind.i64.wrap (x10_1 - 1)) = ji10 := (i64_w _).trans hji10
          by_cases c11 : 0 ≤ (ji10)
          ·rw [if_pos c11] at H
           have c11b0 : decide (0 ≤ (ji10)) = true := decide_eq_true c11
           clear c11
           by_cases c12 : (ji10) < (l0.length : Int)
           ·rw [if_pos c12] at H
            have c12b0 : decide ((ji10) < (l0.length : Int)) = true := decide_eq_true c12
            clear c12
            by_cases c13 : 0 ≤ (rd l0 (ji10))
            ·rw [if_pos c13] at H
             have c13b0 : decide (0 ≤ (rd l0 (ji10))) = true := decide_eq_true c13
             clear c13
             by_cases c14 : (rd l0 (ji10)) < (l1.length : Int)
             ·rw [if_pos c14] at H
              have c14b0 : decide ((rd l0 (ji10)) < (l1.length : Int)) = true := decide_eq_true c14
              clear c14
              by_cases c15 : 0 ≤ (rd l0 x10_1)
              ·rw [if_pos c15] at H
               have c15b0 : decide (0 ≤ (rd l0 x10_1)) = true := decide_eq_true c15
               clear c15
               by_cases c16 : (rd l0 x10_1) < (l1.length : Int)
               ·rw [if_pos c16] at H
                have c16b0 : decide ((rd l0 x10_1) < (l1.length : Int)) = true := decide_eq_true c16
                clear c16
                by_cases c17 : (rd l1 (rd l0 (ji10))) = (rd l1 (rd l0 x10_1))
                ·rw [if_pos c17] at H
                 have c17b0 : ((rd l1 (rd l0 (ji10))) == (rd l1 (rd l0 x10_1))) = true := beq_iff_eq.mpr c17
                 have c17b1 : ((rd l1 (rd l0 (ji10))) != (rd l1 (rd l0 x10_1))) = false := bne_eq_false_iff_eq.mpr c17
                 clear c17; have H' := Aside0.mk H; clear H
                 have p396 : 0 ≤ ((ji10) : Int) := of_decide_eq_true (by first | (with_reducible assumption) | assumption)
                 have q396 : (ji10) < (l0.length : Int) := of_decide_eq_true (by first | (with_reducible assumption) | assumption)
                 obtain ⟨ad396, e396, hx396_0⟩ := Kd.at_int HR0.out (ji10) p396 q396
                 obtain rfl : ad395 = ad396 := (by injection e396)
                 replace p396 := eq_true p396; replace q396 := eq_true q396
                 have p397 : 0 ≤ ((rd l0 (ji10)) : Int) := of_decide_eq_true (by first | (with_reducible assumption) | assumption)
                 have q397 : (rd l0 (ji10)) < (l1.length : Int) := of_decide_eq_true (by first | (with_reducible assumption) | assumption)
                 obtain ⟨ad397, e397, hx397_0⟩ := Kd.at_int HR1.out (rd l0 (ji10)) p397 q397
                 cases e397; replace p397 := eq_true p397; replace q397 := eq_true q397
                 have p398 : 0 ≤ ((rd l0 x10_1) : Int) := of_decide_eq_true (by first | (with_reducible assumption) | assumption)
                 have q398 : (rd l0 x10_1) < (l1.length : Int) := of_decide_eq_true (by first | (with_reducible assumption) | assumption)
                 obtain ⟨ad398, e398, hx398_0⟩ := Kd.at_int HR1.out (rd l0 x10_1) p398 q398
                 obtain rfl : ad397 = ad398 := (by injection e398)
                 replace p398 := eq_true p398; replace q398 := eq_true q398; go_wp2
                 repeat (go_quiet (fail); try go_wp2)
                 go_roundg kj5
                 case measure => have := HK1.out; have := HJ5.out; omega
                 case rel => exact ⟨(x5_1), (wrap64 (x10_1 + 1)), (by first | rfl | (simp; done) | (simp [*]; done)), (by first | rfl | (simp; done) | (simp [*]; done)), H', ⟨by have := HK1.out; have := HJ5.out; omega⟩, by repeat (first | exact Drawn0.refl _ | apply Drawn0.step)⟩
                ·rw [if_neg c17] at H
                 have c17b0 : ((rd l1 (rd l0 (ji10))) == (rd l1 (rd l0 x10_1))) = false := beq_eq_false_iff_ne.mpr c17
                 have c17b1 : ((rd l1 (rd l0 (ji10))) != (rd l1 (rd l0 x10_1))) = true := bne_iff_ne.mpr c17
                 have H' := Aside0.mk H; clear H
                 have p396 : 0 ≤ ((ji10) : Int) := of_decide_eq_true (by first | (with_reducible assumption) | assumption)
                 have q396 : (ji10) < (l0.length : Int) := of_decide_eq_true (by first | (with_reducible assumption) | assumption)
                 obtain ⟨ad396, e396, hx396_0⟩ := Kd.at_int HR0.out (ji10) p396 q396
                 obtain rfl : ad395 = ad396 := (by injection e396)
                 replace p396 := eq_true p396; replace q396 := eq_true q396
                 have p397 : 0 ≤ ((rd l0 (ji10)) : Int) := of_decide_eq_true (by first | (with_reducible assumption) | assumption)
                 have q397 : (rd l0 (ji10)) < (l1.length : Int) := of_decide_eq_true (by first | (with_reducible assumption) | assumption)
                 obtain ⟨ad397, e397, hx397_0⟩ := Kd.at_int HR1.out (rd l0 (ji10)) p397 q397
                 cases e397; replace p397 := eq_true p397; replace q397 := eq_true q397
                 have p398 : 0 ≤ ((rd l0 x10_1) : Int) := of_decide_eq_true (by first | (with_reducible assumption) | assumption)
                 have q398 : (rd l0 x10_1) < (l1.length : Int) := of_decide_eq_true (by first | (with_reducible assumption) | assumption)
                 obtain ⟨ad398, e398, hx398_0⟩ := Kd.at_int HR1.out (rd l0 x10_1) p398 q398
                 obtain rfl : ad397 = ad398 := (by injection e398)
                 replace p398 := eq_true p398; replace q398 := eq_true q398; go_wp2
                 repeat (go_quiet (fail); try go_wp2)
                 go_roundg kj5
                 case measure => have := HK1.out; have := HJ5.out; omega
                 case rel => exact ⟨(wrap64 (x5_1 + 1)), (wrap64 (x10_1 + 1)), (by first | rfl | (simp; done) | (simp [*]; done)), (by first | rfl | (simp; done) | (simp [*]; done)), H', ⟨by have := HK1.out; have := HJ5.out; omega⟩, by repeat (first | exact Drawn0.refl _ | apply Drawn0.step)⟩
               ·rw [if_neg c16] at H
                exact absurd H (by simp)
              ·rw [if_neg c15] at H
               exact absurd H (by simp)
             ·rw [if_neg c14] at H
              exact absurd H (by simp)
            ·rw [if_neg c13] at H
             exact absurd H (by simp)
           ·rw [if_neg c12] at H
            exact absurd H (by simp)
          ·rw [if_neg c11] at H
           exact absurd H (by simp)
         ·rw [if_neg c9] at H
          have c9b0 : decide (0 < x10_1) = false := decide_eq_false c9
          clear c9; have H' := Aside0.mk H; clear H; go_wp2
          repeat (go_quiet (fail); try go_wp2)
          go_roundg kj5
          case measure => have := HK1.out; have := HJ5.out; omega
          case rel => exact ⟨(x5_1), (wrap64 (x10_1 + 1)), (by first | rfl | (simp; done) | (simp [*]; done)), (by first | rfl | (simp; done) | (simp [*]; done)), H', ⟨by have := HK1.out; have := HJ5.out; omega⟩, by repeat (first | exact Drawn0.refl _ | apply Drawn0.step)⟩
     ·rw [if_neg c5] at H
      exact absurd H (by simp)
    ·rw [if_neg c4] at H
     exact absurd H (by simp)
   ·rw [if_neg c3] at H
    have c3b0 : decide (x10_1 < (l0.length : Int)) = false := decide_eq_false c3
    clear c3; obtain rfl := Option.some.inj H; go_wp2
    repeat (go_quiet (fail); try go_wp2)
    go_ret
    exact ⟨by first | rfl | (simp; done) | (simp [*]; done), by repeat (first | exact Drawn0.refl _ | apply Drawn0.step)⟩

end Go.Proofs.Ytbbkclcfmcjlgaa.P

-- PRINTED by print.py (a twelfth state) out of the translation. Not trusted: Lean checks it.

namespace Go.Proofs.Ytbbkclcfmcjlgaa.P
open Go.RowKit Go.Proofs.YtbbkclcfmcjlgaaW.PrintWords Go.Proofs.YtbbkclcfmcjlgaaW.PrintLast Go.Proofs.YtbbkclcfmcjlgaaW.PrintMore
attribute [local go_sem] max2_int min2_int max_two min_two max_three min_three max_four min_four   -- for this text's walks alone
set_option linter.unusedVariables false
set_option linter.unusedSimpArgs false

/-! ### swarflaw29_PrecedenceChanges: function 10 -/
def swarflaw29_PrecedenceChanges.j0 : Nat → List Int → List Int → Bool → Option (Bool)
 | 0, _, _, _ => none
 | k + 1, x0, x1, x16 => if x16 = true then ((swarflaw29_awake.f k).bind fun t400 => (some t400)) else ((precedence_Changes.f k x0 x1).bind fun t401 => ((swarfref29_Changes.f k x0 x1).bind fun t402 => (some (t401 == t402))))
def swarflaw29_PrecedenceChanges.f (k : Nat) (l0 : List Int) (l1 : List Int) : Option (Bool) := (swarflaw29_awake.f k).bind fun t399 => (if t399 = true then (if (l0.length : Int) > 40 then (swarflaw29_PrecedenceChanges.j0 k l0 l1 true) else (swarflaw29_PrecedenceChanges.j0 k l0 l1 (decide ((l1.length : Int) > 40)))) else (swarflaw29_PrecedenceChanges.j0 k l0 l1 true))
theorem swarflaw29_PrecedenceChanges.mono_l : ∀ k, (∀ y0 y1 y2, LeO (swarflaw29_PrecedenceChanges.j0 k y0 y1 y2) (swarflaw29_PrecedenceChanges.j0 (k + 1) y0 y1 y2))
 | 0 => fun _ _ _ r h => by simp [swarflaw29_PrecedenceChanges.j0] at h
 | k + 1 => by
  have ih0 := swarflaw29_PrecedenceChanges.mono_l k
  ·intro y0 y1 y2
   unfold swarflaw29_PrecedenceChanges.j0
   repeat' first
   | (with_reducible exact ih0 _ _ _)
   | (with_reducible exact precedence_Changes.mono _ _ _)
   | (with_reducible exact swarflaw29_awake.mono _)
   | (with_reducible exact swarfref29_Changes.mono _ _ _)
   | (with_reducible exact LeO.refl _)
   | (with_reducible exact LeO.none _)
   | (with_reducible refine LeO.ite ?_ ?_)
   | (with_reducible refine LeO.bind ?_ (fun _ => ?_))
   | exact ih0 _ _ _
   | exact precedence_Changes.mono _ _ _
   | exact swarflaw29_awake.mono _
   | exact swarfref29_Changes.mono _ _ _
   | exact LeO.none _
   | refine LeO.ite ?_ ?_
   | refine LeO.bind ?_ (fun _ => ?_)
theorem swarflaw29_PrecedenceChanges.mono : ∀ a0 a1 k, LeO (swarflaw29_PrecedenceChanges.f k a0 a1) (swarflaw29_PrecedenceChanges.f (k + 1) a0 a1) := by
 intro a0 a1 k
 have ih0 := swarflaw29_PrecedenceChanges.mono_l k
 unfold swarflaw29_PrecedenceChanges.f
 repeat' first
   | (with_reducible exact ih0 _ _ _)
   | (with_reducible exact precedence_Changes.mono _ _ _)
   | (with_reducible exact swarflaw29_awake.mono _)
   | (with_reducible exact swarfref29_Changes.mono _ _ _)
   | (with_reducible exact LeO.refl _)
   | (with_reducible exact LeO.none _)
   | (with_reducible refine LeO.ite ?_ ?_)
   | (with_reducible refine LeO.bind ?_ (fun _ => ?_))
   | exact ih0 _ _ _
   | exact precedence_Changes.mono _ _ _
   | exact swarflaw29_awake.mono _
   | exact swarfref29_Changes.mono _ _ _
   | exact LeO.none _
   | refine LeO.ite ?_ ?_
   | refine LeO.bind ?_ (fun _ => ?_)
set_option maxHeartbeats 8000000 in
set_option maxRecDepth 100000 in
theorem swarflaw29_PrecedenceChanges.calls (k : Nat) (A0 : Option Addr) (c0 : Nat) (l0 : List Int) (A1 : Option Addr) (c1 : Nat) (l1 : List Int) (r : Bool) (w : World) (hr0 : Kd.C (Kd.int .i64) w A0 l0.length l0) (hc0 : l0.length ≤ c0) (hr1 : Kd.C (Kd.int .i64) w A1 l1.length l1) (hc1 : l1.length ≤ c1) (h : swarflaw29_PrecedenceChanges.f k l0 l1 = some r) (hr : r = true) :
  Calls Try.prog 10 #[.slice A0 l0.length c0, .slice A1 l1.length c1] w fun e w' => e = .returned (.bool r) ∧ Below w.heap.size w w' := by
 have HRT := Aside0.mk hr
 clear hr
 have HR0 := Aside0.mk hr0
 have HC0 := Aside0.mk hc0
 clear hr0 hc0
 have HR1 := Aside0.mk hr1
 have HC1 := Aside0.mk hc1
 clear hr1 hc1
 have HB := Aside0.mk (Below.refl w.heap.size w)
 have H : ((swarflaw29_awake.f k).bind fun t399 => (if t399 = true then (if (l0.length : Int) > 40 then (swarflaw29_PrecedenceChanges.j0 k l0 l1 true) else (swarflaw29_PrecedenceChanges.j0 k l0 l1 (decide ((l1.length : Int) > 40)))) else (swarflaw29_PrecedenceChanges.j0 k l0 l1 true))) = some r := h
 clear h
 have HC3 := Aside0.mk H
 clear H
 go_enter Try.func10, Try.ntmps10
 go_upto_region 1 with (fail)
 go_cut [16] (fun v16 wc => ∃ (kq : Nat) (x16_2 : Bool), v16 = .bool x16_2 ∧ Aside0 (swarflaw29_PrecedenceChanges.j0 kq l0 l1 x16_2 = some r) ∧ Aside0 (kq ≤ k) ∧ Aside0 (Below w.heap.size w wc))
 case first =>
  have H := HC3.out
  clear HC3; replace H := Option.bind_eq_some_iff.mp H
  obtain ⟨t399, A40, H⟩ := H
  replace H : (if t399 = true then (if (l0.length : Int) > 40 then (swarflaw29_PrecedenceChanges.j0 k l0 l1 true) else (swarflaw29_PrecedenceChanges.j0 k l0 l1 (decide ((l1.length : Int) > 40)))) else (swarflaw29_PrecedenceChanges.j0 k l0 l1 true)) = some r := H
  have A4 := Aside0.mk A40; clear A40
  by_cases c5 : t399 = true
  ·subst c5
   have H1 : (if (l0.length : Int) > 40 then (swarflaw29_PrecedenceChanges.j0 k l0 l1 true) else (swarflaw29_PrecedenceChanges.j0 k l0 l1 (decide ((l1.length : Int) > 40)))) = some r := by rw [if_pos rfl] at H; exact H
   clear H; have H := H1; clear H1
   by_cases c6 : (l0.length : Int) > 40
   ·rw [if_pos c6] at H
    have c6b0 : decide (40 < (l0.length : Int)) = true := decide_eq_true c6
    have c6b1 : decide (40 < l0.length) = true := decide_eq_true (by omega)
    clear c6
    (first | rw [c6b0] | (simp only [i64_w, i32_w]; rw [c6b0]) | skip)
    have H' := Aside0.mk H; clear H
    go_wp2_with (first | ((with_reducible refine gate_callee (f := 12) rfl ?_); refine goesL_ (some 5) rfl rfl Try.func12 (by kernel_rfl) rfl #[] rfl (by (try simp only [List.map_toArray, List.map_cons, List.map_nil]); first | done | rfl | (simp only [List.length_drop, List.length_take]; rfl)) ?_; (with_reducible refine (swarflaw29_awake.calls k  true _ A4.out).mono ?_); rintro e w7 ⟨rfl, hb⟩; refine ⟨_, rfl, ?_⟩; have n0_ := Aside0.mk (below_step (by repeat (first | (with_reducible first | exact HB.out | apply below_alloc | apply pw_below_drewN | apply below_drew1) | exact HB.out)) hb); clear HB; have HB := n0_; clear n0_; (try clear hb); (try clear hb2); (try clear hk); (try clear hi)))
    go_meet
    case rel => exact ⟨_, (true), (by first | rfl | (simp; done) | (simp [*]; done)), H', ⟨by first | omega | exact Nat.le_refl _⟩, ⟨by repeat (first | (with_reducible first | exact HB.out | apply below_alloc | apply pw_below_drewN | apply below_drew1) | exact HB.out)⟩⟩
   ·rw [if_neg c6] at H
    have c6b0 : decide (40 < (l0.length : Int)) = false := decide_eq_false c6
    have c6b1 : decide (40 < l0.length) = false := decide_eq_false (by omega)
    clear c6
    (first | rw [c6b0] | (simp only [i64_w, i32_w]; rw [c6b0]) | skip)
    have H' := Aside0.mk H; clear H
    go_wp2_with (first | ((with_reducible refine gate_callee (f := 12) rfl ?_); refine goesL_ (some 5) rfl rfl Try.func12 (by kernel_rfl) rfl #[] rfl (by (try simp only [List.map_toArray, List.map_cons, List.map_nil]); first | done | rfl | (simp only [List.length_drop, List.length_take]; rfl)) ?_; (with_reducible refine (swarflaw29_awake.calls k  true _ A4.out).mono ?_); rintro e w8 ⟨rfl, hb⟩; refine ⟨_, rfl, ?_⟩; have n0_ := Aside0.mk (below_step (by repeat (first | (with_reducible first | exact HB.out | apply below_alloc | apply pw_below_drewN | apply below_drew1) | exact HB.out)) hb); clear HB; have HB := n0_; clear n0_; (try clear hb); (try clear hb2); (try clear hk); (try clear hi)))
    go_meet
    case rel => exact ⟨_, (decide ((l1.length : Int) > 40)), (by first | rfl | (simp; done) | (simp [*]; done)), H', ⟨by first | omega | exact Nat.le_refl _⟩, ⟨by repeat (first | (with_reducible first | exact HB.out | apply below_alloc | apply pw_below_drewN | apply below_drew1) | exact HB.out)⟩⟩
  ·replace c5 := Bool.eq_false_iff.mpr c5
   subst c5
   have H1 : (swarflaw29_PrecedenceChanges.j0 k l0 l1 true) = some r := by rw [if_neg (show ¬ (false = true) by decide)] at H; exact H
   clear H; have H := H1; clear H1; have H' := Aside0.mk H; clear H
   go_wp2_with (first | ((with_reducible refine gate_callee (f := 12) rfl ?_); refine goesL_ (some 5) rfl rfl Try.func12 (by kernel_rfl) rfl #[] rfl (by (try simp only [List.map_toArray, List.map_cons, List.map_nil]); first | done | rfl | (simp only [List.length_drop, List.length_take]; rfl)) ?_; (with_reducible refine (swarflaw29_awake.calls k  false _ A4.out).mono ?_); rintro e w9 ⟨rfl, hb⟩; refine ⟨_, rfl, ?_⟩; have n0_ := Aside0.mk (below_step (by repeat (first | (with_reducible first | exact HB.out | apply below_alloc | apply pw_below_drewN | apply below_drew1) | exact HB.out)) hb); clear HB; have HB := n0_; clear n0_; (try clear hb); (try clear hb2); (try clear hk); (try clear hi)))
   go_meet
   case rel => exact ⟨_, (true), (by first | rfl | (simp; done) | (simp [*]; done)), H', ⟨by first | omega | exact Nat.le_refl _⟩, ⟨by repeat (first | (with_reducible first | exact HB.out | apply below_alloc | apply pw_below_drewN | apply below_drew1) | exact HB.out)⟩⟩
 case rest =>
  clear HC3; try clear c1; try clear p2; try clear c5; try clear c6; try clear c6b0; try clear c6b1
  obtain ⟨kq, x16_2, rfl, HA, HJ2, HB⟩ := hcut
  cases kq with
  | zero => exact absurd HA.out (by simp [swarflaw29_PrecedenceChanges.j0])
  | succ kj2 =>
   have H := HA.out
   clear HA
   simp only [swarflaw29_PrecedenceChanges.j0] at H
   by_cases c10 : x16_2 = true
   ·subst c10
    have H1 : ((swarflaw29_awake.f kj2).bind fun t400 => (some t400)) = some r := by rw [if_pos rfl] at H; exact H
    clear H; have H := H1; clear H1; replace H := Option.bind_eq_some_iff.mp H
    obtain ⟨t400, A110, H⟩ := H
    replace H : (some t400) = some r := H
    have A11 := Aside0.mk A110; clear A110; obtain rfl := Option.some.inj H
    go_wp2_with (first | ((with_reducible refine gate_callee (f := 12) rfl ?_); refine goesL_ (some 17) rfl rfl Try.func12 (by kernel_rfl) rfl #[] rfl (by (try simp only [List.map_toArray, List.map_cons, List.map_nil]); first | done | rfl | (simp only [List.length_drop, List.length_take]; rfl)) ?_; (with_reducible refine (swarflaw29_awake.calls kj2  t400 _ A11.out).mono ?_); rintro e w12 ⟨rfl, hb⟩; refine ⟨_, rfl, ?_⟩; have n0_ := Aside0.mk (below_step (by repeat (first | (with_reducible first | exact HB.out | apply below_alloc | apply pw_below_drewN | apply below_drew1) | exact HB.out)) hb); clear HB; have HB := n0_; clear n0_; (try clear hb); (try clear hb2); (try clear hk); (try clear hi)))
    go_ret
    exact ⟨by first | rfl | (simp [errW_none, errW_some] <;> rfl) | (simp [*, errW_none, errW_some] <;> rfl), by repeat (first | (with_reducible first | exact HB.out | apply below_alloc | apply pw_below_drewN | apply below_drew1) | exact HB.out)⟩
   ·replace c10 := Bool.eq_false_iff.mpr c10
    subst c10
    have H1 : ((precedence_Changes.f kj2 l0 l1).bind fun t401 => ((swarfref29_Changes.f kj2 l0 l1).bind fun t402 => (some (t401 == t402)))) = some r := by rw [if_neg (show ¬ (false = true) by decide)] at H; exact H
    clear H; have H := H1; clear H1; replace H := Option.bind_eq_some_iff.mp H
    obtain ⟨t401, A130, H⟩ := H
    replace H : ((swarfref29_Changes.f kj2 l0 l1).bind fun t402 => (some (t401 == t402))) = some r := H
    have A13 := Aside0.mk A130; clear A130; replace H := Option.bind_eq_some_iff.mp H
    obtain ⟨t402, A140, H⟩ := H
    replace H : (some (t401 == t402)) = some r := H
    have A14 := Aside0.mk A140; clear A140; obtain rfl := Option.some.inj H
    go_wp2_with (first | ((with_reducible refine gate_callee (f := 31) rfl ?_); refine goesL_ (some 20) rfl rfl Try.func31 (by kernel_rfl) rfl #[.slice A0 l0.length c0, .slice A1 l1.length c1] rfl (by (try simp only [List.map_toArray, List.map_cons, List.map_nil]); first | done | rfl | (simp only [List.length_drop, List.length_take]; rfl)) ?_; (with_reducible refine (precedence_Changes.calls kj2 _ _ l0 _ _ l1 t401 _ ?side1 ?side2 ?side3 ?side4 A13.out).mono ?_); (case side1 => repeat (first | exact (Kd.C_below HR0.out HB.out) | (with_reducible refine Kd.C_alloc ?_ _) | (with_reducible refine Kd.C_drewN ?_ _) | (with_reducible refine Kd.C_drew ?_))); (case side2 => exact HC0.out); (case side3 => repeat (first | exact (Kd.C_below HR1.out HB.out) | (with_reducible refine Kd.C_alloc ?_ _) | (with_reducible refine Kd.C_drewN ?_ _) | (with_reducible refine Kd.C_drew ?_))); (case side4 => exact HC1.out); rintro e w' ⟨rfl, ⟨nd, rfl⟩⟩; refine ⟨_, rfl, ?_⟩) | ((with_reducible refine gate_callee (f := 30) rfl ?_); refine goesL_ (some 23) rfl rfl Try.func30 (by kernel_rfl) rfl #[.slice A0 l0.length c0, .slice A1 l1.length c1] rfl (by (try simp only [List.map_toArray, List.map_cons, List.map_nil]); first | done | rfl | (simp only [List.length_drop, List.length_take]; rfl)) ?_; (with_reducible refine (swarfref29_Changes.calls kj2 _ _ l0 _ _ l1 t402 _ ?side1 ?side2 ?side3 ?side4 A14.out).mono ?_); (case side1 => repeat (first | exact (Kd.C_below HR0.out (by repeat (first | (with_reducible first | exact HB.out | apply below_alloc | apply pw_below_drewN | apply below_drew1) | exact HB.out))) | (with_reducible refine Kd.C_alloc ?_ _) | (with_reducible refine Kd.C_drewN ?_ _) | (with_reducible refine Kd.C_drew ?_))); (case side2 => exact HC0.out); (case side3 => repeat (first | exact (Kd.C_below HR1.out (by repeat (first | (with_reducible first | exact HB.out | apply below_alloc | apply pw_below_drewN | apply below_drew1) | exact HB.out))) | (with_reducible refine Kd.C_alloc ?_ _) | (with_reducible refine Kd.C_drewN ?_ _) | (with_reducible refine Kd.C_drew ?_))); (case side4 => exact HC1.out); rintro e w' ⟨rfl, ⟨nd, rfl⟩⟩; refine ⟨_, rfl, ?_⟩))
    go_ret
    exact ⟨by first | rfl | (simp [errW_none, errW_some] <;> rfl) | (simp [*, errW_none, errW_some] <;> rfl), by repeat (first | (with_reducible first | exact HB.out | apply below_alloc | apply pw_below_drewN | apply below_drew1) | exact HB.out)⟩

end Go.Proofs.Ytbbkclcfmcjlgaa.P

/- The examples of the chapter hold, told by the printed function. -/

namespace Go.Proofs.Ytbbkclcfmcjlgaa.B
open Go.RowKit Go.Proofs.Ytbbkclcfmcjlgaa.P Go.Proofs.YtbbkclcfmcjlgaaW.PrintWords Go.Proofs.YtbbkclcfmcjlgaaW.PrintLast
theorem awake_ev : Ev (fun k => swarflaw29_awake.f k) true := Ev.of swarflaw29_awake.mono swarflaw29_awake.small
end Go.Proofs.Ytbbkclcfmcjlgaa.B

-- PRINTED by print.py (a twelfth state) out of the translation. Not trusted: Lean checks it.

namespace Go.Proofs.Ytbbkclcfmcjlgaa.P
open Go.RowKit Go.Proofs.YtbbkclcfmcjlgaaW.PrintWords Go.Proofs.YtbbkclcfmcjlgaaW.PrintLast Go.Proofs.YtbbkclcfmcjlgaaW.PrintMore
attribute [local go_sem] max2_int min2_int max_two min_two max_three min_three max_four min_four   -- for this text's walks alone
set_option linter.unusedVariables false
set_option linter.unusedSimpArgs false

/-! ### swarfref29_Valid: function 21 -/
mutual
def swarfref29_Valid.j0 : Nat → Int → List (S47) → Bool → Option (Int)
 | 0, _, _, _ => none
 | k + 1, x0, x1, x14 => if x14 = true then (some 3) else (if x0 < 0 then (some 1) else (swarfref29_Valid.l0 k x0 x1 0))
def swarfref29_Valid.l0 : Nat → Int → List (S47) → Int → Option (Int)
 | 0, _, _, _ => none
 | k + 1, x0, x1, x5 => if x5 < (x1.length : Int) then (if 0 ≤ x5 then (if ((rd_T47 x1 x5).f0) < 0 then (some 1) else (if ((rd_T47 x1 x5).f0) ≥ x0 then (some 1) else (if ((rd_T47 x1 x5).f1) < 0 then (some 1) else (if ((rd_T47 x1 x5).f1) ≥ x0 then (some 1) else (if ((rd_T47 x1 x5).f0) = ((rd_T47 x1 x5).f1) then (some 1) else (swarfref29_Valid.l0 k x0 x1 (wrap64 (x5 + 1)))))))) else (none)) else (some 0)
end
def swarfref29_Valid.f (k : Nat) (a0 : Int) (l1 : List (S47)) : Option (Int) := if a0 > 200 then (swarfref29_Valid.j0 k a0 l1 true) else (swarfref29_Valid.j0 k a0 l1 (decide ((l1.length : Int) > 2000)))
theorem swarfref29_Valid.mono_l : ∀ k, (∀ y0 y1 y2, LeO (swarfref29_Valid.j0 k y0 y1 y2) (swarfref29_Valid.j0 (k + 1) y0 y1 y2)) ∧ (∀ y0 y1 y2, LeO (swarfref29_Valid.l0 k y0 y1 y2) (swarfref29_Valid.l0 (k + 1) y0 y1 y2))
 | 0 => ⟨fun _ _ _ r h => by simp [swarfref29_Valid.j0] at h, fun _ _ _ r h => by simp [swarfref29_Valid.l0] at h⟩
 | k + 1 => by
  obtain ⟨ih0, ih1⟩ := swarfref29_Valid.mono_l k
  refine ⟨?_, ?_⟩
  ·intro y0 y1 y2
   unfold swarfref29_Valid.j0
   repeat' first
   | (with_reducible exact ih0 _ _ _)
   | (with_reducible exact ih1 _ _ _)
   | (with_reducible exact LeO.refl _)
   | (with_reducible exact LeO.none _)
   | (with_reducible refine LeO.ite ?_ ?_)
   | (with_reducible refine LeO.bind ?_ (fun _ => ?_))
   | exact ih0 _ _ _
   | exact ih1 _ _ _
   | exact LeO.none _
   | refine LeO.ite ?_ ?_
   | refine LeO.bind ?_ (fun _ => ?_)
  ·intro y0 y1 y2
   unfold swarfref29_Valid.l0
   repeat' first
   | (with_reducible exact ih0 _ _ _)
   | (with_reducible exact ih1 _ _ _)
   | (with_reducible exact LeO.refl _)
   | (with_reducible exact LeO.none _)
   | (with_reducible refine LeO.ite ?_ ?_)
   | (with_reducible refine LeO.bind ?_ (fun _ => ?_))
   | exact ih0 _ _ _
   | exact ih1 _ _ _
   | exact LeO.none _
   | refine LeO.ite ?_ ?_
   | refine LeO.bind ?_ (fun _ => ?_)
theorem swarfref29_Valid.mono : ∀ a0 a1 k, LeO (swarfref29_Valid.f k a0 a1) (swarfref29_Valid.f (k + 1) a0 a1) := by
 intro a0 a1 k
 obtain ⟨ih0, ih1⟩ := swarfref29_Valid.mono_l k
 unfold swarfref29_Valid.f
 repeat' first
   | (with_reducible exact ih0 _ _ _)
   | (with_reducible exact ih1 _ _ _)
   | (with_reducible exact LeO.refl _)
   | (with_reducible exact LeO.none _)
   | (with_reducible refine LeO.ite ?_ ?_)
   | (with_reducible refine LeO.bind ?_ (fun _ => ?_))
   | exact ih0 _ _ _
   | exact ih1 _ _ _
   | exact LeO.none _
   | refine LeO.ite ?_ ?_
   | refine LeO.bind ?_ (fun _ => ?_)
set_option maxHeartbeats 8000000 in
set_option maxRecDepth 100000 in
theorem swarfref29_Valid.calls (k : Nat) (a0 : Int) (A1 : Option Addr) (c1 : Nat) (l1 : List (S47)) (r : Int) (w : World) (hr1 : Kd.C k47 w A1 l1.length l1) (hc1 : l1.length ≤ c1) (h : swarfref29_Valid.f k a0 l1 = some r) :
  Calls Try.prog 21 #[.int .i64 a0, .slice A1 l1.length c1] w fun e w' => e = .returned (.int .i64 r) ∧ Drawn0 w w' := by
 have HR1 := Aside0.mk hr1
 have HC1 := Aside0.mk hc1
 clear hr1 hc1
 have H : (if a0 > 200 then (swarfref29_Valid.j0 k a0 l1 true) else (swarfref29_Valid.j0 k a0 l1 (decide ((l1.length : Int) > 2000)))) = some r := h
 clear h
 have HC3 := Aside0.mk H
 clear H
 go_enter Try.func21, Try.ntmps21
 go_upto_region 1 with (fail)
 repeat (go_quiet (fail); go_upto_region 1 with (fail))
 go_cut [14] (fun v14 wc => ∃ (kq : Nat) (x14_2 : Bool), v14 = .bool x14_2 ∧ Aside0 (swarfref29_Valid.j0 kq a0 l1 x14_2 = some r) ∧ Aside0 (kq ≤ k) ∧ Drawn0 w wc)
 case first =>
  have H := HC3.out
  clear HC3
  by_cases c4 : a0 > 200
  ·rw [if_pos c4] at H
   have c4b0 : decide (200 < a0) = true := decide_eq_true c4
   clear c4
   (first | rw [c4b0] | (simp only [i64_w, i32_w]; rw [c4b0]) | skip)
   have H' := Aside0.mk H; clear H; go_wp2
   repeat (go_quiet (fail); try go_wp2)
   go_meet
   case rel => exact ⟨_, (true), (by first | rfl | (simp; done) | (simp [*]; done)), H', ⟨by first | omega | exact Nat.le_refl _⟩, by repeat (first | exact Drawn0.refl _ | apply Drawn0.step)⟩
  ·rw [if_neg c4] at H
   have c4b0 : decide (200 < a0) = false := decide_eq_false c4
   clear c4
   (first | rw [c4b0] | (simp only [i64_w, i32_w]; rw [c4b0]) | skip)
   have H' := Aside0.mk H; clear H; go_wp2
   repeat (go_quiet (fail); try go_wp2)
   go_meet
   case rel => exact ⟨_, (decide ((l1.length : Int) > 2000)), (by first | rfl | (simp; done) | (simp [*]; done)), H', ⟨by first | omega | exact Nat.le_refl _⟩, by repeat (first | exact Drawn0.refl _ | apply Drawn0.step)⟩
 case rest =>
  clear HC3; try clear c1; try clear c2; try clear p2; try clear c4; try clear c4b0
  obtain ⟨kq, x14_2, rfl, HA, HJ2, ⟨mc2, rfl⟩⟩ := hcut
  cases kq with
  | zero => exact absurd HA.out (by simp [swarfref29_Valid.j0])
  | succ kj2 =>
   have H := HA.out
   clear HA
   simp only [swarfref29_Valid.j0] at H
   by_cases c5 : x14_2 = true
   ·subst c5
    have H1 : (some 3) = some r := by rw [if_pos rfl] at H; exact H
    clear H; have H := H1; clear H1; obtain rfl := Option.some.inj H; go_wp2
    repeat (go_quiet (fail); try go_wp2)
    go_ret
    exact ⟨by first | rfl | (simp; done) | (simp [*]; done), by repeat (first | exact Drawn0.refl _ | apply Drawn0.step)⟩
   ·replace c5 := Bool.eq_false_iff.mpr c5
    subst c5
    have H1 : (if a0 < 0 then (some 1) else (swarfref29_Valid.l0 kj2 a0 l1 0)) = some r := by rw [if_neg (show ¬ (false = true) by decide)] at H; exact H
    clear H; have H := H1; clear H1
    by_cases c6 : a0 < 0
    ·rw [if_pos c6] at H
     have c6b0 : decide (a0 < 0) = true := decide_eq_true c6
     clear c6; obtain rfl := Option.some.inj H; go_wp2
     repeat (go_quiet (fail); try go_wp2)
     go_ret
     exact ⟨by first | rfl | (simp; done) | (simp [*]; done), by repeat (first | exact Drawn0.refl _ | apply Drawn0.step)⟩
    ·rw [if_neg c6] at H
     have c6b0 : decide (a0 < 0) = false := decide_eq_false c6
     clear c6; have H' := Aside0.mk H; clear H; go_wp2
     repeat (go_quiet (fail); try go_wp2)
     go_loopg [5] kj2 (fun kq v5 w' => ∃ (x5_2 : Int), v5 = .int .i64 x5_2 ∧ Aside0 (swarfref29_Valid.l0 kq a0 l1 x5_2 = some r) ∧ Aside0 (kq ≤ kj2) ∧ Drawn0 w w')
     case atStart => exact ⟨(0), (by first | rfl | (simp; done) | (simp [*]; done)), H', ⟨Nat.le_refl _⟩, by repeat (first | exact Drawn0.refl _ | apply Drawn0.step)⟩
     case round =>
      clear H'; try clear c1; try clear c2; try clear p2; try clear c4; try clear c4b0; try clear c5; try clear c6; try clear c6b0; try clear p2
      obtain ⟨x5_2, rfl, HA, HK2, ⟨m2, rfl⟩⟩ := hrel
      cases gk with
      | zero => exact absurd HA.out (by simp [swarfref29_Valid.l0])
      | succ k2 =>
       have H := HA.out
       clear HA
       simp only [swarfref29_Valid.l0] at H
       by_cases c7 : x5_2 < (l1.length : Int)
       ·rw [if_pos c7] at H
        have c7b0 : decide (x5_2 < (l1.length : Int)) = true := decide_eq_true c7
        clear c7
        by_cases c8 : 0 ≤ x5_2
        ·rw [if_pos c8] at H
         have c8b0 : decide (0 ≤ x5_2) = true := decide_eq_true c8
         clear c8
         by_cases c9 : ((rd_T47 l1 x5_2).f0) < 0
         ·rw [if_pos c9] at H
          have c9b0 : decide (((rd_T47 l1 x5_2).f0) < 0) = true := decide_eq_true c9
          clear c9; obtain rfl := Option.some.inj H
          have p187 : 0 ≤ (x5_2 : Int) := of_decide_eq_true (by first | (with_reducible assumption) | assumption)
          have q187 : x5_2 < (l1.length : Int) := of_decide_eq_true (by first | (with_reducible assumption) | assumption)
          obtain ⟨ad187, e187, hx187_0, hx187_1⟩ := at_T47 HR1.out x5_2 p187 q187
          cases e187; replace p187 := eq_true p187; replace q187 := eq_true q187
          have p188 : 0 ≤ (x5_2 : Int) := of_decide_eq_true (by first | (with_reducible assumption) | assumption)
          have q188 : x5_2 < (l1.length : Int) := of_decide_eq_true (by first | (with_reducible assumption) | assumption)
          obtain ⟨ad188, e188, hx188_0, hx188_1⟩ := at_T47 HR1.out x5_2 p188 q188
          obtain rfl : ad187 = ad188 := (by injection e188)
          replace p188 := eq_true p188; replace q188 := eq_true q188; go_wp2
          repeat (go_quiet (fail); try go_wp2)
          go_ret
          exact ⟨by first | rfl | (simp; done) | (simp [*]; done), by repeat (first | exact Drawn0.refl _ | apply Drawn0.step)⟩
         ·rw [if_neg c9] at H
          have c9b0 : decide (((rd_T47 l1 x5_2).f0) < 0) = false := decide_eq_false c9
          clear c9
          by_cases c10 : ((rd_T47 l1 x5_2).f0) ≥ a0
          ·rw [if_pos c10] at H
           have c10b0 : decide (a0 ≤ ((rd_T47 l1 x5_2).f0)) = true := decide_eq_true c10
           clear c10; obtain rfl := Option.some.inj H
           have p187 : 0 ≤ (x5_2 : Int) := of_decide_eq_true (by first | (with_reducible assumption) | assumption)
           have q187 : x5_2 < (l1.length : Int) := of_decide_eq_true (by first | (with_reducible assumption) | assumption)
           obtain ⟨ad187, e187, hx187_0, hx187_1⟩ := at_T47 HR1.out x5_2 p187 q187
           cases e187; replace p187 := eq_true p187; replace q187 := eq_true q187
           have p188 : 0 ≤ (x5_2 : Int) := of_decide_eq_true (by first | (with_reducible assumption) | assumption)
           have q188 : x5_2 < (l1.length : Int) := of_decide_eq_true (by first | (with_reducible assumption) | assumption)
           obtain ⟨ad188, e188, hx188_0, hx188_1⟩ := at_T47 HR1.out x5_2 p188 q188
           obtain rfl : ad187 = ad188 := (by injection e188)
           replace p188 := eq_true p188; replace q188 := eq_true q188; go_wp2
           repeat (go_quiet (fail); try go_wp2)
           go_ret
           exact ⟨by first | rfl | (simp; done) | (simp [*]; done), by repeat (first | exact Drawn0.refl _ | apply Drawn0.step)⟩
          ·rw [if_neg c10] at H
           have c10b0 : decide (a0 ≤ ((rd_T47 l1 x5_2).f0)) = false := decide_eq_false c10
           clear c10
           by_cases c11 : ((rd_T47 l1 x5_2).f1) < 0
           ·rw [if_pos c11] at H
            have c11b0 : decide (((rd_T47 l1 x5_2).f1) < 0) = true := decide_eq_true c11
            clear c11; obtain rfl := Option.some.inj H
            have p187 : 0 ≤ (x5_2 : Int) := of_decide_eq_true (by first | (with_reducible assumption) | assumption)
            have q187 : x5_2 < (l1.length : Int) := of_decide_eq_true (by first | (with_reducible assumption) | assumption)
            obtain ⟨ad187, e187, hx187_0, hx187_1⟩ := at_T47 HR1.out x5_2 p187 q187
            cases e187; replace p187 := eq_true p187; replace q187 := eq_true q187
            have p188 : 0 ≤ (x5_2 : Int) := of_decide_eq_true (by first | (with_reducible assumption) | assumption)
            have q188 : x5_2 < (l1.length : Int) := of_decide_eq_true (by first | (with_reducible assumption) | assumption)
            obtain ⟨ad188, e188, hx188_0, hx188_1⟩ := at_T47 HR1.out x5_2 p188 q188
            obtain rfl : ad187 = ad188 := (by injection e188)
            replace p188 := eq_true p188; replace q188 := eq_true q188; go_wp2
            repeat (go_quiet (fail); try go_wp2)
            go_ret
            exact ⟨by first | rfl | (simp; done) | (simp [*]; done), by repeat (first | exact Drawn0.refl _ | apply Drawn0.step)⟩
           ·rw [if_neg c11] at H
            have c11b0 : decide (((rd_T47 l1 x5_2).f1) < 0) = false := decide_eq_false c11
            clear c11
            by_cases c12 : ((rd_T47 l1 x5_2).f1) ≥ a0
            ·rw [if_pos c12] at H
             have c12b0 : decide (a0 ≤ ((rd_T47 l1 x5_2).f1)) = true := decide_eq_true c12
             clear c12; obtain rfl := Option.some.inj H
             have p187 : 0 ≤ (x5_2 : Int) := of_decide_eq_true (by first | (with_reducible assumption) | assumption)
             have q187 : x5_2 < (l1.length : Int) := of_decide_eq_true (by first | (with_reducible assumption) | assumption)
             obtain ⟨ad187, e187, hx187_0, hx187_1⟩ := at_T47 HR1.out x5_2 p187 q187
             cases e187; replace p187 := eq_true p187; replace q187 := eq_true q187
             have p188 : 0 ≤ (x5_2 : Int) := of_decide_eq_true (by first | (with_reducible assumption) | assumption)
             have q188 : x5_2 < (l1.length : Int) := of_decide_eq_true (by first | (with_reducible assumption) | assumption)
             obtain ⟨ad188, e188, hx188_0, hx188_1⟩ := at_T47 HR1.out x5_2 p188 q188
             obtain rfl : ad187 = ad188 := (by injection e188)
             replace p188 := eq_true p188; replace q188 := eq_true q188; go_wp2
             repeat (go_quiet (fail); try go_wp2)
             go_ret
             exact ⟨by first | rfl | (simp; done) | (simp [*]; done), by repeat (first | exact Drawn0.refl _ | apply Drawn0.step)⟩
            ·rw [if_neg c12] at H
             have c12b0 : decide (a0 ≤ ((rd_T47 l1 x5_2).f1)) = false := decide_eq_false c12
             clear c12
             by_cases c13 : ((rd_T47 l1 x5_2).f0) = ((rd_T47 l1 x5_2).f1)
             ·rw [if_pos c13] at H
              have c13b0 : (((rd_T47 l1 x5_2).f0) == ((rd_T47 l1 x5_2).f1)) = true := beq_iff_eq.mpr c13
              have c13b1 : (((rd_T47 l1 x5_2).f0) != ((rd_T47 l1 x5_2).f1)) = false := bne_eq_false_iff_eq.mpr c13
              clear c13; obtain rfl := Option.some.inj H
              have p187 : 0 ≤ (x5_2 : Int) := of_decide_eq_true (by first | (with_reducible assumption) | assumption)
              have q187 : x5_2 < (l1.length : Int) := of_decide_eq_true (by first | (with_reducible assumption) | assumption)
              obtain ⟨ad187, e187, hx187_0, hx187_1⟩ := at_T47 HR1.out x5_2 p187 q187
              cases e187; replace p187 := eq_true p187; replace q187 := eq_true q187
              have p188 : 0 ≤ (x5_2 : Int) := of_decide_eq_true (by first | (with_reducible assumption) | assumption)
              have q188 : x5_2 < (l1.length : Int) := of_decide_eq_true (by first | (with_reducible assumption) | assumption)
              obtain ⟨ad188, e188, hx188_0, hx188_1⟩ := at_T47 HR1.out x5_2 p188 q188
              obtain rfl : ad187 = ad188 := (by injection e188)
              replace p188 := eq_true p188; replace q188 := eq_true q188; go_wp2
              repeat (go_quiet (fail); try go_wp2)
              go_ret
              exact ⟨by first | rfl | (simp; done) | (simp [*]; done), by repeat (first | exact Drawn0.refl _ | apply Drawn0.step)⟩
             ·rw [if_neg c13] at H
              have c13b0 : (((rd_T47 l1 x5_2).f0) == ((rd_T47 l1 x5_2).f1)) = false := beq_eq_false_iff_ne.mpr c13
              have c13b1 : (((rd_T47 l1 x5_2).f0) != ((rd_T47 l1 x5_2).f1)) = true := bne_iff_ne.mpr c13
              have H' := Aside0.mk H; clear H
              have p187 : 0 ≤ (x5_2 : Int) := of_decide_eq_true (by first | (with_reducible assumption) | assumption)
              have q187 : x5_2 < (l1.length : Int) := of_decide_eq_true (by first | (with_reducible assumption) | assumption)
              obtain ⟨ad187, e187, hx187_0, hx187_1⟩ := at_T47 HR1.out x5_2 p187 q187
              cases e187; replace p187 := eq_true p187; replace q187 := eq_true q187
              have p188 : 0 ≤ (x5_2 : Int) := of_decide_eq_true (by first | (with_reducible assumption) | assumption)
              have q188 : x5_2 < (l1.length : Int) := of_decide_eq_true (by first | (with_reducible assumption) | assumption)
              obtain ⟨ad188, e188, hx188_0, hx188_1⟩ := at_T47 HR1.out x5_2 p188 q188
              obtain rfl : ad187 = ad188 := (by injection e188)
              replace p188 := eq_true p188; replace q188 := eq_true q188; go_wp2
              repeat (go_quiet (fail); try go_wp2)
              go_roundg k2
              case measure => have := HJ2.out; have := HK2.out; omega
              case rel => exact ⟨(wrap64 (x5_2 + 1)), (by first | rfl | (simp; done) | (simp [*]; done)), H', ⟨by have := HJ2.out; have := HK2.out; omega⟩, by repeat (first | exact Drawn0.refl _ | apply Drawn0.step)⟩
        ·rw [if_neg c8] at H
         exact absurd H (by simp)
       ·rw [if_neg c7] at H
        have c7b0 : decide (x5_2 < (l1.length : Int)) = false := decide_eq_false c7
        clear c7; obtain rfl := Option.some.inj H; go_wp2
        repeat (go_quiet (fail); try go_wp2)
        go_ret
        exact ⟨by first | rfl | (simp; done) | (simp [*]; done), by repeat (first | exact Drawn0.refl _ | apply Drawn0.step)⟩

end Go.Proofs.Ytbbkclcfmcjlgaa.P

-- PRINTED by print.py (a twelfth state) out of the translation. Not trusted: Lean checks it.

namespace Go.Proofs.Ytbbkclcfmcjlgaa.P
open Go.RowKit Go.Proofs.YtbbkclcfmcjlgaaW.PrintWords Go.Proofs.YtbbkclcfmcjlgaaW.PrintLast Go.Proofs.YtbbkclcfmcjlgaaW.PrintMore
attribute [local go_sem] max2_int min2_int max_two min_two max_three min_three max_four min_four   -- for this text's walks alone
set_option linter.unusedVariables false
set_option linter.unusedSimpArgs false

/-! ### swarflaw29_few: function 13 -/
def swarflaw29_few.f (k : Nat) (a0 : Int) (a1 : Int) (l2 : List (S47)) : Option (Bool) := if (l2.length : Int) ≤ 60 then (if a0 ≤ a1 then (some true) else ((swarfref29_Valid.f k a0 l2).bind fun t189 => (some (t189 != 0)))) else (some false)
theorem swarflaw29_few.mono : ∀ a0 a1 a2 k, LeO (swarflaw29_few.f k a0 a1 a2) (swarflaw29_few.f (k + 1) a0 a1 a2) := by
 intro a0 a1 a2 k
 unfold swarflaw29_few.f
 repeat' first
   | (with_reducible exact swarfref29_Valid.mono _ _ _)
   | (with_reducible exact LeO.refl _)
   | (with_reducible exact LeO.none _)
   | (with_reducible refine LeO.ite ?_ ?_)
   | (with_reducible refine LeO.bind ?_ (fun _ => ?_))
   | exact swarfref29_Valid.mono _ _ _
   | exact LeO.none _
   | refine LeO.ite ?_ ?_
   | refine LeO.bind ?_ (fun _ => ?_)
set_option maxHeartbeats 8000000 in
set_option maxRecDepth 100000 in
theorem swarflaw29_few.calls (k : Nat) (a0 : Int) (a1 : Int) (A2 : Option Addr) (c2 : Nat) (l2 : List (S47)) (r : Bool) (w : World) (hr2 : Kd.C k47 w A2 l2.length l2) (hc2 : l2.length ≤ c2) (h : swarflaw29_few.f k a0 a1 l2 = some r) :
  Calls Try.prog 13 #[.int .i64 a0, .int .i64 a1, .slice A2 l2.length c2] w fun e w' => e = .returned (.bool r) ∧ Drawn0 w w' := by
 have HR2 := Aside0.mk hr2
 have HC2 := Aside0.mk hc2
 clear hr2 hc2
 have H : (if (l2.length : Int) ≤ 60 then (if a0 ≤ a1 then (some true) else ((swarfref29_Valid.f k a0 l2).bind fun t189 => (some (t189 != 0)))) else (some false)) = some r := h
 clear h
 by_cases c4 : (l2.length : Int) ≤ 60
 ·rw [if_pos c4] at H
  have c4b0 : decide ((l2.length : Int) ≤ 60) = true := decide_eq_true c4
  have c4b1 : decide (l2.length ≤ 60) = true := decide_eq_true (by omega)
  clear c4
  by_cases c5 : a0 ≤ a1
  ·rw [if_pos c5] at H
   have c5b0 : decide (a0 ≤ a1) = true := decide_eq_true c5
   clear c5; obtain rfl := Option.some.inj H
   go_enter Try.func13, Try.ntmps13
   go_wp2; go_ret
   exact ⟨by first | rfl | (simp; done) | (simp [*]; done), by repeat (first | exact Drawn0.refl _ | apply Drawn0.step)⟩
  ·rw [if_neg c5] at H
   have c5b0 : decide (a0 ≤ a1) = false := decide_eq_false c5
   clear c5; replace H := Option.bind_eq_some_iff.mp H
   obtain ⟨t189, A60, H⟩ := H
   replace H : (some (t189 != 0)) = some r := H
   have A6 := Aside0.mk A60; clear A60; obtain rfl := Option.some.inj H
   go_enter Try.func13, Try.ntmps13
   go_wp2_with (first | (go_at_call 21; (with_reducible refine (swarfref29_Valid.calls k a0 _ _ l2 t189 _ ?side1 ?side2 A6.out).mono ?_); (case side1 => repeat (first | exact HR2.out | (with_reducible refine Kd.C_alloc ?_ _) | (with_reducible refine Kd.C_drewN ?_ _) | (with_reducible refine Kd.C_drew ?_))); (case side2 => exact HC2.out); rintro e w' ⟨rfl, ⟨nd, rfl⟩⟩))
   go_ret
   exact ⟨by first | rfl | (simp; done) | (simp [*]; done), by repeat (first | exact Drawn0.refl _ | apply Drawn0.step)⟩
 ·rw [if_neg c4] at H
  have c4b0 : decide ((l2.length : Int) ≤ 60) = false := decide_eq_false c4
  have c4b1 : decide (l2.length ≤ 60) = false := decide_eq_false (by omega)
  clear c4; obtain rfl := Option.some.inj H
  go_enter Try.func13, Try.ntmps13
  go_wp2; go_ret
  exact ⟨by first | rfl | (simp; done) | (simp [*]; done), by repeat (first | exact Drawn0.refl _ | apply Drawn0.step)⟩

end Go.Proofs.Ytbbkclcfmcjlgaa.P

-- PRINTED by print.py (a twelfth state) out of the translation. Not trusted: Lean checks it.

namespace Go.Proofs.Ytbbkclcfmcjlgaa.P
open Go.RowKit Go.Proofs.YtbbkclcfmcjlgaaW.PrintWords Go.Proofs.YtbbkclcfmcjlgaaW.PrintLast Go.Proofs.YtbbkclcfmcjlgaaW.PrintMore
attribute [local go_sem] max2_int min2_int max_two min_two max_three min_three max_four min_four   -- for this text's walks alone
set_option linter.unusedVariables false
set_option linter.unusedSimpArgs false

/-! ### swarflaw29_cp: function 15 -/
def swarflaw29_cp.f (l0 : List (S47)) : Option ((List (S47))) := (some (([] : List (S47)) : List (S47))).bind fun y190 => (if y190.length + l0.length < 8796093022208 then (some (y190 ++ l0)) else (none))
set_option maxHeartbeats 8000000 in
set_option maxRecDepth 100000 in
theorem swarflaw29_cp.calls (A0 : Option Addr) (c0 : Nat) (l0 : List (S47)) (r : List (S47)) (w : World) (hr0 : Kd.C k47 w A0 l0.length l0) (hc0 : l0.length ≤ c0) (h : swarflaw29_cp.f l0 = some r) :
  Calls Try.prog 15 #[.slice A0 l0.length c0] w fun e w' => ∃ v0_ : Value, e = .returned (v0_) ∧ Kd.R k47 47 w' w.heap.size (fun _ => True) v0_ r ∧ Below w.heap.size w w' := by
 have HR0 := Aside0.mk hr0
 have HC0 := Aside0.mk hc0
 clear hr0 hc0
 have HB := Aside0.mk (Below.refl w.heap.size w)
 have H : ((some (([] : List (S47)) : List (S47))).bind fun y190 => (if y190.length + l0.length < 8796093022208 then (some (y190 ++ l0)) else (none))) = some r := h
 clear h
 obtain ⟨y190, hy190⟩ : ∃ y_ : List (S47), y_ = (([] : List (S47))) := ⟨_, rfl⟩
 replace H : (if y190.length + l0.length < 8796093022208 then (some (y190 ++ l0)) else (none)) = some r := by first | (rw [hy190]; with_reducible exact H) | (have H2_ := (Option.bind_some _ _).symm.trans H; rw [hy190]; with_reducible exact H2_) | (have H2_ := (Option.bind_some _ _).symm.trans H; with_reducible exact H2_) | with_reducible exact H | (rw [hy190]; exact H) | exact H
 have Ny190 := Aside0.mk hy190
 clear hy190
 by_cases c2 : y190.length + l0.length < 8796093022208
 ·rw [if_pos c2] at H; have LMc2 := Aside0.mk c2; clear c2
  obtain ⟨y193, hy193⟩ : ∃ y_ : List (S47), y_ = (y190 ++ l0) := ⟨_, rfl⟩
  replace H : (some y193) = some r := by first | (rw [hy193]; with_reducible exact H) | (have H2_ := (Option.bind_some _ _).symm.trans H; rw [hy193]; with_reducible exact H2_) | (have H2_ := (Option.bind_some _ _).symm.trans H; with_reducible exact H2_) | with_reducible exact H | (rw [hy193]; exact H) | exact H
  have Ny193 := Aside0.mk hy193; clear hy193; obtain rfl := Option.some.inj H
  go_enter Try.func15, Try.ntmps15
  go_wp2_with (first | ((with_reducible refine gate_dst (N := 3) rfl ?_); refine Kd.R_lit k47 _ 47 ?hg (N := 3) ?hd (xs := ([] : List (S47))) (inner := []) (ok := fun _ => True) (okp := fun _ => True) ?hr ?hp (fun _ hk => hk) trivial (Below.refl _ _) (Nat.le_refl _) (by simp) ?_; (case hd => rfl); (case hg => rfl); (case hr => first | (go_simp; done) | (go_simp; rfl)); (case hp => exact (Reps.none _ _)); intro v191 w3 ho4 hb hg_ hnew_; clear hg_ hnew_; (first | rw [← Ny190.out] at ho4 | (simp only [Int.reduceToNat] at ho4; rw [← Ny190.out] at ho4)); have n0_ := Aside0.mk (Kd.R_lower ho4 (below_size (by repeat (first | (with_reducible first | exact HB.out | apply below_alloc | apply pw_below_drewN | apply below_drew1) | exact HB.out)))); have n1_ := Aside0.mk (below_step (by repeat (first | (with_reducible first | exact HB.out | apply below_alloc | apply pw_below_drewN | apply below_drew1) | exact HB.out)) hb); clear HB; have HO192 := n0_; have HB := n1_; clear n0_ n1_; clear hb ho4) | ((with_reducible refine gate_builtin (b := .append) (xs := #[.tmp 3, .tmp 4]) rfl ?_); at_builtin; refine Kd.R_append_rows k47 (w0 := w) w.heap.size rfl (.tmp 3) (.tmp 4) 22 47 (.agg #[(.int .i64 0), (.int .i64 0)]) 16 rfl Try.underlying22 info47 rfl (by decide) (by omega) v191 y190 l0 _ _ _ (fun _ => True) (fun _ => False) rfl rfl ?aO ?aR (fun _ _ h => h) (fun _ h => h.elim) ?aF ?aB ?aS ?aL ?_; (case aR => repeat (first | exact (Kd.C_below HR0.out HB.out) | (with_reducible refine Kd.C_alloc ?_ _) | (with_reducible refine Kd.C_drewN ?_ _) | (with_reducible refine Kd.C_drew ?_))); (case aB => exact (by repeat (first | (with_reducible first | exact HB.out | apply below_alloc | apply pw_below_drewN | apply below_drew1) | exact HB.out))); (case aF => exact (fun _ _ => trivial)); (case aO => exact (by (with_reducible repeat (first | apply Kd.R_alloc | apply Kd.R_drewN | apply Kd.R_drew)); exact HO192.out)); (case aS => exact (below_size (by repeat (first | (with_reducible first | exact HB.out | apply below_alloc | apply pw_below_drewN | apply below_drew1) | exact HB.out)))); (case aL => have := LMc2.out; omega); intro v194 w5 ho hb hg hat; rw [← Ny193.out] at ho; have n0_ := Aside0.mk (hb); have n1_ := Aside0.mk (ho); clear HB; clear HO192; have HB := n0_; have HO195 := n1_; clear n0_ n1_; clear ho hb hg hat))
  go_ret
  exact ⟨_, by first | rfl | (simp [errW_none, errW_some] <;> rfl) | (simp [*, errW_none, errW_some] <;> rfl), by (with_reducible repeat (first | apply Kd.R_alloc | apply Kd.R_drewN | apply Kd.R_drew)); exact HO195.out, by repeat (first | (with_reducible first | exact HB.out | apply below_alloc | apply pw_below_drewN | apply below_drew1) | exact HB.out)⟩
 ·rw [if_neg c2] at H
  exact absurd H (by simp)

end Go.Proofs.Ytbbkclcfmcjlgaa.P

-- PRINTED by print.py (a twelfth state) out of the translation. Not trusted: Lean checks it.

namespace Go.Proofs.Ytbbkclcfmcjlgaa.P
open Go.RowKit Go.Proofs.YtbbkclcfmcjlgaaW.PrintWords Go.Proofs.YtbbkclcfmcjlgaaW.PrintLast Go.Proofs.YtbbkclcfmcjlgaaW.PrintMore
attribute [local go_sem] max2_int min2_int max_two min_two max_three min_three max_four min_four   -- for this text's walks alone
set_option linter.unusedVariables false
set_option linter.unusedSimpArgs false

/-! ### swarfref29_ready: function 41 -/
def swarfref29_ready.l0 : Nat → List (S47) → List Int → Int → Int → Option (Bool)
 | 0, _, _, _, _ => none
 | k + 1, x0, x1, x2, x7 => if x7 < (x0.length : Int) then (if 0 ≤ x7 then (if ((rd_T47 x0 x7).f1) = x2 then ((swarfref29_in.f k x1 ((rd_T47 x0 x7).f0)).bind fun t241 => (if t241 = true then (swarfref29_ready.l0 k x0 x1 x2 (wrap64 (x7 + 1))) else (some false))) else (swarfref29_ready.l0 k x0 x1 x2 (wrap64 (x7 + 1)))) else (none)) else (some true)
def swarfref29_ready.f (k : Nat) (l0 : List (S47)) (l1 : List Int) (a2 : Int) : Option (Bool) := swarfref29_ready.l0 k l0 l1 a2 0
theorem swarfref29_ready.mono_l : ∀ k, (∀ y0 y1 y2 y3, LeO (swarfref29_ready.l0 k y0 y1 y2 y3) (swarfref29_ready.l0 (k + 1) y0 y1 y2 y3))
 | 0 => fun _ _ _ _ r h => by simp [swarfref29_ready.l0] at h
 | k + 1 => by
  have ih0 := swarfref29_ready.mono_l k
  ·intro y0 y1 y2 y3
   unfold swarfref29_ready.l0
   repeat' first
   | (with_reducible exact ih0 _ _ _ _)
   | (with_reducible exact swarfref29_in.mono _ _ _)
   | (with_reducible exact LeO.refl _)
   | (with_reducible exact LeO.none _)
   | (with_reducible refine LeO.ite ?_ ?_)
   | (with_reducible refine LeO.bind ?_ (fun _ => ?_))
   | exact ih0 _ _ _ _
   | exact swarfref29_in.mono _ _ _
   | exact LeO.none _
   | refine LeO.ite ?_ ?_
   | refine LeO.bind ?_ (fun _ => ?_)
theorem swarfref29_ready.mono : ∀ a0 a1 a2 k, LeO (swarfref29_ready.f k a0 a1 a2) (swarfref29_ready.f (k + 1) a0 a1 a2) := by
 intro a0 a1 a2 k
 have ih0 := swarfref29_ready.mono_l k
 unfold swarfref29_ready.f
 repeat' first
   | (with_reducible exact ih0 _ _ _ _)
   | (with_reducible exact swarfref29_in.mono _ _ _)
   | (with_reducible exact LeO.refl _)
   | (with_reducible exact LeO.none _)
   | (with_reducible refine LeO.ite ?_ ?_)
   | (with_reducible refine LeO.bind ?_ (fun _ => ?_))
   | exact ih0 _ _ _ _
   | exact swarfref29_in.mono _ _ _
   | exact LeO.none _
   | refine LeO.ite ?_ ?_
   | refine LeO.bind ?_ (fun _ => ?_)
set_option maxHeartbeats 8000000 in
set_option maxRecDepth 100000 in
theorem swarfref29_ready.calls (k : Nat) (A0 : Option Addr) (c0 : Nat) (l0 : List (S47)) (A1 : Option Addr) (c1 : Nat) (l1 : List Int) (a2 : Int) (r : Bool) (w : World) (hr0 : Kd.C k47 w A0 l0.length l0) (hc0 : l0.length ≤ c0) (hr1 : Kd.C (Kd.int .i64) w A1 l1.length l1) (hc1 : l1.length ≤ c1) (h : swarfref29_ready.f k l0 l1 a2 = some r) :
  Calls Try.prog 41 #[.slice A0 l0.length c0, .slice A1 l1.length c1, .int .i64 a2] w fun e w' => e = .returned (.bool r) ∧ Drawn0 w w' := by
 have HR0 := Aside0.mk hr0
 have HC0 := Aside0.mk hc0
 clear hr0 hc0
 have HR1 := Aside0.mk hr1
 have HC1 := Aside0.mk hc1
 clear hr1 hc1
 have H : (swarfref29_ready.l0 k l0 l1 a2 0) = some r := h
 clear h
 have H' := Aside0.mk H
 clear H
 go_enter Try.func41, Try.ntmps41
 go_wp2
 go_loopg [7] k (fun kq v7 w' => ∃ (x7_1 : Int), v7 = .int .i64 x7_1 ∧ Aside0 (swarfref29_ready.l0 kq l0 l1 a2 x7_1 = some r) ∧ Aside0 (kq ≤ k) ∧ Drawn0 w w')
 case atStart => exact ⟨(0), (by first | rfl | (simp; done) | (simp [*]; done)), H', ⟨Nat.le_refl _⟩, by repeat (first | exact Drawn0.refl _ | apply Drawn0.step)⟩
 case round =>
  clear H'; try clear c1; try clear p2
  obtain ⟨x7_1, rfl, HA, HK1, ⟨m1, rfl⟩⟩ := hrel
  cases gk with
  | zero => exact absurd HA.out (by simp [swarfref29_ready.l0])
  | succ k1 =>
   have H := HA.out
   clear HA
   simp only [swarfref29_ready.l0] at H
   by_cases c4 : x7_1 < (l0.length : Int)
   ·rw [if_pos c4] at H
    have c4b0 : decide (x7_1 < (l0.length : Int)) = true := decide_eq_true c4
    clear c4
    by_cases c5 : 0 ≤ x7_1
    ·rw [if_pos c5] at H
     have c5b0 : decide (0 ≤ x7_1) = true := decide_eq_true c5
     clear c5
     by_cases c6 : ((rd_T47 l0 x7_1).f1) = a2
     ·rw [if_pos c6] at H
      have c6b0 : (((rd_T47 l0 x7_1).f1) == a2) = true := beq_iff_eq.mpr c6
      have c6b1 : (((rd_T47 l0 x7_1).f1) != a2) = false := bne_eq_false_iff_eq.mpr c6
      clear c6; replace H := Option.bind_eq_some_iff.mp H
      obtain ⟨t241, A70, H⟩ := H
      replace H : (if t241 = true then (swarfref29_ready.l0 k1 l0 l1 a2 (wrap64 (x7_1 + 1))) else (some false)) = some r := H
      have A7 := Aside0.mk A70; clear A70
      by_cases c8 : t241 = true
      ·subst c8
       have H1 : (swarfref29_ready.l0 k1 l0 l1 a2 (wrap64 (x7_1 + 1))) = some r := by rw [if_pos rfl] at H; exact H
       clear H; have H := H1; clear H1; have H' := Aside0.mk H; clear H
       have p239 : 0 ≤ (x7_1 : Int) := of_decide_eq_true (by first | (with_reducible assumption) | assumption)
       have q239 : x7_1 < (l0.length : Int) := of_decide_eq_true (by first | (with_reducible assumption) | assumption)
       obtain ⟨ad239, e239, hx239_0, hx239_1⟩ := at_T47 HR0.out x7_1 p239 q239
       cases e239; replace p239 := eq_true p239; replace q239 := eq_true q239
       have p240 : 0 ≤ (x7_1 : Int) := of_decide_eq_true (by first | (with_reducible assumption) | assumption)
       have q240 : x7_1 < (l0.length : Int) := of_decide_eq_true (by first | (with_reducible assumption) | assumption)
       obtain ⟨ad240, e240, hx240_0, hx240_1⟩ := at_T47 HR0.out x7_1 p240 q240
       obtain rfl : ad239 = ad240 := (by injection e240)
       replace p240 := eq_true p240; replace q240 := eq_true q240
       go_wp2_with (first | (go_at_call 40; (with_reducible refine (swarfref29_in.calls k1 _ _ l1 ((rd_T47 l0 x7_1).f0) true _ ?side1 ?side2 A7.out).mono ?_); (case side1 => repeat (first | exact HR1.out | (with_reducible refine Kd.C_alloc ?_ _) | (with_reducible refine Kd.C_drewN ?_ _) | (with_reducible refine Kd.C_drew ?_))); (case side2 => exact HC1.out); rintro e w' ⟨rfl, ⟨nd, rfl⟩⟩))
       go_roundg k1
       case measure => have := HK1.out; omega
       case rel => exact ⟨(wrap64 (x7_1 + 1)), (by first | rfl | (simp; done) | (simp [*]; done)), H', ⟨by have := HK1.out; omega⟩, by repeat (first | exact Drawn0.refl _ | apply Drawn0.step)⟩
      ·replace c8 := Bool.eq_false_iff.mpr c8
       subst c8
       have H1 : (some false) = some r := by rw [if_neg (show ¬ (false = true) by decide)] at H; exact H
       clear H; have H := H1; clear H1; obtain rfl := Option.some.inj H
       have p239 : 0 ≤ (x7_1 : Int) := of_decide_eq_true (by first | (with_reducible assumption) | assumption)
       have q239 : x7_1 < (l0.length : Int) := of_decide_eq_true (by first | (with_reducible assumption) | assumption)
       obtain ⟨ad239, e239, hx239_0, hx239_1⟩ := at_T47 HR0.out x7_1 p239 q239
       cases e239; replace p239 := eq_true p239; replace q239 := eq_true q239
       have p240 : 0 ≤ (x7_1 : Int) := of_decide_eq_true (by first | (with_reducible assumption) | assumption)
       have q240 : x7_1 < (l0.length : Int) := of_decide_eq_true (by first | (with_reducible assumption) | assumption)
       obtain ⟨ad240, e240, hx240_0, hx240_1⟩ := at_T47 HR0.out x7_1 p240 q240
       obtain rfl : ad239 = ad240 := (by injection e240)
       replace p240 := eq_true p240; replace q240 := eq_true q240
       go_wp2_with (first | (go_at_call 40; (with_reducible refine (swarfref29_in.calls k1 _ _ l1 ((rd_T47 l0 x7_1).f0) false _ ?side1 ?side2 A7.out).mono ?_); (case side1 => repeat (first | exact HR1.out | (with_reducible refine Kd.C_alloc ?_ _) | (with_reducible refine Kd.C_drewN ?_ _) | (with_reducible refine Kd.C_drew ?_))); (case side2 => exact HC1.out); rintro e w' ⟨rfl, ⟨nd, rfl⟩⟩))
       go_ret
       exact ⟨by first | rfl | (simp; done) | (simp [*]; done), by repeat (first | exact Drawn0.refl _ | apply Drawn0.step)⟩
     ·rw [if_neg c6] at H
      have c6b0 : (((rd_T47 l0 x7_1).f1) == a2) = false := beq_eq_false_iff_ne.mpr c6
      have c6b1 : (((rd_T47 l0 x7_1).f1) != a2) = true := bne_iff_ne.mpr c6
      have H' := Aside0.mk H; clear H
      have p239 : 0 ≤ (x7_1 : Int) := of_decide_eq_true (by first | (with_reducible assumption) | assumption)
      have q239 : x7_1 < (l0.length : Int) := of_decide_eq_true (by first | (with_reducible assumption) | assumption)
      obtain ⟨ad239, e239, hx239_0, hx239_1⟩ := at_T47 HR0.out x7_1 p239 q239
      cases e239; replace p239 := eq_true p239; replace q239 := eq_true q239; go_wp2
      go_roundg k1
      case measure => have := HK1.out; omega
      case rel => exact ⟨(wrap64 (x7_1 + 1)), (by first | rfl | (simp; done) | (simp [*]; done)), H', ⟨by have := HK1.out; omega⟩, by repeat (first | exact Drawn0.refl _ | apply Drawn0.step)⟩
    ·rw [if_neg c5] at H
     exact absurd H (by simp)
   ·rw [if_neg c4] at H
    have c4b0 : decide (x7_1 < (l0.length : Int)) = false := decide_eq_false c4
    clear c4; obtain rfl := Option.some.inj H; go_wp2; go_ret
    exact ⟨by first | rfl | (simp; done) | (simp [*]; done), by repeat (first | exact Drawn0.refl _ | apply Drawn0.step)⟩

end Go.Proofs.Ytbbkclcfmcjlgaa.P

/- What the printed functions of relations come to: errors, lists of numbers and pairs, changes. Plain numbers and lists. -/

namespace Go.Proofs.Ytbbkclcfmcjlgaa.B
open Go.RowKit Go.Proofs.Ytbbkclcfmcjlgaa.P Go.Proofs.YtbbkclcfmcjlgaaW.PrintWords Go.Proofs.YtbbkclcfmcjlgaaW.PrintLast Go.Proofs.YtbbkclcfmcjlgaaW.PrintMore
set_option linter.unusedVariables false
set_option linter.unusedSimpArgs false

theorem wrap_mid (x : Int) (h0 : -4000000000000000 ≤ x) (h1 : x ≤ 4000000000000000) : wrap64 x = x := by unfold wrap64; omega
theorem wrap_succ (x : Int) (h0 : 0 ≤ x) (h1 : x ≤ 1000000000000000) : wrap64 (x + 1) = x + 1 := wrap_mid _ (by omega) (by omega)
theorem ev_end {α : Type} {g : Nat → Option α} {r : α} (h : ∀ k, g (k + 1) = some r) : Ev g r := Ev.step (f := fun _ => some r) h (Ev.now r)
def EvP {α : Type} (g : Nat → Option α) (Post : α → Prop) : Prop := ∃ r, Ev g r ∧ Post r
theorem EvP.step {α : Type} {g f : Nat → Option α} {Post : α → Prop} (h : ∀ k, g (k + 1) = f k) (k : EvP f Post) : EvP g Post := by
  obtain ⟨r, h1, h2⟩ := k
  exact ⟨r, Ev.step h h1, h2⟩
theorem EvP.stop {α : Type} {g : Nat → Option α} {Post : α → Prop} (r : α) (h : ∀ k, g (k + 1) = some r) (hp : Post r) : EvP g Post := ⟨r, ev_end h, hp⟩
theorem EvP.bind {α β : Type} {g : Nat → Option α} {f : Nat → α → Option β} {a : α} {Post : β → Prop} (h : Ev g a) (k : EvP (fun n => f n a) Post) : EvP (fun n => (g n).bind (f n)) Post := by
  obtain ⟨r, h1, h2⟩ := k
  exact ⟨r, Ev.bind h h1, h2⟩
theorem EvP.mono {α : Type} {g : Nat → Option α} {P Q : α → Prop} (h : EvP g P) (hq : ∀ a, P a → Q a) : EvP g Q := by
  obtain ⟨r, h1, h2⟩ := h
  exact ⟨r, h1, hq _ h2⟩
theorem EvP.same {α : Type} {g f : Nat → Option α} {Post : α → Prop} (h : ∀ k, g k = f k) (k : EvP f Post) : EvP g Post := by
  have : g = f := funext h
  rw [this]; exact k

/-! ### Lists read at places -/
theorem drop_rd (l : List Int) (j : Int) (h0 : 0 ≤ j) (h : j < (l.length : Int)) : l.drop j.toNat = rd l j :: l.drop (j + 1).toNat := by
  have h1 : j.toNat < l.length := by omega
  rw [List.drop_eq_getElem_cons h1, show (j + 1).toNat = j.toNat + 1 by omega]
  congr 1
  unfold rd
  simp [List.getD, h1]
theorem drop_end {α : Type} (l : List α) (j : Int) (h : (l.length : Int) ≤ j) : l.drop j.toNat = [] := List.drop_eq_nil_of_le (by omega)

/-! ### The error of a relation -/
def okp (n : Int) (p : S47) : Bool := decide (p.f0 ≠ p.f1) && (decide (0 ≤ p.f0) && decide (p.f0 < n)) && (decide (0 ≤ p.f1) && decide (p.f1 < n))
/-! ### Equal lists -/
theorem S47.eta (p q : S47) : p = q ↔ p.f0 = q.f0 ∧ p.f1 = q.f1 := by
  constructor
  · rintro rfl; exact ⟨rfl, rfl⟩
  · cases p; cases q; rintro ⟨rfl, rfl⟩; rfl
instance : DecidableEq S47 := fun p q => if h : p.f0 = q.f0 ∧ p.f1 = q.f1 then isTrue ((S47.eta p q).2 h) else isFalse (fun e => h ((S47.eta p q).1 e))
/-! ### Is it in the list? -/
end Go.Proofs.Ytbbkclcfmcjlgaa.B

/- What the two counts of changes come to. Plain numbers and lists. -/

namespace Go.Proofs.Ytbbkclcfmcjlgaa.B
open Go.RowKit Go.Proofs.Ytbbkclcfmcjlgaa.P Go.Proofs.YtbbkclcfmcjlgaaW.PrintWords Go.Proofs.YtbbkclcfmcjlgaaW.PrintLast Go.Proofs.YtbbkclcfmcjlgaaW.PrintMore
set_option linter.unusedVariables false
set_option linter.unusedSimpArgs false

/-- The changes of an order of which the number before is la (negative: none). -/
def cst (tl : List Int) : Int → List Int → Int
  | _, [] => 0
  | la, i :: w => (if 0 ≤ la ∧ rd tl la ≠ rd tl i then 1 else 0) + cst tl i w
def inr (m : Int) (x : Int) : Bool := decide (0 ≤ x) && decide (x < m)
theorem inr_iff (m x : Int) : inr m x = true ↔ 0 ≤ x ∧ x < m := by simp [inr]
def chgs (o tl : List Int) : Int := if o.all (inr tl.length) = true then cst tl (-1) o else -1
def prv (o : List Int) (j : Int) : Int := if j = 0 then -1 else rd o (j - 1)
def rest (tl o : List Int) (c j : Int) : Int := if (o.drop j.toNat).all (inr tl.length) = true then c + cst tl (prv o j) (o.drop j.toNat) else -1
theorem rest_end (tl o : List Int) (c j : Int) (h : (o.length : Int) ≤ j) : rest tl o c j = c := by
  unfold rest
  rw [drop_end o j h]
  simp [cst]
theorem rest_bad (tl o : List Int) (c j : Int) (h0 : 0 ≤ j) (h : j < (o.length : Int)) (hb : ¬ (0 ≤ rd o j ∧ rd o j < (tl.length : Int))) : rest tl o c j = -1 := by
  unfold rest
  rw [drop_rd o j h0 h, List.all_cons]
  rw [show inr tl.length (rd o j) = false by rw [← Bool.not_eq_true, inr_iff]; exact hb]
  simp
theorem rest_step (tl o : List Int) (c j : Int) (h0 : 0 ≤ j) (h : j < (o.length : Int)) (hb : 0 ≤ rd o j ∧ rd o j < (tl.length : Int)) : rest tl o c j = rest tl o (c + (if 0 ≤ prv o j ∧ rd tl (prv o j) ≠ rd tl (rd o j) then 1 else 0)) (j + 1) := by
  unfold rest
  rw [drop_rd o j h0 h, List.all_cons, (inr_iff _ _).2 hb, Bool.true_and]
  split
  · rw [cst, show prv o (j + 1) = rd o j by unfold prv; rw [if_neg (by omega)]; congr 1; omega]
    omega
  · rfl
theorem rchanges_l0 (o tl : List Int) (ho : o.length ≤ 100000000000000) (d : Nat) : ∀ (j c : Int), 0 ≤ j → j + d = o.length → 0 ≤ c → c ≤ j → (j = 0 ∨ (0 ≤ rd o (j - 1) ∧ rd o (j - 1) < (tl.length : Int))) → Ev (fun k => swarfref29_Changes.l0 k o tl c j) (rest tl o c j) := by
  induction d with
  | zero =>
    intro j c h0 hj _ _ _
    rw [rest_end tl o c j (by omega)]
    exact ev_end (fun k => by simp only [swarfref29_Changes.l0]; rw [if_neg (by omega)])
  | succ d ih =>
    intro j c h0 hj c0 c1 hp
    have hw := wrap_succ j h0 (by omega)
    have hwc := wrap_succ c c0 (by omega)
    have hwm : wrap64 (j - 1) = j - 1 := wrap_mid _ (by omega) (by omega)
    by_cases hb : 0 ≤ rd o j ∧ rd o j < (tl.length : Int)
    · rw [rest_step tl o c j h0 (by omega) hb]
      have hstep : ∀ x, Ev (fun k => swarfref29_Changes.j1 k o tl c j false) x → Ev (fun k => swarfref29_Changes.l0 k o tl c j) x := by
        intro x hx
        refine Ev.step (fun k => ?_) hx
        simp only [swarfref29_Changes.l0]
        rw [if_pos (by omega), if_pos h0, if_neg (by omega), decide_eq_false (show ¬ rd o j ≥ (tl.length : Int) by omega)]
      refine hstep _ ?_
      by_cases z : j = 0
      · subst z
        rw [show prv o 0 = -1 from rfl, if_neg (by omega), Int.add_zero]
        refine Ev.step (fun k => ?_) (ih 1 c (by omega) (by omega) c0 (by omega) (.inr (by simpa using hb)))
        simp only [swarfref29_Changes.j1]
        rw [if_neg (by decide), if_neg (by omega), hw]
        rfl
      · have hq : 0 ≤ rd o (j - 1) ∧ rd o (j - 1) < (tl.length : Int) := hp.resolve_left z
        rw [show prv o j = rd o (j - 1) by unfold prv; rw [if_neg z]]
        by_cases e : rd tl (rd o (j - 1)) = rd tl (rd o j)
        · rw [if_neg (fun h => h.2 e), Int.add_zero]
          refine Ev.step (fun k => ?_) (ih (j + 1) c (by omega) (by omega) c0 (by omega) (.inr (by rw [show j + 1 - 1 = j by omega]; exact hb)))
          simp only [swarfref29_Changes.j1]
          rw [if_neg (by decide), if_pos (by omega), if_pos h0, if_pos (by omega), if_pos hb.1, if_pos hb.2, hwm, if_pos (by omega), if_pos (by omega), if_pos hq.1, if_pos hq.2, if_pos e.symm, hw]
        · rw [if_pos ⟨hq.1, e⟩]
          refine Ev.step (fun k => ?_) (ih (j + 1) (c + 1) (by omega) (by omega) (by omega) (by omega) (.inr (by rw [show j + 1 - 1 = j by omega]; exact hb)))
          simp only [swarfref29_Changes.j1]
          rw [if_neg (by decide), if_pos (by omega), if_pos h0, if_pos (by omega), if_pos hb.1, if_pos hb.2, hwm, if_pos (by omega), if_pos (by omega), if_pos hq.1, if_pos hq.2, if_neg (fun h => e h.symm), hw, hwc]
    · rw [rest_bad tl o c j h0 (by omega) hb]
      by_cases h1 : rd o j < 0
      · refine Ev.step (f := fun k => swarfref29_Changes.j1 k o tl c j true) (fun k => ?_) (ev_end (fun k => by simp [swarfref29_Changes.j1]))
        simp only [swarfref29_Changes.l0]
        rw [if_pos (by omega), if_pos h0, if_pos h1]
      · refine Ev.step (f := fun k => swarfref29_Changes.j1 k o tl c j true) (fun k => ?_) (ev_end (fun k => by simp [swarfref29_Changes.j1]))
        simp only [swarfref29_Changes.l0]
        rw [if_pos (by omega), if_pos h0, if_neg h1, decide_eq_true (show rd o j ≥ (tl.length : Int) by omega)]
theorem rchanges_ev (o tl : List Int) (ho : o.length ≤ 100000000000000) : Ev (fun k => swarfref29_Changes.f k o tl) (chgs o tl) := by
  unfold swarfref29_Changes.f
  have h := rchanges_l0 o tl ho o.length 0 0 (by omega) (by omega) (by omega) (by omega) (.inl rfl)
  have e : rest tl o 0 0 = chgs o tl := by
    unfold rest chgs
    simp [prv]
  rwa [e] at h
theorem changes_l0 (o tl : List Int) (ho : o.length ≤ 100000000000000) (d : Nat) : ∀ (j c : Int), 0 ≤ j → j + d = o.length → 0 ≤ c → c ≤ j → (j = 0 ∨ (0 ≤ rd o (j - 1) ∧ rd o (j - 1) < (tl.length : Int))) → Ev (fun k => precedence_Changes.l0 k o tl c o (o.length : Int) j) (rest tl o c j) := by
  induction d with
  | zero =>
    intro j c h0 hj _ _ _
    rw [rest_end tl o c j (by omega)]
    exact ev_end (fun k => by simp only [precedence_Changes.l0]; rw [if_neg (by omega)])
  | succ d ih =>
    intro j c h0 hj c0 c1 hp
    have hw := wrap_succ j h0 (by omega)
    have hwc := wrap_succ c c0 (by omega)
    have hwm : wrap64 (j - 1) = j - 1 := wrap_mid _ (by omega) (by omega)
    by_cases hb : 0 ≤ rd o j ∧ rd o j < (tl.length : Int)
    · rw [rest_step tl o c j h0 (by omega) hb]
      have hstep : ∀ x, Ev (fun k => precedence_Changes.j1 k o tl c j (rd o j) o (o.length : Int) j false) x → Ev (fun k => precedence_Changes.l0 k o tl c o (o.length : Int) j) x := by
        intro x hx
        refine Ev.step (fun k => ?_) hx
        simp only [precedence_Changes.l0]
        rw [if_pos (by omega), if_pos h0, if_pos (by omega), if_neg (by omega), decide_eq_false (show ¬ rd o j ≥ (tl.length : Int) by omega)]
      refine hstep _ ?_
      by_cases z : j = 0
      · subst z
        rw [show prv o 0 = -1 from rfl, if_neg (by omega), Int.add_zero]
        refine Ev.step (fun k => ?_) (ih 1 c (by omega) (by omega) c0 (by omega) (.inr (by simpa using hb)))
        simp only [precedence_Changes.j1]
        rw [if_neg (by decide), if_neg (by omega), hw]
        rfl
      · have hq : 0 ≤ rd o (j - 1) ∧ rd o (j - 1) < (tl.length : Int) := hp.resolve_left z
        rw [show prv o j = rd o (j - 1) by unfold prv; rw [if_neg z]]
        by_cases e : rd tl (rd o (j - 1)) = rd tl (rd o j)
        · rw [if_neg (fun h => h.2 e), Int.add_zero]
          refine Ev.step (fun k => ?_) (ih (j + 1) c (by omega) (by omega) c0 (by omega) (.inr (by rw [show j + 1 - 1 = j by omega]; exact hb)))
          simp only [precedence_Changes.j1]
          rw [if_neg (by decide), if_pos (by omega), hwm, if_pos (by omega), if_pos (by omega), if_pos hq.1, if_pos hq.2, if_pos hb.1, if_pos hb.2, if_pos e, hw]
        · rw [if_pos ⟨hq.1, e⟩]
          refine Ev.step (fun k => ?_) (ih (j + 1) (c + 1) (by omega) (by omega) (by omega) (by omega) (.inr (by rw [show j + 1 - 1 = j by omega]; exact hb)))
          simp only [precedence_Changes.j1]
          rw [if_neg (by decide), if_pos (by omega), hwm, if_pos (by omega), if_pos (by omega), if_pos hq.1, if_pos hq.2, if_pos hb.1, if_pos hb.2, if_neg e, hw, hwc]
    · rw [rest_bad tl o c j h0 (by omega) hb]
      by_cases h1 : rd o j < 0
      · refine Ev.step (f := fun k => precedence_Changes.j1 k o tl c j (rd o j) o (o.length : Int) j true) (fun k => ?_) (ev_end (fun k => by simp [precedence_Changes.j1]))
        simp only [precedence_Changes.l0]
        rw [if_pos (by omega), if_pos h0, if_pos (by omega), if_pos h1]
      · refine Ev.step (f := fun k => precedence_Changes.j1 k o tl c j (rd o j) o (o.length : Int) j true) (fun k => ?_) (ev_end (fun k => by simp [precedence_Changes.j1]))
        simp only [precedence_Changes.l0]
        rw [if_pos (by omega), if_pos h0, if_pos (by omega), if_neg h1, decide_eq_true (show rd o j ≥ (tl.length : Int) by omega)]
theorem changes_ev (o tl : List Int) (ho : o.length ≤ 100000000000000) : Ev (fun k => precedence_Changes.f k o tl) (chgs o tl) := by
  unfold precedence_Changes.f
  have h := changes_l0 o tl ho o.length 0 0 (by omega) (by omega) (by omega) (by omega) (.inl rfl)
  have e : rest tl o 0 0 = chgs o tl := by
    unfold rest chgs
    simp [prv]
  rwa [e] at h
end Go.Proofs.Ytbbkclcfmcjlgaa.B

/- PrecedenceChanges: the printed law answers true. -/

namespace Go.Proofs.Ytbbkclcfmcjlgaa.B
open Go.RowKit Go.Proofs.Ytbbkclcfmcjlgaa.P Go.Proofs.YtbbkclcfmcjlgaaW.PrintWords Go.Proofs.YtbbkclcfmcjlgaaW.PrintLast Go.Proofs.YtbbkclcfmcjlgaaW.PrintMore
set_option linter.unusedVariables false
set_option linter.unusedSimpArgs false
theorem changes_j0 (o tl : List Int) (b : Bool) (h : b = false → o.length ≤ 40) : Ev (fun k => swarflaw29_PrecedenceChanges.j0 k o tl b) true := by
  cases b with
  | true =>
    refine Ev.step (f := fun k => (swarflaw29_awake.f k).bind fun t => some t) (fun k => ?_) (Ev.bind awake_ev (Ev.now _))
    simp only [swarflaw29_PrecedenceChanges.j0]
    rw [if_pos trivial]
  | false =>
    have hl := h rfl
    refine Ev.step (f := fun k => (precedence_Changes.f k o tl).bind fun t401 => (swarfref29_Changes.f k o tl).bind fun t402 => some (t401 == t402)) (fun k => ?_) (Ev.bind (changes_ev o tl (by omega)) (Ev.bind (rchanges_ev o tl (by omega)) ?_))
    · simp only [swarflaw29_PrecedenceChanges.j0]
      rw [if_neg (by decide)]
    · simp only [beq_self_eq_true]; exact Ev.now _
theorem PrecedenceChanges (o tl : List Int) : ∃ k, swarflaw29_PrecedenceChanges.f k o tl = some true := by
  refine Ev.rounds (g := fun k => swarflaw29_PrecedenceChanges.f k o tl) ?_
  unfold swarflaw29_PrecedenceChanges.f
  refine Ev.bind awake_ev ?_
  simp only [if_true]
  by_cases h1 : (o.length : Int) > 40
  · simp only [if_pos h1]
    exact changes_j0 o tl _ (fun h => by cases h)
  · simp only [if_neg h1]
    exact changes_j0 o tl _ (fun _ => by omega)
end Go.Proofs.Ytbbkclcfmcjlgaa.B
