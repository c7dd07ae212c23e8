import Derived.Test.YtohjocajaanhaaaT4M21
-- PRINTED by print.py (a twelfth state) out of the translation. Not trusted: Lean checks it.

namespace Go.Proofs.Ytohjocajaanhaaa.P
open Go.RowKit Go.Proofs.YtohjocajaanhaaaW.PrintWords Go.Proofs.YtohjocajaanhaaaW.PrintLast Go.Proofs.YtohjocajaanhaaaW.PrintMore
attribute [local go_sem] max2_int min2_int max_two min_two max_three min_three max_four min_four   -- for this text's walks alone
set_option linter.unusedVariables false
set_option linter.unusedSimpArgs false

/-! ### swarfref38_Valid: function 31 -/
def swarfref38_Valid.l0 : Nat → List (S31) → Int → Option (Int)
  | 0, _, _ => none
  | k + 1, x0, x5 => if x5 < (x0.length : Int) then (if 0 ≤ x5 then (if ((rd_T31 x0 x5).f0) > 10000000 then (some 11) else (if ((rd_T31 x0 x5).f0) < (-10000000) then (some 11) else (if ((rd_T31 x0 x5).f1) > 10000000 then (some 11) else (if ((rd_T31 x0 x5).f1) < (-10000000) then (some 11) else (swarfref38_Valid.l0 k x0 (wrap64 (x5 + 1))))))) else (none)) else (some 0)
def swarfref38_Valid.f (k : Nat) (l0 : List (S31)) (a1 : Int) : Option (Int) := if (l0.length : Int) > a1 then (some 3) else (swarfref38_Valid.l0 k l0 0)
theorem swarfref38_Valid.mono_l : ∀ k, (∀ y0 y1, LeO (swarfref38_Valid.l0 k y0 y1) (swarfref38_Valid.l0 (k + 1) y0 y1))
  | 0 => fun _ _ r h => by simp [swarfref38_Valid.l0] at h
  | k + 1 => by
    have ih0 := swarfref38_Valid.mono_l k
    · intro y0 y1
      unfold swarfref38_Valid.l0
      repeat' first
      | (with_reducible exact ih0 _ _)
      | (with_reducible exact LeO.refl _)
      | (with_reducible exact LeO.none _)
      | (with_reducible refine LeO.ite ?_ ?_)
      | (with_reducible refine LeO.bind ?_ (fun _ => ?_))
      | exact ih0 _ _
      | exact LeO.none _
      | refine LeO.ite ?_ ?_
      | refine LeO.bind ?_ (fun _ => ?_)
theorem swarfref38_Valid.mono : ∀ a0 a1 k, LeO (swarfref38_Valid.f k a0 a1) (swarfref38_Valid.f (k + 1) a0 a1) := by
  intro a0 a1 k
  have ih0 := swarfref38_Valid.mono_l k
  unfold swarfref38_Valid.f
  repeat' first
      | (with_reducible exact ih0 _ _)
      | (with_reducible exact LeO.refl _)
      | (with_reducible exact LeO.none _)
      | (with_reducible refine LeO.ite ?_ ?_)
      | (with_reducible refine LeO.bind ?_ (fun _ => ?_))
      | exact ih0 _ _
      | exact LeO.none _
      | refine LeO.ite ?_ ?_
      | refine LeO.bind ?_ (fun _ => ?_)
set_option maxHeartbeats 8000000 in
set_option maxRecDepth 100000 in
theorem swarfref38_Valid.calls (k : Nat) (A0 : Option Addr) (c0 : Nat) (l0 : List (S31)) (a1 : Int) (r : Int) (w : World) (hr0 : Kd.C k31 w A0 l0.length l0) (hc0 : l0.length ≤ c0) (h : swarfref38_Valid.f k l0 a1 = some r) :
    Calls Try.prog 31 #[.slice A0 l0.length c0, .int .i64 a1] w fun e w' => e = .returned (.int .i64 r) ∧ Drawn0 w w' := by
  have HR0 := Aside0.mk hr0
  have HC0 := Aside0.mk hc0
  clear hr0 hc0
  have H : (if (l0.length : Int) > a1 then (some 3) else (swarfref38_Valid.l0 k l0 0)) = some r := h
  clear h
  by_cases c3 : (l0.length : Int) > a1
  · rw [if_pos c3] at H
    have c3b0 : decide (a1 < (l0.length : Int)) = true := decide_eq_true c3
    clear c3
    obtain rfl := Option.some.inj H
    go_enter Try.func31, Try.ntmps31
    go_wp2
    go_ret
    exact ⟨by first | rfl | (simp; done) | (simp [*]; done), by repeat (first | exact Drawn0.refl _ | apply Drawn0.step)⟩
  · rw [if_neg c3] at H
    have c3b0 : decide (a1 < (l0.length : Int)) = false := decide_eq_false c3
    clear c3
    have H' := Aside0.mk H
    clear H
    go_enter Try.func31, Try.ntmps31
    go_wp2
    go_loopg [5] k (fun kq v5 w' => ∃ (x5_1 : Int), v5 = .int .i64 x5_1 ∧ Aside0 (swarfref38_Valid.l0 kq l0 x5_1 = some r) ∧ Aside0 (kq ≤ k) ∧ Drawn0 w w')
    case atStart => exact ⟨(0), (by first | rfl | (simp; done) | (simp [*]; done)), H', ⟨Nat.le_refl _⟩, by repeat (first | exact Drawn0.refl _ | apply Drawn0.step)⟩
    case round =>
      clear H'
      try clear p2
      try clear c3
      try clear c3b0
      obtain ⟨x5_1, rfl, HA, HK1, ⟨m1, rfl⟩⟩ := hrel
      cases gk with
      | zero => exact absurd HA.out (by simp [swarfref38_Valid.l0])
      | succ k1 =>
        have H := HA.out
        clear HA
        simp only [swarfref38_Valid.l0] at H
        by_cases c4 : x5_1 < (l0.length : Int)
        · rw [if_pos c4] at H
          have c4b0 : decide (x5_1 < (l0.length : Int)) = true := decide_eq_true c4
          clear c4
          by_cases c5 : 0 ≤ x5_1
          · rw [if_pos c5] at H
            have c5b0 : decide (0 ≤ x5_1) = true := decide_eq_true c5
            clear c5
            by_cases c6 : ((rd_T31 l0 x5_1).f0) > 10000000
            · rw [if_pos c6] at H
              have c6b0 : decide (10000000 < ((rd_T31 l0 x5_1).f0)) = true := decide_eq_true c6
              clear c6
              obtain rfl := Option.some.inj H
              have p232 : 0 ≤ (x5_1 : Int) := of_decide_eq_true (by first | (with_reducible assumption) | assumption)
              have q232 : x5_1 < (l0.length : Int) := of_decide_eq_true (by first | (with_reducible assumption) | assumption)
              obtain ⟨ad232, e232, hx232_0, hx232_1⟩ := at_T31 HR0.out x5_1 p232 q232
              cases e232
              replace p232 := eq_true p232
              replace q232 := eq_true q232
              go_wp2
              go_ret
              exact ⟨by first | rfl | (simp; done) | (simp [*]; done), by repeat (first | exact Drawn0.refl _ | apply Drawn0.step)⟩
            · rw [if_neg c6] at H
              have c6b0 : decide (10000000 < ((rd_T31 l0 x5_1).f0)) = false := decide_eq_false c6
              clear c6
              by_cases c7 : ((rd_T31 l0 x5_1).f0) < (-10000000)
              · rw [if_pos c7] at H
                have c7b0 : decide (((rd_T31 l0 x5_1).f0) < (-10000000)) = true := decide_eq_true c7
                clear c7
                obtain rfl := Option.some.inj H
                have p232 : 0 ≤ (x5_1 : Int) := of_decide_eq_true (by first | (with_reducible assumption) | assumption)
                have q232 : x5_1 < (l0.length : Int) := of_decide_eq_true (by first | (with_reducible assumption) | assumption)
                obtain ⟨ad232, e232, hx232_0, hx232_1⟩ := at_T31 HR0.out x5_1 p232 q232
                cases e232
                replace p232 := eq_true p232
                replace q232 := eq_true q232
                have p233 : 0 ≤ (x5_1 : Int) := of_decide_eq_true (by first | (with_reducible assumption) | assumption)
                have q233 : x5_1 < (l0.length : Int) := of_decide_eq_true (by first | (with_reducible assumption) | assumption)
                obtain ⟨ad233, e233, hx233_0, hx233_1⟩ := at_T31 HR0.out x5_1 p233 q233
                obtain rfl : ad232 = ad233 := (by injection e233)
                replace p233 := eq_true p233
                replace q233 := eq_true q233
                go_wp2
                go_ret
                exact ⟨by first | rfl | (simp; done) | (simp [*]; done), by repeat (first | exact Drawn0.refl _ | apply Drawn0.step)⟩
              · rw [if_neg c7] at H
                have c7b0 : decide (((rd_T31 l0 x5_1).f0) < (-10000000)) = false := decide_eq_false c7
                clear c7
                by_cases c8 : ((rd_T31 l0 x5_1).f1) > 10000000
                · rw [if_pos c8] at H
                  have c8b0 : decide (10000000 < ((rd_T31 l0 x5_1).f1)) = true := decide_eq_true c8
                  clear c8
                  obtain rfl := Option.some.inj H
                  have p232 : 0 ≤ (x5_1 : Int) := of_decide_eq_true (by first | (with_reducible assumption) | assumption)
                  have q232 : x5_1 < (l0.length : Int) := of_decide_eq_true (by first | (with_reducible assumption) | assumption)
                  obtain ⟨ad232, e232, hx232_0, hx232_1⟩ := at_T31 HR0.out x5_1 p232 q232
                  cases e232
                  replace p232 := eq_true p232
                  replace q232 := eq_true q232
                  have p233 : 0 ≤ (x5_1 : Int) := of_decide_eq_true (by first | (with_reducible assumption) | assumption)
                  have q233 : x5_1 < (l0.length : Int) := of_decide_eq_true (by first | (with_reducible assumption) | assumption)
                  obtain ⟨ad233, e233, hx233_0, hx233_1⟩ := at_T31 HR0.out x5_1 p233 q233
                  obtain rfl : ad232 = ad233 := (by injection e233)
                  replace p233 := eq_true p233
                  replace q233 := eq_true q233
                  have p234 : 0 ≤ (x5_1 : Int) := of_decide_eq_true (by first | (with_reducible assumption) | assumption)
                  have q234 : x5_1 < (l0.length : Int) := of_decide_eq_true (by first | (with_reducible assumption) | assumption)
                  obtain ⟨ad234, e234, hx234_0, hx234_1⟩ := at_T31 HR0.out x5_1 p234 q234
                  obtain rfl : ad232 = ad234 := (by injection e234)
                  replace p234 := eq_true p234
                  replace q234 := eq_true q234
                  go_wp2
                  go_ret
                  exact ⟨by first | rfl | (simp; done) | (simp [*]; done), by repeat (first | exact Drawn0.refl _ | apply Drawn0.step)⟩
                · rw [if_neg c8] at H
                  have c8b0 : decide (10000000 < ((rd_T31 l0 x5_1).f1)) = false := decide_eq_false c8
                  clear c8
                  by_cases c9 : ((rd_T31 l0 x5_1).f1) < (-10000000)
                  · rw [if_pos c9] at H
                    have c9b0 : decide (((rd_T31 l0 x5_1).f1) < (-10000000)) = true := decide_eq_true c9
                    clear c9
                    obtain rfl := Option.some.inj H
                    have p232 : 0 ≤ (x5_1 : Int) := of_decide_eq_true (by first | (with_reducible assumption) | assumption)
                    have q232 : x5_1 < (l0.length : Int) := of_decide_eq_true (by first | (with_reducible assumption) | assumption)
                    obtain ⟨ad232, e232, hx232_0, hx232_1⟩ := at_T31 HR0.out x5_1 p232 q232
                    cases e232
                    replace p232 := eq_true p232
                    replace q232 := eq_true q232
                    have p233 : 0 ≤ (x5_1 : Int) := of_decide_eq_true (by first | (with_reducible assumption) | assumption)
                    have q233 : x5_1 < (l0.length : Int) := of_decide_eq_true (by first | (with_reducible assumption) | assumption)
                    obtain ⟨ad233, e233, hx233_0, hx233_1⟩ := at_T31 HR0.out x5_1 p233 q233
                    obtain rfl : ad232 = ad233 := (by injection e233)
                    replace p233 := eq_true p233
                    replace q233 := eq_true q233
                    have p234 : 0 ≤ (x5_1 : Int) := of_decide_eq_true (by first | (with_reducible assumption) | assumption)
                    have q234 : x5_1 < (l0.length : Int) := of_decide_eq_true (by first | (with_reducible assumption) | assumption)
                    obtain ⟨ad234, e234, hx234_0, hx234_1⟩ := at_T31 HR0.out x5_1 p234 q234
                    obtain rfl : ad232 = ad234 := (by injection e234)
                    replace p234 := eq_true p234
                    replace q234 := eq_true q234
                    have p235 : 0 ≤ (x5_1 : Int) := of_decide_eq_true (by first | (with_reducible assumption) | assumption)
                    have q235 : x5_1 < (l0.length : Int) := of_decide_eq_true (by first | (with_reducible assumption) | assumption)
                    obtain ⟨ad235, e235, hx235_0, hx235_1⟩ := at_T31 HR0.out x5_1 p235 q235
                    obtain rfl : ad232 = ad235 := (by injection e235)
                    replace p235 := eq_true p235
                    replace q235 := eq_true q235
                    go_wp2
                    go_ret
                    exact ⟨by first | rfl | (simp; done) | (simp [*]; done), by repeat (first | exact Drawn0.refl _ | apply Drawn0.step)⟩
                  · rw [if_neg c9] at H
                    have c9b0 : decide (((rd_T31 l0 x5_1).f1) < (-10000000)) = false := decide_eq_false c9
                    clear c9
                    have H' := Aside0.mk H
                    clear H
                    have p232 : 0 ≤ (x5_1 : Int) := of_decide_eq_true (by first | (with_reducible assumption) | assumption)
                    have q232 : x5_1 < (l0.length : Int) := of_decide_eq_true (by first | (with_reducible assumption) | assumption)
                    obtain ⟨ad232, e232, hx232_0, hx232_1⟩ := at_T31 HR0.out x5_1 p232 q232
                    cases e232
                    replace p232 := eq_true p232
                    replace q232 := eq_true q232
                    have p233 : 0 ≤ (x5_1 : Int) := of_decide_eq_true (by first | (with_reducible assumption) | assumption)
                    have q233 : x5_1 < (l0.length : Int) := of_decide_eq_true (by first | (with_reducible assumption) | assumption)
                    obtain ⟨ad233, e233, hx233_0, hx233_1⟩ := at_T31 HR0.out x5_1 p233 q233
                    obtain rfl : ad232 = ad233 := (by injection e233)
                    replace p233 := eq_true p233
                    replace q233 := eq_true q233
                    have p234 : 0 ≤ (x5_1 : Int) := of_decide_eq_true (by first | (with_reducible assumption) | assumption)
                    have q234 : x5_1 < (l0.length : Int) := of_decide_eq_true (by first | (with_reducible assumption) | assumption)
                    obtain ⟨ad234, e234, hx234_0, hx234_1⟩ := at_T31 HR0.out x5_1 p234 q234
                    obtain rfl : ad232 = ad234 := (by injection e234)
                    replace p234 := eq_true p234
                    replace q234 := eq_true q234
                    have p235 : 0 ≤ (x5_1 : Int) := of_decide_eq_true (by first | (with_reducible assumption) | assumption)
                    have q235 : x5_1 < (l0.length : Int) := of_decide_eq_true (by first | (with_reducible assumption) | assumption)
                    obtain ⟨ad235, e235, hx235_0, hx235_1⟩ := at_T31 HR0.out x5_1 p235 q235
                    obtain rfl : ad232 = ad235 := (by injection e235)
                    replace p235 := eq_true p235
                    replace q235 := eq_true q235
                    go_wp2
                    go_roundg k1
                    case measure => have := HK1.out; omega
                    case rel => exact ⟨(wrap64 (x5_1 + 1)), (by first | rfl | (simp; done) | (simp [*]; done)), H', ⟨by have := HK1.out; omega⟩, by repeat (first | exact Drawn0.refl _ | apply Drawn0.step)⟩
          · rw [if_neg c5] at H
            exact absurd H (by simp)
        · rw [if_neg c4] at H
          have c4b0 : decide (x5_1 < (l0.length : Int)) = false := decide_eq_false c4
          clear c4
          obtain rfl := Option.some.inj H
          go_wp2
          go_ret
          exact ⟨by first | rfl | (simp; done) | (simp [*]; done), by repeat (first | exact Drawn0.refl _ | apply Drawn0.step)⟩

end Go.Proofs.Ytohjocajaanhaaa.P

-- PRINTED by print.py (a twelfth state) out of the translation. Not trusted: Lean checks it.

namespace Go.Proofs.Ytohjocajaanhaaa.P
open Go.RowKit Go.Proofs.YtohjocajaanhaaaW.PrintWords Go.Proofs.YtohjocajaanhaaaW.PrintLast Go.Proofs.YtohjocajaanhaaaW.PrintMore
attribute [local go_sem] max2_int min2_int max_two min_two max_three min_three max_four min_four   -- for this text's walks alone
set_option linter.unusedVariables false
set_option linter.unusedSimpArgs false

/-! ### swarfref38_gap: function 34 -/
def swarfref38_gap.f (a0 : Int) (a1 : Int) : Option (Int) := if a0 < a1 then (some (wrap64 (a1 - a0))) else (some (wrap64 (a0 - a1)))
set_option maxHeartbeats 8000000 in
set_option maxRecDepth 100000 in
theorem swarfref38_gap.calls (a0 : Int) (a1 : Int) (r : Int) (w : World) (h : swarfref38_gap.f a0 a1 = some r) :
    Calls Try.prog 34 #[.int .i64 a0, .int .i64 a1] w fun e w' => e = .returned (.int .i64 r) ∧ Drawn0 w w' := by
  have H : (if a0 < a1 then (some (wrap64 (a1 - a0))) else (some (wrap64 (a0 - a1)))) = some r := h
  clear h
  by_cases c3 : a0 < a1
  · rw [if_pos c3] at H
    have c3b0 : decide (a0 < a1) = true := decide_eq_true c3
    clear c3
    obtain rfl := Option.some.inj H
    go_enter Try.func34, Try.ntmps34
    go_wp2
    go_ret
    exact ⟨by first | rfl | (simp; done) | (simp [*]; done), by repeat (first | exact Drawn0.refl _ | apply Drawn0.step)⟩
  · rw [if_neg c3] at H
    have c3b0 : decide (a0 < a1) = false := decide_eq_false c3
    clear c3
    obtain rfl := Option.some.inj H
    go_enter Try.func34, Try.ntmps34
    go_wp2
    go_ret
    exact ⟨by first | rfl | (simp; done) | (simp [*]; done), by repeat (first | exact Drawn0.refl _ | apply Drawn0.step)⟩

end Go.Proofs.Ytohjocajaanhaaa.P

-- PRINTED by print.py (a twelfth state) out of the translation. Not trusted: Lean checks it.

namespace Go.Proofs.Ytohjocajaanhaaa.P
open Go.RowKit Go.Proofs.YtohjocajaanhaaaW.PrintWords Go.Proofs.YtohjocajaanhaaaW.PrintLast Go.Proofs.YtohjocajaanhaaaW.PrintMore
attribute [local go_sem] max2_int min2_int max_two min_two max_three min_three max_four min_four   -- for this text's walks alone
set_option linter.unusedVariables false
set_option linter.unusedSimpArgs false

/-! ### swarfref38_Distance: function 16 -/
def swarfref38_Distance.f (a0_0 : Int) (a0_1 : Int) (a1_0 : Int) (a1_1 : Int) : Option (Int) := (swarfref38_gap.f a0_0 a1_0).bind fun t248 => ((swarfref38_gap.f a0_1 a1_1).bind fun t249 => (some (mx t248 t249)))
set_option maxHeartbeats 8000000 in
set_option maxRecDepth 100000 in
theorem swarfref38_Distance.calls (a0_0 : Int) (a0_1 : Int) (a1_0 : Int) (a1_1 : Int) (r : Int) (w : World) (h : swarfref38_Distance.f a0_0 a0_1 a1_0 a1_1 = some r) :
    Calls Try.prog 16 #[.agg #[.int .i64 a0_0, .int .i64 a0_1], .agg #[.int .i64 a1_0, .int .i64 a1_1]] w fun e w' => e = .returned (.int .i64 r) ∧ Below w.heap.size w w' := by
  have hu31 := Try.underlying31
  have HB := Aside0.mk (Below.refl w.heap.size w)
  have H : ((swarfref38_gap.f a0_0 a1_0).bind fun t248 => ((swarfref38_gap.f a0_1 a1_1).bind fun t249 => (some (mx t248 t249)))) = some r := h
  clear h
  replace H := Option.bind_eq_some_iff.mp H
  obtain ⟨t248, A30, H⟩ := H
  replace H : ((swarfref38_gap.f a0_1 a1_1).bind fun t249 => (some (mx t248 t249))) = some r := H
  have A3 := Aside0.mk A30
  clear A30
  replace H := Option.bind_eq_some_iff.mp H
  obtain ⟨t249, A40, H⟩ := H
  replace H : (some (mx t248 t249)) = some r := H
  have A4 := Aside0.mk A40
  clear A40
  obtain ⟨ji5, hji5⟩ : ∃ j_ : Int, (mx t248 t249) = j_ := ⟨_, rfl⟩
  replace H : (some ji5) = some r := by first | (rw [hji5] at H; exact H) | (simp only [hji5] at H ⊢; exact H)
  (try rw [hji5] at A3)
  (try rw [hji5] at A4)
  have hji5_ : (if t248 < t249 then t249 else t248) = ji5 := hji5
  obtain rfl := Option.some.inj H
  go_enter Try.func16, Try.ntmps16
  go_wp2_with (first | ((with_reducible refine gate_dst (N := 2) rfl ?_); refine box_event ?hg (N := 2) ?hd (cs := #[.int .i64 a0_0, .int .i64 a0_1]) (t := 31) ?hr ?_; (case hd => rfl); (case hg => rfl); (case hr => first | (go_simp; done) | (go_simp; rfl)); intro gb246 hg w6 hbox hb; have n0_ := Aside0.mk (below_step (by repeat (first | (with_reducible first | exact HB.out | apply below_alloc | apply pw_below_drewN | apply below_drew1) | exact HB.out)) hb); have n1_ := Aside0.mk (hbox); have n2_ := Aside0.mk ((by rw [hg]; exact (below_size (by repeat (first | (with_reducible first | exact HB.out | apply below_alloc | apply pw_below_drewN | apply below_drew1) | exact HB.out))) : w.heap.size ≤ gb246)); have n3_ := Aside0.mk ((by rw [hg]; exact (below_size (by repeat (first | (with_reducible first | exact HB.out | apply below_alloc | apply pw_below_drewN | apply below_drew1) | exact HB.out))) : w.heap.size ≤ gb246)); clear HB; have HB := n0_; have BK246 := n1_; have GW246 := n2_; have GE246 := n3_; clear n0_ n1_ n2_ n3_; clear hb hbox hg) | ((with_reducible refine gate_dst (N := 3) rfl ?_); refine box_event ?hg (N := 3) ?hd (cs := #[.int .i64 a1_0, .int .i64 a1_1]) (t := 31) ?hr ?_; (case hd => rfl); (case hg => rfl); (case hr => first | (go_simp; done) | (go_simp; rfl)); intro gb247 hg w7 hbox hb; have n0_ := Aside0.mk (blk_below (g := gb246) (o := .cells #[.int .i64 a0_0, .int .i64 a0_1] 31 (0, 0)) (by (with_reducible repeat (first | refine blk_drewN ?_ _ | refine blk_drew ?_ | refine blk_alloc ?_ _)); exact BK246.out) hb); have n1_ := Aside0.mk (below_step (by repeat (first | (with_reducible first | exact HB.out | apply below_alloc | apply pw_below_drewN | apply below_drew1 | refine below_set ?_ GE246.out) | exact HB.out)) hb); have n2_ := Aside0.mk (hbox); have n3_ := Aside0.mk ((by rw [hg]; exact (below_size (by repeat (first | (with_reducible first | exact HB.out | apply below_alloc | apply pw_below_drewN | apply below_drew1 | refine below_set ?_ GE246.out) | exact HB.out))) : w.heap.size ≤ gb247)); have n4_ := Aside0.mk ((by rw [hg]; exact (below_size (by repeat (first | (with_reducible first | exact HB.out | apply below_alloc | apply pw_below_drewN | apply below_drew1 | refine below_set ?_ GE246.out) | exact HB.out))) : w.heap.size ≤ gb247)); have n5_ := Aside0.mk ((by rw [hg]; exact Nat.ne_of_lt (blk_lt (g := gb246) (o := .cells #[.int .i64 a0_0, .int .i64 a0_1] 31 (0, 0)) (by (with_reducible repeat (first | refine blk_drewN ?_ _ | refine blk_drew ?_ | refine blk_alloc ?_ _)); exact BK246.out)) : gb246 ≠ gb247)); have n6_ := Aside0.mk ((by rw [hg]; exact Nat.ne_of_gt (blk_lt (g := gb246) (o := .cells #[.int .i64 a0_0, .int .i64 a0_1] 31 (0, 0)) (by (with_reducible repeat (first | refine blk_drewN ?_ _ | refine blk_drew ?_ | refine blk_alloc ?_ _)); exact BK246.out)) : gb247 ≠ gb246)); clear BK246; clear HB; have BK246 := n0_; have HB := n1_; have BK247 := n2_; have GW247 := n3_; have GE247 := n4_; have NB246_247 := n5_; have NB247_246 := n6_; clear n0_ n1_ n2_ n3_ n4_ n5_ n6_; clear hb hbox hg; have hnb8 := NB246_247.out; have hnc8 := NB247_246.out; have hcz9_0 : w7.cell? ⟨gb246, 0, none⟩ = some (.int .i64 a0_0) := (blk_cell BK246.out 0).trans rfl; have hcz9_1 : w7.cell? ⟨gb246, 1, none⟩ = some (.int .i64 a0_1) := (blk_cell BK246.out 1).trans rfl; have hfz9_0 := blk_frozen BK246.out 0; have hfz9_1 := blk_frozen BK246.out 1; have hcz10_0 : w7.cell? ⟨gb247, 0, none⟩ = some (.int .i64 a1_0) := (blk_cell BK247.out 0).trans rfl; have hcz10_1 : w7.cell? ⟨gb247, 1, none⟩ = some (.int .i64 a1_1) := (blk_cell BK247.out 1).trans rfl; have hfz10_0 := blk_frozen BK247.out 0; have hfz10_1 := blk_frozen BK247.out 1) | (go_at_call 34; (with_reducible refine (swarfref38_gap.calls a0_0 a1_0 t248 _ A3.out).mono ?_); rintro e w' ⟨rfl, ⟨nd, rfl⟩⟩; (try first | exact ⟨rfl, _, World.drewN_drewN _ _ _⟩ | exact ⟨rfl, _, Eq.trans (World.drewN_drewN _ _ _) (congrArg (World.drewN _) (Nat.add_assoc _ _ _))⟩)) | (go_at_call 34; (with_reducible refine (swarfref38_gap.calls a0_1 a1_1 t249 _ A4.out).mono ?_); rintro e w' ⟨rfl, ⟨nd, rfl⟩⟩; (try first | exact ⟨rfl, _, World.drewN_drewN _ _ _⟩ | exact ⟨rfl, _, Eq.trans (World.drewN_drewN _ _ _) (congrArg (World.drewN _) (Nat.add_assoc _ _ _))⟩)))
  repeat (go_quiet (first | ((with_reducible refine gate_dst (N := 2) rfl ?_); refine box_event ?hg (N := 2) ?hd (cs := #[.int .i64 a0_0, .int .i64 a0_1]) (t := 31) ?hr ?_; (case hd => rfl); (case hg => rfl); (case hr => first | (go_simp; done) | (go_simp; rfl)); intro gb246 hg w6 hbox hb; have n0_ := Aside0.mk (below_step (by repeat (first | (with_reducible first | exact HB.out | apply below_alloc | apply pw_below_drewN | apply below_drew1) | exact HB.out)) hb); have n1_ := Aside0.mk (hbox); have n2_ := Aside0.mk ((by rw [hg]; exact (below_size (by repeat (first | (with_reducible first | exact HB.out | apply below_alloc | apply pw_below_drewN | apply below_drew1) | exact HB.out))) : w.heap.size ≤ gb246)); have n3_ := Aside0.mk ((by rw [hg]; exact (below_size (by repeat (first | (with_reducible first | exact HB.out | apply below_alloc | apply pw_below_drewN | apply below_drew1) | exact HB.out))) : w.heap.size ≤ gb246)); clear HB; have HB := n0_; have BK246 := n1_; have GW246 := n2_; have GE246 := n3_; clear n0_ n1_ n2_ n3_; clear hb hbox hg) | ((with_reducible refine gate_dst (N := 3) rfl ?_); refine box_event ?hg (N := 3) ?hd (cs := #[.int .i64 a1_0, .int .i64 a1_1]) (t := 31) ?hr ?_; (case hd => rfl); (case hg => rfl); (case hr => first | (go_simp; done) | (go_simp; rfl)); intro gb247 hg w7 hbox hb; have n0_ := Aside0.mk (blk_below (g := gb246) (o := .cells #[.int .i64 a0_0, .int .i64 a0_1] 31 (0, 0)) (by (with_reducible repeat (first | refine blk_drewN ?_ _ | refine blk_drew ?_ | refine blk_alloc ?_ _)); exact BK246.out) hb); have n1_ := Aside0.mk (below_step (by repeat (first | (with_reducible first | exact HB.out | apply below_alloc | apply pw_below_drewN | apply below_drew1 | refine below_set ?_ GE246.out) | exact HB.out)) hb); have n2_ := Aside0.mk (hbox); have n3_ := Aside0.mk ((by rw [hg]; exact (below_size (by repeat (first | (with_reducible first | exact HB.out | apply below_alloc | apply pw_below_drewN | apply below_drew1 | refine below_set ?_ GE246.out) | exact HB.out))) : w.heap.size ≤ gb247)); have n4_ := Aside0.mk ((by rw [hg]; exact (below_size (by repeat (first | (with_reducible first | exact HB.out | apply below_alloc | apply pw_below_drewN | apply below_drew1 | refine below_set ?_ GE246.out) | exact HB.out))) : w.heap.size ≤ gb247)); have n5_ := Aside0.mk ((by rw [hg]; exact Nat.ne_of_lt (blk_lt (g := gb246) (o := .cells #[.int .i64 a0_0, .int .i64 a0_1] 31 (0, 0)) (by (with_reducible repeat (first | refine blk_drewN ?_ _ | refine blk_drew ?_ | refine blk_alloc ?_ _)); exact BK246.out)) : gb246 ≠ gb247)); have n6_ := Aside0.mk ((by rw [hg]; exact Nat.ne_of_gt (blk_lt (g := gb246) (o := .cells #[.int .i64 a0_0, .int .i64 a0_1] 31 (0, 0)) (by (with_reducible repeat (first | refine blk_drewN ?_ _ | refine blk_drew ?_ | refine blk_alloc ?_ _)); exact BK246.out)) : gb247 ≠ gb246)); clear BK246; clear HB; have BK246 := n0_; have HB := n1_; have BK247 := n2_; have GW247 := n3_; have GE247 := n4_; have NB246_247 := n5_; have NB247_246 := n6_; clear n0_ n1_ n2_ n3_ n4_ n5_ n6_; clear hb hbox hg; have hnb8 := NB246_247.out; have hnc8 := NB247_246.out; have hcz9_0 : w7.cell? ⟨gb246, 0, none⟩ = some (.int .i64 a0_0) := (blk_cell BK246.out 0).trans rfl; have hcz9_1 : w7.cell? ⟨gb246, 1, none⟩ = some (.int .i64 a0_1) := (blk_cell BK246.out 1).trans rfl; have hfz9_0 := blk_frozen BK246.out 0; have hfz9_1 := blk_frozen BK246.out 1; have hcz10_0 : w7.cell? ⟨gb247, 0, none⟩ = some (.int .i64 a1_0) := (blk_cell BK247.out 0).trans rfl; have hcz10_1 : w7.cell? ⟨gb247, 1, none⟩ = some (.int .i64 a1_1) := (blk_cell BK247.out 1).trans rfl; have hfz10_0 := blk_frozen BK247.out 0; have hfz10_1 := blk_frozen BK247.out 1) | (go_at_call 34; (with_reducible refine (swarfref38_gap.calls a0_0 a1_0 t248 _ A3.out).mono ?_); rintro e w' ⟨rfl, ⟨nd, rfl⟩⟩; (try first | exact ⟨rfl, _, World.drewN_drewN _ _ _⟩ | exact ⟨rfl, _, Eq.trans (World.drewN_drewN _ _ _) (congrArg (World.drewN _) (Nat.add_assoc _ _ _))⟩)) | (go_at_call 34; (with_reducible refine (swarfref38_gap.calls a0_1 a1_1 t249 _ A4.out).mono ?_); rintro e w' ⟨rfl, ⟨nd, rfl⟩⟩; (try first | exact ⟨rfl, _, World.drewN_drewN _ _ _⟩ | exact ⟨rfl, _, Eq.trans (World.drewN_drewN _ _ _) (congrArg (World.drewN _) (Nat.add_assoc _ _ _))⟩))); try go_wp2_with (first | ((with_reducible refine gate_dst (N := 2) rfl ?_); refine box_event ?hg (N := 2) ?hd (cs := #[.int .i64 a0_0, .int .i64 a0_1]) (t := 31) ?hr ?_; (case hd => rfl); (case hg => rfl); (case hr => first | (go_simp; done) | (go_simp; rfl)); intro gb246 hg w6 hbox hb; have n0_ := Aside0.mk (below_step (by repeat (first | (with_reducible first | exact HB.out | apply below_alloc | apply pw_below_drewN | apply below_drew1) | exact HB.out)) hb); have n1_ := Aside0.mk (hbox); have n2_ := Aside0.mk ((by rw [hg]; exact (below_size (by repeat (first | (with_reducible first | exact HB.out | apply below_alloc | apply pw_below_drewN | apply below_drew1) | exact HB.out))) : w.heap.size ≤ gb246)); have n3_ := Aside0.mk ((by rw [hg]; exact (below_size (by repeat (first | (with_reducible first | exact HB.out | apply below_alloc | apply pw_below_drewN | apply below_drew1) | exact HB.out))) : w.heap.size ≤ gb246)); clear HB; have HB := n0_; have BK246 := n1_; have GW246 := n2_; have GE246 := n3_; clear n0_ n1_ n2_ n3_; clear hb hbox hg) | ((with_reducible refine gate_dst (N := 3) rfl ?_); refine box_event ?hg (N := 3) ?hd (cs := #[.int .i64 a1_0, .int .i64 a1_1]) (t := 31) ?hr ?_; (case hd => rfl); (case hg => rfl); (case hr => first | (go_simp; done) | (go_simp; rfl)); intro gb247 hg w7 hbox hb; have n0_ := Aside0.mk (blk_below (g := gb246) (o := .cells #[.int .i64 a0_0, .int .i64 a0_1] 31 (0, 0)) (by (with_reducible repeat (first | refine blk_drewN ?_ _ | refine blk_drew ?_ | refine blk_alloc ?_ _)); exact BK246.out) hb); have n1_ := Aside0.mk (below_step (by repeat (first | (with_reducible first | exact HB.out | apply below_alloc | apply pw_below_drewN | apply below_drew1 | refine below_set ?_ GE246.out) | exact HB.out)) hb); have n2_ := Aside0.mk (hbox); have n3_ := Aside0.mk ((by rw [hg]; exact (below_size (by repeat (first | (with_reducible first | exact HB.out | apply below_alloc | apply pw_below_drewN | apply below_drew1 | refine below_set ?_ GE246.out) | exact HB.out))) : w.heap.size ≤ gb247)); have n4_ := Aside0.mk ((by rw [hg]; exact (below_size (by repeat (first | (with_reducible first | exact HB.out | apply below_alloc | apply pw_below_drewN | apply below_drew1 | refine below_set ?_ GE246.out) | exact HB.out))) : w.heap.size ≤ gb247)); have n5_ := Aside0.mk ((by rw [hg]; exact Nat.ne_of_lt (blk_lt (g := gb246) (o := .cells #[.int .i64 a0_0, .int .i64 a0_1] 31 (0, 0)) (by (with_reducible repeat (first | refine blk_drewN ?_ _ | refine blk_drew ?_ | refine blk_alloc ?_ _)); exact BK246.out)) : gb246 ≠ gb247)); have n6_ := Aside0.mk ((by rw [hg]; exact Nat.ne_of_gt (blk_lt (g := gb246) (o := .cells #[.int .i64 a0_0, .int .i64 a0_1] 31 (0, 0)) (by (with_reducible repeat (first | refine blk_drewN ?_ _ | refine blk_drew ?_ | refine blk_alloc ?_ _)); exact BK246.out)) : gb247 ≠ gb246)); clear BK246; clear HB; have BK246 := n0_; have HB := n1_; have BK247 := n2_; have GW247 := n3_; have GE247 := n4_; have NB246_247 := n5_; have NB247_246 := n6_; clear n0_ n1_ n2_ n3_ n4_ n5_ n6_; clear hb hbox hg; have hnb8 := NB246_247.out; have hnc8 := NB247_246.out; have hcz9_0 : w7.cell? ⟨gb246, 0, none⟩ = some (.int .i64 a0_0) := (blk_cell BK246.out 0).trans rfl; have hcz9_1 : w7.cell? ⟨gb246, 1, none⟩ = some (.int .i64 a0_1) := (blk_cell BK246.out 1).trans rfl; have hfz9_0 := blk_frozen BK246.out 0; have hfz9_1 := blk_frozen BK246.out 1; have hcz10_0 : w7.cell? ⟨gb247, 0, none⟩ = some (.int .i64 a1_0) := (blk_cell BK247.out 0).trans rfl; have hcz10_1 : w7.cell? ⟨gb247, 1, none⟩ = some (.int .i64 a1_1) := (blk_cell BK247.out 1).trans rfl; have hfz10_0 := blk_frozen BK247.out 0; have hfz10_1 := blk_frozen BK247.out 1) | (go_at_call 34; (with_reducible refine (swarfref38_gap.calls a0_0 a1_0 t248 _ A3.out).mono ?_); rintro e w' ⟨rfl, ⟨nd, rfl⟩⟩; (try first | exact ⟨rfl, _, World.drewN_drewN _ _ _⟩ | exact ⟨rfl, _, Eq.trans (World.drewN_drewN _ _ _) (congrArg (World.drewN _) (Nat.add_assoc _ _ _))⟩)) | (go_at_call 34; (with_reducible refine (swarfref38_gap.calls a0_1 a1_1 t249 _ A4.out).mono ?_); rintro e w' ⟨rfl, ⟨nd, rfl⟩⟩; (try first | exact ⟨rfl, _, World.drewN_drewN _ _ _⟩ | exact ⟨rfl, _, Eq.trans (World.drewN_drewN _ _ _) (congrArg (World.drewN _) (Nat.add_assoc _ _ _))⟩))))
  go_ret
  exact ⟨by first | rfl | (simp [errW_none, errW_some] <;> rfl) | (simp only [← hji5]; first | rfl | (simp [errW_none, errW_some] <;> rfl)) | (simp [*, errW_none, errW_some] <;> rfl), by repeat (first | (with_reducible first | exact HB.out | apply below_alloc | apply pw_below_drewN | apply below_drew1 | refine below_set ?_ GE246.out | refine below_set ?_ GE247.out) | exact HB.out)⟩

end Go.Proofs.Ytohjocajaanhaaa.P

-- PRINTED by print.py (a twelfth state) out of the translation. Not trusted: Lean checks it.

namespace Go.Proofs.Ytohjocajaanhaaa.P
open Go.RowKit Go.Proofs.YtohjocajaanhaaaW.PrintWords Go.Proofs.YtohjocajaanhaaaW.PrintLast Go.Proofs.YtohjocajaanhaaaW.PrintMore
attribute [local go_sem] max2_int min2_int max_two min_two max_three min_three max_four min_four   -- for this text's walks alone
set_option linter.unusedVariables false
set_option linter.unusedSimpArgs false

/-! ### swarfref38_has: function 35 -/
def swarfref38_has.l0 : Nat → List Int → Int → Int → Option (Bool)
  | 0, _, _, _ => none
  | k + 1, x0, x1, x5 => if x5 < (x0.length : Int) then (if 0 ≤ x5 then (if (rd x0 x5) = x1 then (some true) else (swarfref38_has.l0 k x0 x1 (wrap64 (x5 + 1)))) else (none)) else (some false)
def swarfref38_has.f (k : Nat) (l0 : List Int) (a1 : Int) : Option (Bool) := swarfref38_has.l0 k l0 a1 0
theorem swarfref38_has.mono_l : ∀ k, (∀ y0 y1 y2, LeO (swarfref38_has.l0 k y0 y1 y2) (swarfref38_has.l0 (k + 1) y0 y1 y2))
  | 0 => fun _ _ _ r h => by simp [swarfref38_has.l0] at h
  | k + 1 => by
    have ih0 := swarfref38_has.mono_l k
    · intro y0 y1 y2
      unfold swarfref38_has.l0
      repeat' first
      | (with_reducible exact ih0 _ _ _)
      | (with_reducible exact LeO.refl _)
      | (with_reducible exact LeO.none _)
      | (with_reducible refine LeO.ite ?_ ?_)
      | (with_reducible refine LeO.bind ?_ (fun _ => ?_))
      | exact ih0 _ _ _
      | exact LeO.none _
      | refine LeO.ite ?_ ?_
      | refine LeO.bind ?_ (fun _ => ?_)
theorem swarfref38_has.mono : ∀ a0 a1 k, LeO (swarfref38_has.f k a0 a1) (swarfref38_has.f (k + 1) a0 a1) := by
  intro a0 a1 k
  have ih0 := swarfref38_has.mono_l k
  unfold swarfref38_has.f
  repeat' first
      | (with_reducible exact ih0 _ _ _)
      | (with_reducible exact LeO.refl _)
      | (with_reducible exact LeO.none _)
      | (with_reducible refine LeO.ite ?_ ?_)
      | (with_reducible refine LeO.bind ?_ (fun _ => ?_))
      | exact ih0 _ _ _
      | exact LeO.none _
      | refine LeO.ite ?_ ?_
      | refine LeO.bind ?_ (fun _ => ?_)
set_option maxHeartbeats 8000000 in
set_option maxRecDepth 100000 in
theorem swarfref38_has.calls (k : Nat) (A0 : Option Addr) (c0 : Nat) (l0 : List Int) (a1 : Int) (r : Bool) (w : World) (hr0 : Kd.C (Kd.int .i64) w A0 l0.length l0) (hc0 : l0.length ≤ c0) (h : swarfref38_has.f k l0 a1 = some r) :
    Calls Try.prog 35 #[.slice A0 l0.length c0, .int .i64 a1] w fun e w' => e = .returned (.bool r) ∧ Drawn0 w w' := by
  have HR0 := Aside0.mk hr0
  have HC0 := Aside0.mk hc0
  clear hr0 hc0
  have H : (swarfref38_has.l0 k l0 a1 0) = some r := h
  clear h
  have H' := Aside0.mk H
  clear H
  go_enter Try.func35, Try.ntmps35
  go_wp2
  go_loopg [5] k (fun kq v5 w' => ∃ (x5_1 : Int), v5 = .int .i64 x5_1 ∧ Aside0 (swarfref38_has.l0 kq l0 a1 x5_1 = some r) ∧ Aside0 (kq ≤ k) ∧ Drawn0 w w')
  case atStart => exact ⟨(0), (by first | rfl | (simp; done) | (simp [*]; done)), H', ⟨Nat.le_refl _⟩, by repeat (first | exact Drawn0.refl _ | apply Drawn0.step)⟩
  case round =>
    clear H'
    try clear p2
    obtain ⟨x5_1, rfl, HA, HK1, ⟨m1, rfl⟩⟩ := hrel
    cases gk with
    | zero => exact absurd HA.out (by simp [swarfref38_has.l0])
    | succ k1 =>
      have H := HA.out
      clear HA
      simp only [swarfref38_has.l0] at H
      by_cases c3 : x5_1 < (l0.length : Int)
      · rw [if_pos c3] at H
        have c3b0 : decide (x5_1 < (l0.length : Int)) = true := decide_eq_true c3
        clear c3
        by_cases c4 : 0 ≤ x5_1
        · rw [if_pos c4] at H
          have c4b0 : decide (0 ≤ x5_1) = true := decide_eq_true c4
          clear c4
          by_cases c5 : (rd l0 x5_1) = a1
          · rw [if_pos c5] at H
            have c5b0 : ((rd l0 x5_1) == a1) = true := beq_iff_eq.mpr c5
            have c5b1 : ((rd l0 x5_1) != a1) = false := bne_eq_false_iff_eq.mpr c5
            clear c5
            obtain rfl := Option.some.inj H
            have p273 : 0 ≤ (x5_1 : Int) := of_decide_eq_true (by first | (with_reducible assumption) | assumption)
            have q273 : x5_1 < (l0.length : Int) := of_decide_eq_true (by first | (with_reducible assumption) | assumption)
            obtain ⟨ad273, e273, hx273_0⟩ := Kd.at_int HR0.out x5_1 p273 q273
            cases e273
            replace p273 := eq_true p273
            replace q273 := eq_true q273
            go_wp2
            go_ret
            exact ⟨by first | rfl | (simp; done) | (simp [*]; done), by repeat (first | exact Drawn0.refl _ | apply Drawn0.step)⟩
          · rw [if_neg c5] at H
            have c5b0 : ((rd l0 x5_1) == a1) = false := beq_eq_false_iff_ne.mpr c5
            have c5b1 : ((rd l0 x5_1) != a1) = true := bne_iff_ne.mpr c5
            have H' := Aside0.mk H
            clear H
            have p273 : 0 ≤ (x5_1 : Int) := of_decide_eq_true (by first | (with_reducible assumption) | assumption)
            have q273 : x5_1 < (l0.length : Int) := of_decide_eq_true (by first | (with_reducible assumption) | assumption)
            obtain ⟨ad273, e273, hx273_0⟩ := Kd.at_int HR0.out x5_1 p273 q273
            cases e273
            replace p273 := eq_true p273
            replace q273 := eq_true q273
            go_wp2
            go_roundg k1
            case measure => have := HK1.out; omega
            case rel => exact ⟨(wrap64 (x5_1 + 1)), (by first | rfl | (simp; done) | (simp [*]; done)), H', ⟨by have := HK1.out; omega⟩, by repeat (first | exact Drawn0.refl _ | apply Drawn0.step)⟩
        · rw [if_neg c4] at H
          exact absurd H (by simp)
      · rw [if_neg c3] at H
        have c3b0 : decide (x5_1 < (l0.length : Int)) = false := decide_eq_false c3
        clear c3
        obtain rfl := Option.some.inj H
        go_wp2
        go_ret
        exact ⟨by first | rfl | (simp; done) | (simp [*]; done), by repeat (first | exact Drawn0.refl _ | apply Drawn0.step)⟩

end Go.Proofs.Ytohjocajaanhaaa.P
