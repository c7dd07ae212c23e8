import Derived.Test.YtbbkclcfmcjlgaaT5M21
import Derived.Test.YtbbkclcfmcjlgaaT5Px35
import Derived.Test.YtbbkclcfmcjlgaaT5M26
import Derived.Test.YtbbkclcfmcjlgaaT5M27
import Derived.Test.YtbbkclcfmcjlgaaT5M23
import Derived.Test.YtbbkclcfmcjlgaaT5GRead
-- PRINTED by print.py (a twelfth state) out of the translation. Not trusted: Lean checks it.

namespace Go.Proofs.Ytbbkclcfmcjlgaa.P
open Go.RowKit Go.Proofs.YtbbkclcfmcjlgaaW.PrintWords Go.Proofs.YtbbkclcfmcjlgaaW.PrintLast Go.Proofs.YtbbkclcfmcjlgaaW.PrintMore
attribute [local go_sem] max2_int min2_int max_two min_two max_three min_three max_four min_four   -- for this text's walks alone
set_option linter.unusedVariables false
set_option linter.unusedSimpArgs false

/-! ### swarfref29_Cyclic: function 23 -/
def swarfref29_Cyclic.l0 : Nat → Int → List (List Bool) → Int → Option (Bool)
 | 0, _, _, _ => none
 | k + 1, x0, x5, x6 => if x6 < x0 then (if 0 ≤ x6 then (if x6 < (x5.length : Int) then (if x6 < ((rd_L7 x5 x6).length : Int) then (if rdOf false (rd_L7 x5 x6) x6 = true then (some true) else (swarfref29_Cyclic.l0 k x0 x5 (wrap64 (x6 + 1)))) else (none)) else (none)) else (none)) else (some false)
def swarfref29_Cyclic.f (k : Nat) (a0 : Int) (l1 : List (S47)) : Option (Bool) := (swarfref29_Depends.f k a0 l1).bind fun t307 => (swarfref29_Cyclic.l0 k a0 t307 0)
theorem swarfref29_Cyclic.mono_l : ∀ k, (∀ y0 y1 y2, LeO (swarfref29_Cyclic.l0 k y0 y1 y2) (swarfref29_Cyclic.l0 (k + 1) y0 y1 y2))
 | 0 => fun _ _ _ r h => by simp [swarfref29_Cyclic.l0] at h
 | k + 1 => by
  have ih0 := swarfref29_Cyclic.mono_l k
  ·intro y0 y1 y2
   unfold swarfref29_Cyclic.l0
   repeat' first
   | (with_reducible exact ih0 _ _ _)
   | (with_reducible exact swarfref29_Depends.mono _ _ _)
   | (with_reducible exact LeO.refl _)
   | (with_reducible exact LeO.none _)
   | (with_reducible refine LeO.ite ?_ ?_)
   | (with_reducible refine LeO.bind ?_ (fun _ => ?_))
   | exact ih0 _ _ _
   | exact swarfref29_Depends.mono _ _ _
   | exact LeO.none _
   | refine LeO.ite ?_ ?_
   | refine LeO.bind ?_ (fun _ => ?_)
theorem swarfref29_Cyclic.mono : ∀ a0 a1 k, LeO (swarfref29_Cyclic.f k a0 a1) (swarfref29_Cyclic.f (k + 1) a0 a1) := by
 intro a0 a1 k
 have ih0 := swarfref29_Cyclic.mono_l k
 unfold swarfref29_Cyclic.f
 repeat' first
   | (with_reducible exact ih0 _ _ _)
   | (with_reducible exact swarfref29_Depends.mono _ _ _)
   | (with_reducible exact LeO.refl _)
   | (with_reducible exact LeO.none _)
   | (with_reducible refine LeO.ite ?_ ?_)
   | (with_reducible refine LeO.bind ?_ (fun _ => ?_))
   | exact ih0 _ _ _
   | exact swarfref29_Depends.mono _ _ _
   | exact LeO.none _
   | refine LeO.ite ?_ ?_
   | refine LeO.bind ?_ (fun _ => ?_)
set_option maxHeartbeats 8000000 in
set_option maxRecDepth 100000 in
theorem swarfref29_Cyclic.calls (k : Nat) (a0 : Int) (A1 : Option Addr) (c1 : Nat) (l1 : List (S47)) (r : Bool) (w : World) (hr1 : Kd.C k47 w A1 l1.length l1) (hc1 : l1.length ≤ c1) (h : swarfref29_Cyclic.f k a0 l1 = some r) :
  Calls Try.prog 23 #[.int .i64 a0, .slice A1 l1.length c1] w fun e w' => e = .returned (.bool r) ∧ Below w.heap.size w w' := by
 have HR1 := Aside0.mk hr1
 have HC1 := Aside0.mk hc1
 clear hr1 hc1
 have HB := Aside0.mk (Below.refl w.heap.size w)
 have H : ((swarfref29_Depends.f k a0 l1).bind fun t307 => (swarfref29_Cyclic.l0 k a0 t307 0)) = some r := h
 clear h
 replace H := Option.bind_eq_some_iff.mp H
 obtain ⟨t307, A30, H⟩ := H
 replace H : (swarfref29_Cyclic.l0 k a0 t307 0) = some r := H
 have A3 := Aside0.mk A30
 clear A30
 have H' := Aside0.mk H
 clear H
 go_enter Try.func23, Try.ntmps23
 go_wp2_with (first | ((with_reducible refine gate_callee (f := 44) rfl ?_); refine goesL_ (some 9) rfl rfl Try.func44 (by kernel_rfl) rfl #[.int .i64 a0, .slice A1 l1.length c1] rfl (by (try simp only [List.map_toArray, List.map_cons, List.map_nil]); first | done | rfl | (simp only [List.length_drop, List.length_take]; rfl)) ?_; (with_reducible refine (swarfref29_Depends.calls k a0 _ _ l1 t307 _ ?side1 ?side2 A3.out).mono ?_); (case side1 => repeat (first | exact HR1.out | (with_reducible refine Kd.C_alloc ?_ _) | (with_reducible refine Kd.C_drewN ?_ _) | (with_reducible refine Kd.C_drew ?_))); (case side2 => exact HC1.out); rintro e w4 ⟨v308, rfl, ho0, hb⟩; refine ⟨_, rfl, ?_⟩; have n0_ := Aside0.mk (Kd.S_lower ho0 (below_size (by repeat (first | (with_reducible first | exact HB.out | apply below_alloc | apply pw_below_drewN | apply below_drew1) | exact HB.out)))); have n1_ := Aside0.mk (below_step (by repeat (first | (with_reducible first | exact HB.out | apply below_alloc | apply pw_below_drewN | apply below_drew1) | exact HB.out)) hb); clear HB; have HO309 := n0_; have HB := n1_; clear n0_ n1_; (try clear hb); (try clear hb2); (try clear hk); (try clear hi); (try clear ho0)))
 go_loopg [6] k (fun kq v6 w' => ∃ (x6_1 : Int), v6 = .int .i64 x6_1 ∧ Aside0 (swarfref29_Cyclic.l0 kq a0 t307 x6_1 = some r) ∧ Aside0 (kq ≤ k) ∧ Aside0 (Kd.S (Kd.slice 4 Kd.bool) 52 w' w.heap.size (fun _ => True) v308 t307) ∧ Aside0 (Below w.heap.size w w'))
 case atStart => exact ⟨(0), (by first | rfl | (simp; done) | (simp [*]; done)), H', ⟨Nat.le_refl _⟩, ⟨by (with_reducible repeat (first | apply Kd.S_alloc | apply Kd.S_drewN | apply Kd.S_drew)); exact HO309.out⟩, ⟨by repeat (first | (with_reducible first | exact HB.out | apply below_alloc | apply pw_below_drewN | apply below_drew1) | exact HB.out)⟩⟩
 case round =>
  clear H'; try clear c1; try clear c2; try clear p2; try clear c4
  obtain ⟨x6_1, rfl, HA, HK1, HO_5, HB⟩ := hrel
  cases gk with
  | zero => exact absurd HA.out (by simp [swarfref29_Cyclic.l0])
  | succ k1 =>
   have H := HA.out
   clear HA
   simp only [swarfref29_Cyclic.l0] at H
   by_cases c5 : x6_1 < a0
   ·rw [if_pos c5] at H
    have c5b0 : decide (x6_1 < a0) = true := decide_eq_true c5
    clear c5
    by_cases c6 : 0 ≤ x6_1
    ·rw [if_pos c6] at H
     have c6b0 : decide (0 ≤ x6_1) = true := decide_eq_true c6
     clear c6
     by_cases c7 : x6_1 < (t307.length : Int)
     ·rw [if_pos c7] at H
      have c7b0 : decide (x6_1 < (t307.length : Int)) = true := decide_eq_true c7
      clear c7
      by_cases c8 : x6_1 < ((rd_L7 t307 x6_1).length : Int)
      ·rw [if_pos c8] at H
       have c8b0 : decide (x6_1 < ((rd_L7 t307 x6_1).length : Int)) = true := decide_eq_true c8
       clear c8
       obtain ⟨bq9, hbq9⟩ : ∃ b_ : Bool, b_ = (rdOf false (rd_L7 t307 x6_1) x6_1) := ⟨_, rfl⟩
       replace H : (if bq9 = true then (some true) else (swarfref29_Cyclic.l0 k1 a0 t307 (wrap64 (x6_1 + 1)))) = some r := by rw [← hbq9] at H; exact H
       have Nbq9 := Aside0.mk hbq9; clear hbq9
       by_cases c10 : bq9 = true
       ·subst c10
        have H1 : (some true) = some r := by rw [if_pos rfl] at H; exact H
        clear H; have H := H1; clear H1; obtain rfl := Option.some.inj H
        obtain ⟨Ao11, co11, eo11⟩ := Kd.S_slice HO_5.out
        subst eo11
        have p310 : 0 ≤ (x6_1 : Int) := of_decide_eq_true (by first | (with_reducible assumption) | assumption)
        have q310 : x6_1 < (t307.length : Int) := of_decide_eq_true (by first | (with_reducible assumption) | assumption)
        obtain ⟨ad310, A310_0, c310_0, e310, hx310_0, hl310_0, hi310_0⟩ := at_L7 (Kd.S_reads' HO_5.out).2.2 x6_1 p310 q310
        cases e310
        obtain ⟨ce310, hce310, hMe310, hcc310⟩ := Kd.S_get HO_5.out [] x6_1 p310 (by first | exact q310 | exact of_decide_eq_true (by first | (with_reducible assumption) | assumption) | (have e_ := (Kd.S_reads' HO_5.out).1; omega))
        obtain ⟨ve310_0, rfl, ge310_0⟩ := hMe310
        have hv310_0 := hcc310 0 _ rfl
        rw [Nat.add_zero, show ((Kd.slice 4 Kd.bool)).sz = 1 from rfl, Nat.mul_one] at hv310_0
        replace hv310_0 := Option.some.inj (hv310_0.symm.trans hx310_0)
        rw [hv310_0] at ge310_0
        have HL310_0 := Aside0.mk (show Kd.R Kd.bool 4 _ _ _ _ (rd_L7 t307 x6_1) from ge310_0)
        clear hv310_0 ge310_0; clear hcc310 hce310; have HR310_0 := Aside0.mk hi310_0; have HC310_0 := Aside0.mk hl310_0; clear hi310_0 hl310_0; replace p310 := eq_true p310; replace q310 := eq_true q310
        have p311 : 0 ≤ (x6_1 : Int) := of_decide_eq_true (by first | (with_reducible assumption) | assumption)
        have q311 : x6_1 < ((rd_L7 t307 x6_1).length : Int) := of_decide_eq_true (by first | (with_reducible assumption) | assumption)
        obtain ⟨ad311, e311, hx311_0⟩ := Kd.at_bool (by repeat (first | (with_reducible exact HR310_0.out) | (with_reducible refine Kd.C_alloc ?_ _) | (with_reducible refine Kd.C_drewN ?_ _) | (with_reducible refine Kd.C_drew ?_) | exact HR310_0.out)) x6_1 p311 q311
        (try rw [← Nbq9.out] at hx311_0)
        cases e311; replace p311 := eq_true p311; replace q311 := eq_true q311; go_wp2; go_ret
        exact ⟨by first | rfl | (simp [errW_none, errW_some] <;> rfl) | (simp [*, errW_none, errW_some] <;> rfl), by repeat (first | (with_reducible first | exact HB.out | apply below_alloc | apply pw_below_drewN | apply below_drew1) | exact HB.out)⟩
       ·replace c10 := Bool.eq_false_iff.mpr c10
        subst c10
        have H1 : (swarfref29_Cyclic.l0 k1 a0 t307 (wrap64 (x6_1 + 1))) = some r := by rw [if_neg (show ¬ (false = true) by decide)] at H; exact H
        clear H; have H := H1; clear H1; have H' := Aside0.mk H; clear H
        obtain ⟨Ao12, co12, eo12⟩ := Kd.S_slice HO_5.out
        subst eo12
        have p310 : 0 ≤ (x6_1 : Int) := of_decide_eq_true (by first | (with_reducible assumption) | assumption)
        have q310 : x6_1 < (t307.length : Int) := of_decide_eq_true (by first | (with_reducible assumption) | assumption)
        obtain ⟨ad310, A310_0, c310_0, e310, hx310_0, hl310_0, hi310_0⟩ := at_L7 (Kd.S_reads' HO_5.out).2.2 x6_1 p310 q310
        cases e310
        obtain ⟨ce310, hce310, hMe310, hcc310⟩ := Kd.S_get HO_5.out [] x6_1 p310 (by first | exact q310 | exact of_decide_eq_true (by first | (with_reducible assumption) | assumption) | (have e_ := (Kd.S_reads' HO_5.out).1; omega))
        obtain ⟨ve310_0, rfl, ge310_0⟩ := hMe310
        have hv310_0 := hcc310 0 _ rfl
        rw [Nat.add_zero, show ((Kd.slice 4 Kd.bool)).sz = 1 from rfl, Nat.mul_one] at hv310_0
        replace hv310_0 := Option.some.inj (hv310_0.symm.trans hx310_0)
        rw [hv310_0] at ge310_0
        have HL310_0 := Aside0.mk (show Kd.R Kd.bool 4 _ _ _ _ (rd_L7 t307 x6_1) from ge310_0)
        clear hv310_0 ge310_0; clear hcc310 hce310; have HR310_0 := Aside0.mk hi310_0; have HC310_0 := Aside0.mk hl310_0; clear hi310_0 hl310_0; replace p310 := eq_true p310; replace q310 := eq_true q310
        have p311 : 0 ≤ (x6_1 : Int) := of_decide_eq_true (by first | (with_reducible assumption) | assumption)
        have q311 : x6_1 < ((rd_L7 t307 x6_1).length : Int) := of_decide_eq_true (by first | (with_reducible assumption) | assumption)
        obtain ⟨ad311, e311, hx311_0⟩ := Kd.at_bool (by repeat (first | (with_reducible exact HR310_0.out) | (with_reducible refine Kd.C_alloc ?_ _) | (with_reducible refine Kd.C_drewN ?_ _) | (with_reducible refine Kd.C_drew ?_) | exact HR310_0.out)) x6_1 p311 q311
        (try rw [← Nbq9.out] at hx311_0)
        cases e311; replace p311 := eq_true p311; replace q311 := eq_true q311; go_wp2
        go_roundg k1
        case measure => have := HK1.out; omega
        case rel => exact ⟨(wrap64 (x6_1 + 1)), (by first | rfl | (simp; done) | (simp [*]; done)), H', ⟨by have := HK1.out; omega⟩, ⟨by (with_reducible repeat (first | apply Kd.S_alloc | apply Kd.S_drewN | apply Kd.S_drew)); exact HO_5.out⟩, ⟨by repeat (first | (with_reducible first | exact HB.out | apply below_alloc | apply pw_below_drewN | apply below_drew1) | exact HB.out)⟩⟩
      ·rw [if_neg c8] at H
       exact absurd H (by simp)
     ·rw [if_neg c7] at H
      exact absurd H (by simp)
    ·rw [if_neg c6] at H
     exact absurd H (by simp)
   ·rw [if_neg c5] at H
    have c5b0 : decide (x6_1 < a0) = false := decide_eq_false c5
    clear c5; obtain rfl := Option.some.inj H; go_wp2; go_ret
    exact ⟨by first | rfl | (simp [errW_none, errW_some] <;> rfl) | (simp [*, errW_none, errW_some] <;> rfl), by repeat (first | (with_reducible first | exact HB.out | apply below_alloc | apply pw_below_drewN | apply below_drew1) | exact HB.out)⟩

end Go.Proofs.Ytbbkclcfmcjlgaa.P

-- PRINTED by print.py (a twelfth state) out of the translation. Not trusted: Lean checks it.

namespace Go.Proofs.Ytbbkclcfmcjlgaa.P
open Go.RowKit Go.Proofs.YtbbkclcfmcjlgaaW.PrintWords Go.Proofs.YtbbkclcfmcjlgaaW.PrintLast Go.Proofs.YtbbkclcfmcjlgaaW.PrintMore
attribute [local go_sem] max2_int min2_int max_two min_two max_three min_three max_four min_four   -- for this text's walks alone
set_option linter.unusedVariables false
set_option linter.unusedSimpArgs false

/-! ### swarflaw29_PrecedenceCycle: function 6 -/
def swarflaw29_PrecedenceCycle.j0 : Nat → Int → List (S47) → Bool → Option (Bool)
 | 0, _, _, _ => none
 | k + 1, x0, x1, x14 => if x14 = true then ((swarflaw29_awake.f k).bind fun t314 => (some t314)) else ((swarflaw29_cp.f x1).bind fun t315 => ((precedence_Cycle.f k x0 t315).bind fun bt318 => ((swarfref29_Valid.f k x0 x1).bind fun t322 => (if t322 = 0 then ((swarfref29_Cyclic.f k x0 x1).bind fun t323 => (if t323 = true then (if bt318.2 = true then ((swarfref29_Circle.f k x1 bt318.1).bind fun t324 => (some t324)) else (some false)) else (if bt318.2 = true then (some false) else (some ((bt318.1.length : Int) == 0))))) else (if bt318.2 = true then (some false) else (some ((bt318.1.length : Int) == 0)))))))
def swarflaw29_PrecedenceCycle.f (k : Nat) (a0 : Int) (l1 : List (S47)) : Option (Bool) := (swarflaw29_awake.f k).bind fun t312 => (if t312 = true then ((swarflaw29_few.f k a0 30 l1).bind fun t313 => (swarflaw29_PrecedenceCycle.j0 k a0 l1 (!t313))) else (swarflaw29_PrecedenceCycle.j0 k a0 l1 true))
theorem swarflaw29_PrecedenceCycle.mono_l : ∀ k, (∀ y0 y1 y2, LeO (swarflaw29_PrecedenceCycle.j0 k y0 y1 y2) (swarflaw29_PrecedenceCycle.j0 (k + 1) y0 y1 y2))
 | 0 => fun _ _ _ r h => by simp [swarflaw29_PrecedenceCycle.j0] at h
 | k + 1 => by
  have ih0 := swarflaw29_PrecedenceCycle.mono_l k
  ·intro y0 y1 y2
   unfold swarflaw29_PrecedenceCycle.j0
   repeat' first
   | (with_reducible exact ih0 _ _ _)
   | (with_reducible exact precedence_Cycle.mono _ _ _)
   | (with_reducible exact swarflaw29_awake.mono _)
   | (with_reducible exact swarflaw29_few.mono _ _ _ _)
   | (with_reducible exact swarfref29_Circle.mono _ _ _)
   | (with_reducible exact swarfref29_Cyclic.mono _ _ _)
   | (with_reducible exact swarfref29_Valid.mono _ _ _)
   | (with_reducible exact LeO.refl _)
   | (with_reducible exact LeO.none _)
   | (with_reducible refine LeO.ite ?_ ?_)
   | (with_reducible refine LeO.bind ?_ (fun _ => ?_))
   | exact ih0 _ _ _
   | exact precedence_Cycle.mono _ _ _
   | exact swarflaw29_awake.mono _
   | exact swarflaw29_few.mono _ _ _ _
   | exact swarfref29_Circle.mono _ _ _
   | exact swarfref29_Cyclic.mono _ _ _
   | exact swarfref29_Valid.mono _ _ _
   | exact LeO.none _
   | refine LeO.ite ?_ ?_
   | refine LeO.bind ?_ (fun _ => ?_)
theorem swarflaw29_PrecedenceCycle.mono : ∀ a0 a1 k, LeO (swarflaw29_PrecedenceCycle.f k a0 a1) (swarflaw29_PrecedenceCycle.f (k + 1) a0 a1) := by
 intro a0 a1 k
 have ih0 := swarflaw29_PrecedenceCycle.mono_l k
 unfold swarflaw29_PrecedenceCycle.f
 repeat' first
   | (with_reducible exact ih0 _ _ _)
   | (with_reducible exact precedence_Cycle.mono _ _ _)
   | (with_reducible exact swarflaw29_awake.mono _)
   | (with_reducible exact swarflaw29_few.mono _ _ _ _)
   | (with_reducible exact swarfref29_Circle.mono _ _ _)
   | (with_reducible exact swarfref29_Cyclic.mono _ _ _)
   | (with_reducible exact swarfref29_Valid.mono _ _ _)
   | (with_reducible exact LeO.refl _)
   | (with_reducible exact LeO.none _)
   | (with_reducible refine LeO.ite ?_ ?_)
   | (with_reducible refine LeO.bind ?_ (fun _ => ?_))
   | exact ih0 _ _ _
   | exact precedence_Cycle.mono _ _ _
   | exact swarflaw29_awake.mono _
   | exact swarflaw29_few.mono _ _ _ _
   | exact swarfref29_Circle.mono _ _ _
   | exact swarfref29_Cyclic.mono _ _ _
   | exact swarfref29_Valid.mono _ _ _
   | exact LeO.none _
   | refine LeO.ite ?_ ?_
   | refine LeO.bind ?_ (fun _ => ?_)
set_option maxHeartbeats 8000000 in
set_option maxRecDepth 100000 in
theorem swarflaw29_PrecedenceCycle.calls (k : Nat) (a0 : Int) (A1 : Option Addr) (c1 : Nat) (l1 : List (S47)) (r : Bool) (w : World) (hr1 : Kd.C k47 w A1 l1.length l1) (hc1 : l1.length ≤ c1) (h : swarflaw29_PrecedenceCycle.f k a0 l1 = some r) (hr : r = true) :
  Calls Try.prog 6 #[.int .i64 a0, .slice A1 l1.length c1] w fun e w' => e = .returned (.bool r) ∧ Below w.heap.size w w' := by
 have HRT := Aside0.mk hr
 clear hr
 have HR1 := Aside0.mk hr1
 have HC1 := Aside0.mk hc1
 clear hr1 hc1
 have HB := Aside0.mk (Below.refl w.heap.size w)
 have H : ((swarflaw29_awake.f k).bind fun t312 => (if t312 = true then ((swarflaw29_few.f k a0 30 l1).bind fun t313 => (swarflaw29_PrecedenceCycle.j0 k a0 l1 (!t313))) else (swarflaw29_PrecedenceCycle.j0 k a0 l1 true))) = some r := h
 clear h
 have HC3 := Aside0.mk H
 clear H
 go_enter Try.func6, Try.ntmps6
 go_upto_region 1 with (fail)
 go_cut [14] (fun v14 wc => ∃ (kq : Nat) (x14_2 : Bool), v14 = .bool x14_2 ∧ Aside0 (swarflaw29_PrecedenceCycle.j0 kq a0 l1 x14_2 = some r) ∧ Aside0 (kq ≤ k) ∧ Aside0 (Below w.heap.size w wc))
 case first =>
  have H := HC3.out
  clear HC3; replace H := Option.bind_eq_some_iff.mp H
  obtain ⟨t312, A40, H⟩ := H
  replace H : (if t312 = true then ((swarflaw29_few.f k a0 30 l1).bind fun t313 => (swarflaw29_PrecedenceCycle.j0 k a0 l1 (!t313))) else (swarflaw29_PrecedenceCycle.j0 k a0 l1 true)) = some r := H
  have A4 := Aside0.mk A40; clear A40
  by_cases c5 : t312 = true
  ·subst c5
   have H1 : ((swarflaw29_few.f k a0 30 l1).bind fun t313 => (swarflaw29_PrecedenceCycle.j0 k a0 l1 (!t313))) = some r := by rw [if_pos rfl] at H; exact H
   clear H; have H := H1; clear H1; replace H := Option.bind_eq_some_iff.mp H
   obtain ⟨t313, A60, H⟩ := H
   replace H : (swarflaw29_PrecedenceCycle.j0 k a0 l1 (!t313)) = some r := H
   have A6 := Aside0.mk A60; clear A60; have H' := Aside0.mk H; clear H
   go_wp2_with (first | ((with_reducible refine gate_callee (f := 12) rfl ?_); refine goesL_ (some 7) rfl rfl Try.func12 (by kernel_rfl) rfl #[] rfl (by (try simp only [List.map_toArray, List.map_cons, List.map_nil]); first | done | rfl | (simp only [List.length_drop, List.length_take]; rfl)) ?_; (with_reducible refine (swarflaw29_awake.calls k  true _ A4.out).mono ?_); rintro e w7 ⟨rfl, hb⟩; refine ⟨_, rfl, ?_⟩; have n0_ := Aside0.mk (below_step (by repeat (first | (with_reducible first | exact HB.out | apply below_alloc | apply pw_below_drewN | apply below_drew1) | exact HB.out)) hb); clear HB; have HB := n0_; clear n0_; (try clear hb); (try clear hb2); (try clear hk); (try clear hi)) | (go_at_call 13; (with_reducible refine (swarflaw29_few.calls k a0 30 _ _ l1 t313 _ ?side1 ?side2 A6.out).mono ?_); (case side1 => repeat (first | exact (Kd.C_below HR1.out HB.out) | (with_reducible refine Kd.C_alloc ?_ _) | (with_reducible refine Kd.C_drewN ?_ _) | (with_reducible refine Kd.C_drew ?_))); (case side2 => exact HC1.out); rintro e w' ⟨rfl, ⟨nd, rfl⟩⟩))
   go_meet
   case rel => exact ⟨_, (!t313), (by first | rfl | (simp; done) | (simp [*]; done)), H', ⟨by first | omega | exact Nat.le_refl _⟩, ⟨by repeat (first | (with_reducible first | exact HB.out | apply below_alloc | apply pw_below_drewN | apply below_drew1) | exact HB.out)⟩⟩
  ·replace c5 := Bool.eq_false_iff.mpr c5
   subst c5
   have H1 : (swarflaw29_PrecedenceCycle.j0 k a0 l1 true) = some r := by rw [if_neg (show ¬ (false = true) by decide)] at H; exact H
   clear H; have H := H1; clear H1; have H' := Aside0.mk H; clear H
   go_wp2_with (first | ((with_reducible refine gate_callee (f := 12) rfl ?_); refine goesL_ (some 7) rfl rfl Try.func12 (by kernel_rfl) rfl #[] rfl (by (try simp only [List.map_toArray, List.map_cons, List.map_nil]); first | done | rfl | (simp only [List.length_drop, List.length_take]; rfl)) ?_; (with_reducible refine (swarflaw29_awake.calls k  false _ A4.out).mono ?_); rintro e w8 ⟨rfl, hb⟩; refine ⟨_, rfl, ?_⟩; have n0_ := Aside0.mk (below_step (by repeat (first | (with_reducible first | exact HB.out | apply below_alloc | apply pw_below_drewN | apply below_drew1) | exact HB.out)) hb); clear HB; have HB := n0_; clear n0_; (try clear hb); (try clear hb2); (try clear hk); (try clear hi)))
   go_meet
   case rel => exact ⟨_, (true), (by first | rfl | (simp; done) | (simp [*]; done)), H', ⟨by first | omega | exact Nat.le_refl _⟩, ⟨by repeat (first | (with_reducible first | exact HB.out | apply below_alloc | apply pw_below_drewN | apply below_drew1) | exact HB.out)⟩⟩
 case rest =>
  clear HC3; try clear c1; try clear p2; try clear c5; try clear c6
  obtain ⟨kq, x14_2, rfl, HA, HJ2, HB⟩ := hcut
  cases kq with
  | zero => exact absurd HA.out (by simp [swarflaw29_PrecedenceCycle.j0])
  | succ kj2 =>
   have H := HA.out
   clear HA
   simp only [swarflaw29_PrecedenceCycle.j0] at H
   by_cases c9 : x14_2 = true
   ·subst c9
    have H1 : ((swarflaw29_awake.f kj2).bind fun t314 => (some t314)) = some r := by rw [if_pos rfl] at H; exact H
    clear H; have H := H1; clear H1; replace H := Option.bind_eq_some_iff.mp H
    obtain ⟨t314, A100, H⟩ := H
    replace H : (some t314) = some r := H
    have A10 := Aside0.mk A100; clear A100; obtain rfl := Option.some.inj H
    go_wp2_with (first | ((with_reducible refine gate_callee (f := 12) rfl ?_); refine goesL_ (some 15) rfl rfl Try.func12 (by kernel_rfl) rfl #[] rfl (by (try simp only [List.map_toArray, List.map_cons, List.map_nil]); first | done | rfl | (simp only [List.length_drop, List.length_take]; rfl)) ?_; (with_reducible refine (swarflaw29_awake.calls kj2  t314 _ A10.out).mono ?_); rintro e w11 ⟨rfl, hb⟩; refine ⟨_, rfl, ?_⟩; have n0_ := Aside0.mk (below_step (by repeat (first | (with_reducible first | exact HB.out | apply below_alloc | apply pw_below_drewN | apply below_drew1) | exact HB.out)) hb); clear HB; have HB := n0_; clear n0_; (try clear hb); (try clear hb2); (try clear hk); (try clear hi)))
    go_ret
    exact ⟨by first | rfl | (simp [errW_none, errW_some] <;> rfl) | (simp [*, errW_none, errW_some] <;> rfl), by repeat (first | (with_reducible first | exact HB.out | apply below_alloc | apply pw_below_drewN | apply below_drew1) | exact HB.out)⟩
   ·replace c9 := Bool.eq_false_iff.mpr c9
    subst c9
    have H1 : ((swarflaw29_cp.f l1).bind fun t315 => ((precedence_Cycle.f kj2 a0 t315).bind fun bt318 => ((swarfref29_Valid.f kj2 a0 l1).bind fun t322 => (if t322 = 0 then ((swarfref29_Cyclic.f kj2 a0 l1).bind fun t323 => (if t323 = true then (if bt318.2 = true then ((swarfref29_Circle.f kj2 l1 bt318.1).bind fun t324 => (some t324)) else (some false)) else (if bt318.2 = true then (some false) else (some ((bt318.1.length : Int) == 0))))) else (if bt318.2 = true then (some false) else (some ((bt318.1.length : Int) == 0))))))) = some r := by rw [if_neg (show ¬ (false = true) by decide)] at H; exact H
    clear H; have H := H1; clear H1; replace H := Option.bind_eq_some_iff.mp H
    obtain ⟨t315, A120, H⟩ := H
    replace H : ((precedence_Cycle.f kj2 a0 t315).bind fun bt318 => ((swarfref29_Valid.f kj2 a0 l1).bind fun t322 => (if t322 = 0 then ((swarfref29_Cyclic.f kj2 a0 l1).bind fun t323 => (if t323 = true then (if bt318.2 = true then ((swarfref29_Circle.f kj2 l1 bt318.1).bind fun t324 => (some t324)) else (some false)) else (if bt318.2 = true then (some false) else (some ((bt318.1.length : Int) == 0))))) else (if bt318.2 = true then (some false) else (some ((bt318.1.length : Int) == 0)))))) = some r := H
    have A12 := Aside0.mk A120; clear A120; replace H := Option.bind_eq_some_iff.mp H
    obtain ⟨⟨t318, t319⟩, A130, H⟩ := H
    replace H : ((swarfref29_Valid.f kj2 a0 l1).bind fun t322 => (if t322 = 0 then ((swarfref29_Cyclic.f kj2 a0 l1).bind fun t323 => (if t323 = true then (if t319 = true then ((swarfref29_Circle.f kj2 l1 t318).bind fun t324 => (some t324)) else (some false)) else (if t319 = true then (some false) else (some ((t318.length : Int) == 0))))) else (if t319 = true then (some false) else (some ((t318.length : Int) == 0))))) = some r := H
    have A13 := Aside0.mk A130; clear A130; replace H := Option.bind_eq_some_iff.mp H
    obtain ⟨t322, A140, H⟩ := H
    replace H : (if t322 = 0 then ((swarfref29_Cyclic.f kj2 a0 l1).bind fun t323 => (if t323 = true then (if t319 = true then ((swarfref29_Circle.f kj2 l1 t318).bind fun t324 => (some t324)) else (some false)) else (if t319 = true then (some false) else (some ((t318.length : Int) == 0))))) else (if t319 = true then (some false) else (some ((t318.length : Int) == 0)))) = some r := H
    have A14 := Aside0.mk A140; clear A140
    by_cases c15 : t322 = 0
    ·rw [if_pos c15] at H
     have c15b0 : (t322 == 0) = true := beq_iff_eq.mpr c15
     have c15b1 : (t322 != 0) = false := bne_eq_false_iff_eq.mpr c15
     clear c15; replace H := Option.bind_eq_some_iff.mp H
     obtain ⟨t323, A160, H⟩ := H
     replace H : (if t323 = true then (if t319 = true then ((swarfref29_Circle.f kj2 l1 t318).bind fun t324 => (some t324)) else (some false)) else (if t319 = true then (some false) else (some ((t318.length : Int) == 0)))) = some r := H
     have A16 := Aside0.mk A160; clear A160
     by_cases c17 : t323 = true
     ·subst c17
      have H1 : (if t319 = true then ((swarfref29_Circle.f kj2 l1 t318).bind fun t324 => (some t324)) else (some false)) = some r := by rw [if_pos rfl] at H; exact H
      clear H; have H := H1; clear H1
      by_cases c18 : t319 = true
      ·subst c18
       have H1 : ((swarfref29_Circle.f kj2 l1 t318).bind fun t324 => (some t324)) = some r := by rw [if_pos rfl] at H; exact H
       clear H; have H := H1; clear H1; replace H := Option.bind_eq_some_iff.mp H
       obtain ⟨t324, A190, H⟩ := H
       replace H : (some t324) = some r := H
       have A19 := Aside0.mk A190; clear A190; obtain rfl := Option.some.inj H
       go_wp2_with (first | ((with_reducible refine gate_callee (f := 15) rfl ?_); refine goesL_ (some 19) rfl rfl Try.func15 (by kernel_rfl) rfl #[.slice A1 l1.length c1] rfl (by (try simp only [List.map_toArray, List.map_cons, List.map_nil]); first | done | rfl | (simp only [List.length_drop, List.length_take]; rfl)) ?_; (with_reducible refine (swarflaw29_cp.calls _ _ l1 t315 _ ?side1 ?side2 A12.out).mono ?_); (case side1 => repeat (first | exact (Kd.C_below HR1.out HB.out) | (with_reducible refine Kd.C_alloc ?_ _) | (with_reducible refine Kd.C_drewN ?_ _) | (with_reducible refine Kd.C_drew ?_))); (case side2 => exact HC1.out); rintro e w20 ⟨v316, rfl, ho0, hb⟩; refine ⟨_, rfl, ?_⟩; have n0_ := Aside0.mk (Kd.R_lower ho0 (below_size (by repeat (first | (with_reducible first | exact HB.out | apply below_alloc | apply pw_below_drewN | apply below_drew1) | exact HB.out)))); have n1_ := Aside0.mk (below_step (by repeat (first | (with_reducible first | exact HB.out | apply below_alloc | apply pw_below_drewN | apply below_drew1) | exact HB.out)) hb); clear HB; have HO317 := n0_; have HB := n1_; clear n0_ n1_; (try clear hb); (try clear hb2); (try clear hk); (try clear hi); (try clear ho0); obtain ⟨Ao21, co21, eo21⟩ := Kd.R_slice HO317.out; subst eo21) | ((with_reducible refine gate_callee (f := 22) rfl ?_); refine goesL_ (some 20) rfl rfl Try.func22 (by kernel_rfl) rfl #[.int .i64 a0, .slice Ao21 t315.length co21] rfl (by (try simp only [List.map_toArray, List.map_cons, List.map_nil]); first | done | rfl | (simp only [List.length_drop, List.length_take]; rfl)) ?_; (with_reducible refine (precedence_Cycle.calls kj2 a0 _ _ t315 t318 true _ ?side1 ?side2 A13.out).mono ?_); (case side1 => repeat (first | exact (Kd.R_reads' HO317.out).2.2 | (with_reducible refine Kd.C_alloc ?_ _) | (with_reducible refine Kd.C_drewN ?_ _) | (with_reducible refine Kd.C_drew ?_))); (case side2 => exact (Kd.R_reads' HO317.out).2.1); rintro e w22 ⟨v320, rfl, ho0, hb⟩; refine ⟨_, rfl, ?_⟩; have n0_ := Aside0.mk (Kd.R_below (by (with_reducible repeat (first | apply Kd.R_alloc | apply Kd.R_drewN | apply Kd.R_drew)); exact HO317.out) hb); have n1_ := Aside0.mk (Kd.R_lower ho0 (below_size (by repeat (first | (with_reducible first | exact HB.out | apply below_alloc | apply pw_below_drewN | apply below_drew1) | exact HB.out)))); have n2_ := Aside0.mk (below_step (by repeat (first | (with_reducible first | exact HB.out | apply below_alloc | apply pw_below_drewN | apply below_drew1) | exact HB.out)) hb); clear HO317; clear HB; have HO317 := n0_; have HO321 := n1_; have HB := n2_; clear n0_ n1_ n2_; (try clear hb); (try clear hb2); (try clear hk); (try clear hi); (try clear ho0)) | ((with_reducible refine gate_callee (f := 21) rfl ?_); refine goesL_ (some 25) rfl rfl Try.func21 (by kernel_rfl) rfl #[.int .i64 a0, .slice A1 l1.length c1] rfl (by (try simp only [List.map_toArray, List.map_cons, List.map_nil]); first | done | rfl | (simp only [List.length_drop, List.length_take]; rfl)) ?_; (with_reducible refine (swarfref29_Valid.calls kj2 a0 _ _ l1 t322 _ ?side1 ?side2 A14.out).mono ?_); (case side1 => repeat (first | exact (Kd.C_below HR1.out HB.out) | (with_reducible refine Kd.C_alloc ?_ _) | (with_reducible refine Kd.C_drewN ?_ _) | (with_reducible refine Kd.C_drew ?_))); (case side2 => exact HC1.out); rintro e w' ⟨rfl, ⟨nd, rfl⟩⟩; refine ⟨_, rfl, ?_⟩) | (go_at_call 23; (with_reducible refine (swarfref29_Cyclic.calls kj2 a0 _ _ l1 true _ ?side1 ?side2 A16.out).mono ?_); (case side1 => repeat (first | exact (Kd.C_below HR1.out (by repeat (first | (with_reducible first | exact HB.out | apply below_alloc | apply pw_below_drewN | apply below_drew1) | exact HB.out))) | (with_reducible refine Kd.C_alloc ?_ _) | (with_reducible refine Kd.C_drewN ?_ _) | (with_reducible refine Kd.C_drew ?_))); (case side2 => exact HC1.out); rintro e w23 ⟨rfl, hb⟩; have n0_ := Aside0.mk (Kd.R_below (by (with_reducible repeat (first | apply Kd.R_alloc | apply Kd.R_drewN | apply Kd.R_drew)); exact HO317.out) hb); have n1_ := Aside0.mk (Kd.R_below (by (with_reducible repeat (first | apply Kd.R_alloc | apply Kd.R_drewN | apply Kd.R_drew)); exact HO321.out) hb); have n2_ := Aside0.mk (below_step (by repeat (first | (with_reducible first | exact HB.out | apply below_alloc | apply pw_below_drewN | apply below_drew1) | exact HB.out)) hb); clear HO317; clear HO321; clear HB; have HO317 := n0_; have HO321 := n1_; have HB := n2_; clear n0_ n1_ n2_; (try clear hb); (try clear hb2); (try clear hk); (try clear hi); obtain ⟨Ao24, co24, eo24⟩ := Kd.R_slice HO321.out; subst eo24) | (go_at_call 24; (with_reducible refine (swarfref29_Circle.calls kj2 _ _ l1 _ _ t318 t324 _ ?side1 ?side2 ?side3 ?side4 A19.out).mono ?_); (case side1 => repeat (first | exact (Kd.C_below HR1.out HB.out) | (with_reducible refine Kd.C_alloc ?_ _) | (with_reducible refine Kd.C_drewN ?_ _) | (with_reducible refine Kd.C_drew ?_))); (case side2 => exact HC1.out); (case side3 => repeat (first | exact (Kd.R_reads' HO321.out).2.2 | (with_reducible refine Kd.C_alloc ?_ _) | (with_reducible refine Kd.C_drewN ?_ _) | (with_reducible refine Kd.C_drew ?_))); (case side4 => exact (Kd.R_reads' HO321.out).2.1); rintro e w' ⟨rfl, ⟨nd, rfl⟩⟩))
       go_ret
       exact ⟨by first | rfl | (simp [errW_none, errW_some] <;> rfl) | (simp [*, errW_none, errW_some] <;> rfl), by repeat (first | (with_reducible first | exact HB.out | apply below_alloc | apply pw_below_drewN | apply below_drew1) | exact HB.out)⟩
      ·replace c18 := Bool.eq_false_iff.mpr c18
       subst c18
       have H1 : (some false) = some r := by rw [if_neg (show ¬ (false = true) by decide)] at H; exact H
       clear H; have H := H1; clear H1
       (rw [HRT.out] at H; exact absurd H (by decide))
     ·replace c17 := Bool.eq_false_iff.mpr c17
      subst c17
      have H1 : (if t319 = true then (some false) else (some ((t318.length : Int) == 0))) = some r := by rw [if_neg (show ¬ (false = true) by decide)] at H; exact H
      clear H; have H := H1; clear H1
      by_cases c29 : t319 = true
      ·subst c29
       have H1 : (some false) = some r := by rw [if_pos rfl] at H; exact H
       clear H; have H := H1; clear H1
       (rw [HRT.out] at H; exact absurd H (by decide))
      ·replace c29 := Bool.eq_false_iff.mpr c29
       subst c29
       have H1 : (some ((t318.length : Int) == 0)) = some r := by rw [if_neg (show ¬ (false = true) by decide)] at H; exact H
       clear H; have H := H1; clear H1; obtain rfl := Option.some.inj H
       go_wp2_with (first | ((with_reducible refine gate_callee (f := 15) rfl ?_); refine goesL_ (some 19) rfl rfl Try.func15 (by kernel_rfl) rfl #[.slice A1 l1.length c1] rfl (by (try simp only [List.map_toArray, List.map_cons, List.map_nil]); first | done | rfl | (simp only [List.length_drop, List.length_take]; rfl)) ?_; (with_reducible refine (swarflaw29_cp.calls _ _ l1 t315 _ ?side1 ?side2 A12.out).mono ?_); (case side1 => repeat (first | exact (Kd.C_below HR1.out HB.out) | (with_reducible refine Kd.C_alloc ?_ _) | (with_reducible refine Kd.C_drewN ?_ _) | (with_reducible refine Kd.C_drew ?_))); (case side2 => exact HC1.out); rintro e w34 ⟨v316, rfl, ho0, hb⟩; refine ⟨_, rfl, ?_⟩; have n0_ := Aside0.mk (Kd.R_lower ho0 (below_size (by repeat (first | (with_reducible first | exact HB.out | apply below_alloc | apply pw_below_drewN | apply below_drew1) | exact HB.out)))); have n1_ := Aside0.mk (below_step (by repeat (first | (with_reducible first | exact HB.out | apply below_alloc | apply pw_below_drewN | apply below_drew1) | exact HB.out)) hb); clear HB; have HO317 := n0_; have HB := n1_; clear n0_ n1_; (try clear hb); (try clear hb2); (try clear hk); (try clear hi); (try clear ho0); obtain ⟨Ao35, co35, eo35⟩ := Kd.R_slice HO317.out; subst eo35) | ((with_reducible refine gate_callee (f := 22) rfl ?_); refine goesL_ (some 20) rfl rfl Try.func22 (by kernel_rfl) rfl #[.int .i64 a0, .slice Ao35 t315.length co35] rfl (by (try simp only [List.map_toArray, List.map_cons, List.map_nil]); first | done | rfl | (simp only [List.length_drop, List.length_take]; rfl)) ?_; (with_reducible refine (precedence_Cycle.calls kj2 a0 _ _ t315 t318 false _ ?side1 ?side2 A13.out).mono ?_); (case side1 => repeat (first | exact (Kd.R_reads' HO317.out).2.2 | (with_reducible refine Kd.C_alloc ?_ _) | (with_reducible refine Kd.C_drewN ?_ _) | (with_reducible refine Kd.C_drew ?_))); (case side2 => exact (Kd.R_reads' HO317.out).2.1); rintro e w36 ⟨v320, rfl, ho0, hb⟩; refine ⟨_, rfl, ?_⟩; have n0_ := Aside0.mk (Kd.R_below (by (with_reducible repeat (first | apply Kd.R_alloc | apply Kd.R_drewN | apply Kd.R_drew)); exact HO317.out) hb); have n1_ := Aside0.mk (Kd.R_lower ho0 (below_size (by repeat (first | (with_reducible first | exact HB.out | apply below_alloc | apply pw_below_drewN | apply below_drew1) | exact HB.out)))); have n2_ := Aside0.mk (below_step (by repeat (first | (with_reducible first | exact HB.out | apply below_alloc | apply pw_below_drewN | apply below_drew1) | exact HB.out)) hb); clear HO317; clear HB; have HO317 := n0_; have HO321 := n1_; have HB := n2_; clear n0_ n1_ n2_; (try clear hb); (try clear hb2); (try clear hk); (try clear hi); (try clear ho0)) | ((with_reducible refine gate_callee (f := 21) rfl ?_); refine goesL_ (some 25) rfl rfl Try.func21 (by kernel_rfl) rfl #[.int .i64 a0, .slice A1 l1.length c1] rfl (by (try simp only [List.map_toArray, List.map_cons, List.map_nil]); first | done | rfl | (simp only [List.length_drop, List.length_take]; rfl)) ?_; (with_reducible refine (swarfref29_Valid.calls kj2 a0 _ _ l1 t322 _ ?side1 ?side2 A14.out).mono ?_); (case side1 => repeat (first | exact (Kd.C_below HR1.out HB.out) | (with_reducible refine Kd.C_alloc ?_ _) | (with_reducible refine Kd.C_drewN ?_ _) | (with_reducible refine Kd.C_drew ?_))); (case side2 => exact HC1.out); rintro e w' ⟨rfl, ⟨nd, rfl⟩⟩; refine ⟨_, rfl, ?_⟩) | (go_at_call 23; (with_reducible refine (swarfref29_Cyclic.calls kj2 a0 _ _ l1 false _ ?side1 ?side2 A16.out).mono ?_); (case side1 => repeat (first | exact (Kd.C_below HR1.out (by repeat (first | (with_reducible first | exact HB.out | apply below_alloc | apply pw_below_drewN | apply below_drew1) | exact HB.out))) | (with_reducible refine Kd.C_alloc ?_ _) | (with_reducible refine Kd.C_drewN ?_ _) | (with_reducible refine Kd.C_drew ?_))); (case side2 => exact HC1.out); rintro e w37 ⟨rfl, hb⟩; have n0_ := Aside0.mk (Kd.R_below (by (with_reducible repeat (first | apply Kd.R_alloc | apply Kd.R_drewN | apply Kd.R_drew)); exact HO317.out) hb); have n1_ := Aside0.mk (Kd.R_below (by (with_reducible repeat (first | apply Kd.R_alloc | apply Kd.R_drewN | apply Kd.R_drew)); exact HO321.out) hb); have n2_ := Aside0.mk (below_step (by repeat (first | (with_reducible first | exact HB.out | apply below_alloc | apply pw_below_drewN | apply below_drew1) | exact HB.out)) hb); clear HO317; clear HO321; clear HB; have HO317 := n0_; have HO321 := n1_; have HB := n2_; clear n0_ n1_ n2_; (try clear hb); (try clear hb2); (try clear hk); (try clear hi); obtain ⟨Ao38, co38, eo38⟩ := Kd.R_slice HO321.out; subst eo38))
       go_ret
       exact ⟨by first | rfl | (simp [errW_none, errW_some] <;> rfl) | (simp [*, errW_none, errW_some] <;> rfl), by repeat (first | (with_reducible first | exact HB.out | apply below_alloc | apply pw_below_drewN | apply below_drew1) | exact HB.out)⟩
    ·rw [if_neg c15] at H
     have c15b0 : (t322 == 0) = false := beq_eq_false_iff_ne.mpr c15
     have c15b1 : (t322 != 0) = true := bne_iff_ne.mpr c15
     by_cases c39 : t319 = true
     ·subst c39
      have H1 : (some false) = some r := by rw [if_pos rfl] at H; exact H
      clear H; have H := H1; clear H1
      (rw [HRT.out] at H; exact absurd H (by decide))
     ·replace c39 := Bool.eq_false_iff.mpr c39
      subst c39
      have H1 : (some ((t318.length : Int) == 0)) = some r := by rw [if_neg (show ¬ (false = true) by decide)] at H; exact H
      clear H; have H := H1; clear H1; obtain rfl := Option.some.inj H
      go_wp2_with (first | ((with_reducible refine gate_callee (f := 15) rfl ?_); refine goesL_ (some 19) rfl rfl Try.func15 (by kernel_rfl) rfl #[.slice A1 l1.length c1] rfl (by (try simp only [List.map_toArray, List.map_cons, List.map_nil]); first | done | rfl | (simp only [List.length_drop, List.length_take]; rfl)) ?_; (with_reducible refine (swarflaw29_cp.calls _ _ l1 t315 _ ?side1 ?side2 A12.out).mono ?_); (case side1 => repeat (first | exact (Kd.C_below HR1.out HB.out) | (with_reducible refine Kd.C_alloc ?_ _) | (with_reducible refine Kd.C_drewN ?_ _) | (with_reducible refine Kd.C_drew ?_))); (case side2 => exact HC1.out); rintro e w43 ⟨v316, rfl, ho0, hb⟩; refine ⟨_, rfl, ?_⟩; have n0_ := Aside0.mk (Kd.R_lower ho0 (below_size (by repeat (first | (with_reducible first | exact HB.out | apply below_alloc | apply pw_below_drewN | apply below_drew1) | exact HB.out)))); have n1_ := Aside0.mk (below_step (by repeat (first | (with_reducible first | exact HB.out | apply below_alloc | apply pw_below_drewN | apply below_drew1) | exact HB.out)) hb); clear HB; have HO317 := n0_; have HB := n1_; clear n0_ n1_; (try clear hb); (try clear hb2); (try clear hk); (try clear hi); (try clear ho0); obtain ⟨Ao44, co44, eo44⟩ := Kd.R_slice HO317.out; subst eo44) | ((with_reducible refine gate_callee (f := 22) rfl ?_); refine goesL_ (some 20) rfl rfl Try.func22 (by kernel_rfl) rfl #[.int .i64 a0, .slice Ao44 t315.length co44] rfl (by (try simp only [List.map_toArray, List.map_cons, List.map_nil]); first | done | rfl | (simp only [List.length_drop, List.length_take]; rfl)) ?_; (with_reducible refine (precedence_Cycle.calls kj2 a0 _ _ t315 t318 false _ ?side1 ?side2 A13.out).mono ?_); (case side1 => repeat (first | exact (Kd.R_reads' HO317.out).2.2 | (with_reducible refine Kd.C_alloc ?_ _) | (with_reducible refine Kd.C_drewN ?_ _) | (with_reducible refine Kd.C_drew ?_))); (case side2 => exact (Kd.R_reads' HO317.out).2.1); rintro e w45 ⟨v320, rfl, ho0, hb⟩; refine ⟨_, rfl, ?_⟩; have n0_ := Aside0.mk (Kd.R_below (by (with_reducible repeat (first | apply Kd.R_alloc | apply Kd.R_drewN | apply Kd.R_drew)); exact HO317.out) hb); have n1_ := Aside0.mk (Kd.R_lower ho0 (below_size (by repeat (first | (with_reducible first | exact HB.out | apply below_alloc | apply pw_below_drewN | apply below_drew1) | exact HB.out)))); have n2_ := Aside0.mk (below_step (by repeat (first | (with_reducible first | exact HB.out | apply below_alloc | apply pw_below_drewN | apply below_drew1) | exact HB.out)) hb); clear HO317; clear HB; have HO317 := n0_; have HO321 := n1_; have HB := n2_; clear n0_ n1_ n2_; (try clear hb); (try clear hb2); (try clear hk); (try clear hi); (try clear ho0)) | ((with_reducible refine gate_callee (f := 21) rfl ?_); refine goesL_ (some 25) rfl rfl Try.func21 (by kernel_rfl) rfl #[.int .i64 a0, .slice A1 l1.length c1] rfl (by (try simp only [List.map_toArray, List.map_cons, List.map_nil]); first | done | rfl | (simp only [List.length_drop, List.length_take]; rfl)) ?_; (with_reducible refine (swarfref29_Valid.calls kj2 a0 _ _ l1 t322 _ ?side1 ?side2 A14.out).mono ?_); (case side1 => repeat (first | exact (Kd.C_below HR1.out HB.out) | (with_reducible refine Kd.C_alloc ?_ _) | (with_reducible refine Kd.C_drewN ?_ _) | (with_reducible refine Kd.C_drew ?_))); (case side2 => exact HC1.out); rintro e w' ⟨rfl, ⟨nd, rfl⟩⟩; refine ⟨_, rfl, ?_⟩; obtain ⟨Ao46, co46, eo46⟩ := Kd.R_slice HO321.out; subst eo46))
      go_ret
      exact ⟨by first | rfl | (simp [errW_none, errW_some] <;> rfl) | (simp [*, errW_none, errW_some] <;> rfl), by repeat (first | (with_reducible first | exact HB.out | apply below_alloc | apply pw_below_drewN | apply below_drew1) | exact HB.out)⟩

end Go.Proofs.Ytbbkclcfmcjlgaa.P

/- The examples of the chapter hold, told by the printed function. -/

namespace Go.Proofs.Ytbbkclcfmcjlgaa.B
open Go.RowKit Go.Proofs.Ytbbkclcfmcjlgaa.P Go.Proofs.YtbbkclcfmcjlgaaW.PrintWords Go.Proofs.YtbbkclcfmcjlgaaW.PrintLast
theorem awake_ev : Ev (fun k => swarflaw29_awake.f k) true := Ev.of swarflaw29_awake.mono swarflaw29_awake.small
end Go.Proofs.Ytbbkclcfmcjlgaa.B

-- PRINTED by print.py (a twelfth state) out of the translation. Not trusted: Lean checks it.

namespace Go.Proofs.Ytbbkclcfmcjlgaa.P
open Go.RowKit Go.Proofs.YtbbkclcfmcjlgaaW.PrintWords Go.Proofs.YtbbkclcfmcjlgaaW.PrintLast Go.Proofs.YtbbkclcfmcjlgaaW.PrintMore
attribute [local go_sem] max2_int min2_int max_two min_two max_three min_three max_four min_four   -- for this text's walks alone
set_option linter.unusedVariables false
set_option linter.unusedSimpArgs false

/-! ### swarfref29_ready: function 41 -/
def swarfref29_ready.l0 : Nat → List (S47) → List Int → Int → Int → Option (Bool)
 | 0, _, _, _, _ => none
 | k + 1, x0, x1, x2, x7 => if x7 < (x0.length : Int) then (if 0 ≤ x7 then (if ((rd_T47 x0 x7).f1) = x2 then ((swarfref29_in.f k x1 ((rd_T47 x0 x7).f0)).bind fun t241 => (if t241 = true then (swarfref29_ready.l0 k x0 x1 x2 (wrap64 (x7 + 1))) else (some false))) else (swarfref29_ready.l0 k x0 x1 x2 (wrap64 (x7 + 1)))) else (none)) else (some true)
def swarfref29_ready.f (k : Nat) (l0 : List (S47)) (l1 : List Int) (a2 : Int) : Option (Bool) := swarfref29_ready.l0 k l0 l1 a2 0
theorem swarfref29_ready.mono_l : ∀ k, (∀ y0 y1 y2 y3, LeO (swarfref29_ready.l0 k y0 y1 y2 y3) (swarfref29_ready.l0 (k + 1) y0 y1 y2 y3))
 | 0 => fun _ _ _ _ r h => by simp [swarfref29_ready.l0] at h
 | k + 1 => by
  have ih0 := swarfref29_ready.mono_l k
  ·intro y0 y1 y2 y3
   unfold swarfref29_ready.l0
   repeat' first
   | (with_reducible exact ih0 _ _ _ _)
   | (with_reducible exact swarfref29_in.mono _ _ _)
   | (with_reducible exact LeO.refl _)
   | (with_reducible exact LeO.none _)
   | (with_reducible refine LeO.ite ?_ ?_)
   | (with_reducible refine LeO.bind ?_ (fun _ => ?_))
   | exact ih0 _ _ _ _
   | exact swarfref29_in.mono _ _ _
   | exact LeO.none _
   | refine LeO.ite ?_ ?_
   | refine LeO.bind ?_ (fun _ => ?_)
theorem swarfref29_ready.mono : ∀ a0 a1 a2 k, LeO (swarfref29_ready.f k a0 a1 a2) (swarfref29_ready.f (k + 1) a0 a1 a2) := by
 intro a0 a1 a2 k
 have ih0 := swarfref29_ready.mono_l k
 unfold swarfref29_ready.f
 repeat' first
   | (with_reducible exact ih0 _ _ _ _)
   | (with_reducible exact swarfref29_in.mono _ _ _)
   | (with_reducible exact LeO.refl _)
   | (with_reducible exact LeO.none _)
   | (with_reducible refine LeO.ite ?_ ?_)
   | (with_reducible refine LeO.bind ?_ (fun _ => ?_))
   | exact ih0 _ _ _ _
   | exact swarfref29_in.mono _ _ _
   | exact LeO.none _
   | refine LeO.ite ?_ ?_
   | refine LeO.bind ?_ (fun _ => ?_)
set_option maxHeartbeats 8000000 in
set_option maxRecDepth 100000 in
theorem swarfref29_ready.calls (k : Nat) (A0 : Option Addr) (c0 : Nat) (l0 : List (S47)) (A1 : Option Addr) (c1 : Nat) (l1 : List Int) (a2 : Int) (r : Bool) (w : World) (hr0 : Kd.C k47 w A0 l0.length l0) (hc0 : l0.length ≤ c0) (hr1 : Kd.C (Kd.int .i64) w A1 l1.length l1) (hc1 : l1.length ≤ c1) (h : swarfref29_ready.f k l0 l1 a2 = some r) :
  Calls Try.prog 41 #[.slice A0 l0.length c0, .slice A1 l1.length c1, .int .i64 a2] w fun e w' => e = .returned (.bool r) ∧ Drawn0 w w' := by
 have HR0 := Aside0.mk hr0
 have HC0 := Aside0.mk hc0
 clear hr0 hc0
 have HR1 := Aside0.mk hr1
 have HC1 := Aside0.mk hc1
 clear hr1 hc1
 have H : (swarfref29_ready.l0 k l0 l1 a2 0) = some r := h
 clear h
 have H' := Aside0.mk H
 clear H
 go_enter Try.func41, Try.ntmps41
 go_wp2
 go_loopg [7] k (fun kq v7 w' => ∃ (x7_1 : Int), v7 = .int .i64 x7_1 ∧ Aside0 (swarfref29_ready.l0 kq l0 l1 a2 x7_1 = some r) ∧ Aside0 (kq ≤ k) ∧ Drawn0 w w')
 case atStart => exact ⟨(0), (by first | rfl | (simp; done) | (simp [*]; done)), H', ⟨Nat.le_refl _⟩, by repeat (first | exact Drawn0.refl _ | apply Drawn0.step)⟩
 case round =>
  clear H'; try clear c1; try clear p2
  obtain ⟨x7_1, rfl, HA, HK1, ⟨m1, rfl⟩⟩ := hrel
  cases gk with
  | zero => exact absurd HA.out (by simp [swarfref29_ready.l0])
  | succ k1 =>
   have H := HA.out
   clear HA
   simp only [swarfref29_ready.l0] at H
   by_cases c4 : x7_1 < (l0.length : Int)
   ·rw [if_pos c4] at H
    have c4b0 : decide (x7_1 < (l0.length : Int)) = true := decide_eq_true c4
    clear c4
    by_cases c5 : 0 ≤ x7_1
    ·rw [if_pos c5] at H
     have c5b0 : decide (0 ≤ x7_1) = true := decide_eq_true c5
     clear c5
     by_cases c6 : ((rd_T47 l0 x7_1).f1) = a2
     ·rw [if_pos c6] at H
      have c6b0 : (((rd_T47 l0 x7_1).f1) == a2) = true := beq_iff_eq.mpr c6
      have c6b1 : (((rd_T47 l0 x7_1).f1) != a2) = false := bne_eq_false_iff_eq.mpr c6
      clear c6; replace H := Option.bind_eq_some_iff.mp H
      obtain ⟨t241, A70, H⟩ := H
      replace H : (if t241 = true then (swarfref29_ready.l0 k1 l0 l1 a2 (wrap64 (x7_1 + 1))) else (some false)) = some r := H
      have A7 := Aside0.mk A70; clear A70
      by_cases c8 : t241 = true
      ·subst c8
       have H1 : (swarfref29_ready.l0 k1 l0 l1 a2 (wrap64 (x7_1 + 1))) = some r := by rw [if_pos rfl] at H; exact H
       clear H; have H := H1; clear H1; have H' := Aside0.mk H; clear H
       have p239 : 0 ≤ (x7_1 : Int) := of_decide_eq_true (by first | (with_reducible assumption) | assumption)
       have q239 : x7_1 < (l0.length : Int) := of_decide_eq_true (by first | (with_reducible assumption) | assumption)
       obtain ⟨ad239, e239, hx239_0, hx239_1⟩ := at_T47 HR0.out x7_1 p239 q239
       cases e239; replace p239 := eq_true p239; replace q239 := eq_true q239
       have p240 : 0 ≤ (x7_1 : Int) := of_decide_eq_true (by first | (with_reducible assumption) | assumption)
       have q240 : x7_1 < (l0.length : Int) := of_decide_eq_true (by first | (with_reducible assumption) | assumption)
       obtain ⟨ad240, e240, hx240_0, hx240_1⟩ := at_T47 HR0.out x7_1 p240 q240
       obtain rfl : ad239 = ad240 := (by injection e240)
       replace p240 := eq_true p240; replace q240 := eq_true q240
       go_wp2_with (first | (go_at_call 40; (with_reducible refine (swarfref29_in.calls k1 _ _ l1 ((rd_T47 l0 x7_1).f0) true _ ?side1 ?side2 A7.out).mono ?_); (case side1 => repeat (first | exact HR1.out | (with_reducible refine Kd.C_alloc ?_ _) | (with_reducible refine Kd.C_drewN ?_ _) | (with_reducible refine Kd.C_drew ?_))); (case side2 => exact HC1.out); rintro e w' ⟨rfl, ⟨nd, rfl⟩⟩))
       go_roundg k1
       case measure => have := HK1.out; omega
       case rel => exact ⟨(wrap64 (x7_1 + 1)), (by first | rfl | (simp; done) | (simp [*]; done)), H', ⟨by have := HK1.out; omega⟩, by repeat (first | exact Drawn0.refl _ | apply Drawn0.step)⟩
      ·replace c8 := Bool.eq_false_iff.mpr c8
       subst c8
       have H1 : (some false) = some r := by rw [if_neg (show ¬ (false = true) by decide)] at H; exact H
       clear H; have H := H1; clear H1; obtain rfl := Option.some.inj H
       have p239 : 0 ≤ (x7_1 : Int) := of_decide_eq_true (by first | (with_reducible assumption) | assumption)
       have q239 : x7_1 < (l0.length : Int) := of_decide_eq_true (by first | (with_reducible assumption) | assumption)
       obtain ⟨ad239, e239, hx239_0, hx239_1⟩ := at_T47 HR0.out x7_1 p239 q239
       cases e239; replace p239 := eq_true p239; replace q239 := eq_true q239
       have p240 : 0 ≤ (x7_1 : Int) := of_decide_eq_true (by first | (with_reducible assumption) | assumption)
       have q240 : x7_1 < (l0.length : Int) := of_decide_eq_true (by first | (with_reducible assumption) | assumption)
       obtain ⟨ad240, e240, hx240_0, hx240_1⟩ := at_T47 HR0.out x7_1 p240 q240
       obtain rfl : ad239 = ad240 := (by injection e240)
       replace p240 := eq_true p240; replace q240 := eq_true q240
       go_wp2_with (first | (go_at_call 40; (with_reducible refine (swarfref29_in.calls k1 _ _ l1 ((rd_T47 l0 x7_1).f0) false _ ?side1 ?side2 A7.out).mono ?_); (case side1 => repeat (first | exact HR1.out | (with_reducible refine Kd.C_alloc ?_ _) | (with_reducible refine Kd.C_drewN ?_ _) | (with_reducible refine Kd.C_drew ?_))); (case side2 => exact HC1.out); rintro e w' ⟨rfl, ⟨nd, rfl⟩⟩))
       go_ret
       exact ⟨by first | rfl | (simp; done) | (simp [*]; done), by repeat (first | exact Drawn0.refl _ | apply Drawn0.step)⟩
     ·rw [if_neg c6] at H
      have c6b0 : (((rd_T47 l0 x7_1).f1) == a2) = false := beq_eq_false_iff_ne.mpr c6
      have c6b1 : (((rd_T47 l0 x7_1).f1) != a2) = true := bne_iff_ne.mpr c6
      have H' := Aside0.mk H; clear H
      have p239 : 0 ≤ (x7_1 : Int) := of_decide_eq_true (by first | (with_reducible assumption) | assumption)
      have q239 : x7_1 < (l0.length : Int) := of_decide_eq_true (by first | (with_reducible assumption) | assumption)
      obtain ⟨ad239, e239, hx239_0, hx239_1⟩ := at_T47 HR0.out x7_1 p239 q239
      cases e239; replace p239 := eq_true p239; replace q239 := eq_true q239; go_wp2
      go_roundg k1
      case measure => have := HK1.out; omega
      case rel => exact ⟨(wrap64 (x7_1 + 1)), (by first | rfl | (simp; done) | (simp [*]; done)), H', ⟨by have := HK1.out; omega⟩, by repeat (first | exact Drawn0.refl _ | apply Drawn0.step)⟩
    ·rw [if_neg c5] at H
     exact absurd H (by simp)
   ·rw [if_neg c4] at H
    have c4b0 : decide (x7_1 < (l0.length : Int)) = false := decide_eq_false c4
    clear c4; obtain rfl := Option.some.inj H; go_wp2; go_ret
    exact ⟨by first | rfl | (simp; done) | (simp [*]; done), by repeat (first | exact Drawn0.refl _ | apply Drawn0.step)⟩

end Go.Proofs.Ytbbkclcfmcjlgaa.P

/- What the printed functions of relations come to: errors, lists of numbers and pairs, changes. Plain numbers and lists. -/

namespace Go.Proofs.Ytbbkclcfmcjlgaa.B
open Go.RowKit Go.Proofs.Ytbbkclcfmcjlgaa.P Go.Proofs.YtbbkclcfmcjlgaaW.PrintWords Go.Proofs.YtbbkclcfmcjlgaaW.PrintLast Go.Proofs.YtbbkclcfmcjlgaaW.PrintMore
set_option linter.unusedVariables false
set_option linter.unusedSimpArgs false

theorem wrap_mid (x : Int) (h0 : -4000000000000000 ≤ x) (h1 : x ≤ 4000000000000000) : wrap64 x = x := by unfold wrap64; omega
theorem wrap_succ (x : Int) (h0 : 0 ≤ x) (h1 : x ≤ 1000000000000000) : wrap64 (x + 1) = x + 1 := wrap_mid _ (by omega) (by omega)
theorem ev_end {α : Type} {g : Nat → Option α} {r : α} (h : ∀ k, g (k + 1) = some r) : Ev g r := Ev.step (f := fun _ => some r) h (Ev.now r)
def EvP {α : Type} (g : Nat → Option α) (Post : α → Prop) : Prop := ∃ r, Ev g r ∧ Post r
theorem EvP.step {α : Type} {g f : Nat → Option α} {Post : α → Prop} (h : ∀ k, g (k + 1) = f k) (k : EvP f Post) : EvP g Post := by
  obtain ⟨r, h1, h2⟩ := k
  exact ⟨r, Ev.step h h1, h2⟩
theorem EvP.stop {α : Type} {g : Nat → Option α} {Post : α → Prop} (r : α) (h : ∀ k, g (k + 1) = some r) (hp : Post r) : EvP g Post := ⟨r, ev_end h, hp⟩
theorem EvP.bind {α β : Type} {g : Nat → Option α} {f : Nat → α → Option β} {a : α} {Post : β → Prop} (h : Ev g a) (k : EvP (fun n => f n a) Post) : EvP (fun n => (g n).bind (f n)) Post := by
  obtain ⟨r, h1, h2⟩ := k
  exact ⟨r, Ev.bind h h1, h2⟩
theorem EvP.bindP {α β : Type} {g : Nat → Option α} {f : Nat → α → Option β} {P1 : α → Prop} {Post : β → Prop} (h : EvP g P1) (k : ∀ a, P1 a → EvP (fun n => f n a) Post) : EvP (fun n => (g n).bind (f n)) Post := by
  obtain ⟨a, h1, h2⟩ := h
  exact EvP.bind h1 (k a h2)
theorem EvP.mono {α : Type} {g : Nat → Option α} {P Q : α → Prop} (h : EvP g P) (hq : ∀ a, P a → Q a) : EvP g Q := by
  obtain ⟨r, h1, h2⟩ := h
  exact ⟨r, h1, hq _ h2⟩
theorem EvP.same {α : Type} {g f : Nat → Option α} {Post : α → Prop} (h : ∀ k, g k = f k) (k : EvP f Post) : EvP g Post := by
  have : g = f := funext h
  rw [this]; exact k

/-! ### Lists read at places -/
theorem drop_T47 (l : List S47) (j : Int) (h0 : 0 ≤ j) (h : j < (l.length : Int)) : l.drop j.toNat = rd_T47 l j :: l.drop (j + 1).toNat := by
  have h1 : j.toNat < l.length := by omega
  rw [List.drop_eq_getElem_cons h1, show (j + 1).toNat = j.toNat + 1 by omega]
  congr 1
  unfold rd_T47
  simp [List.getD, h1]
theorem drop_rd (l : List Int) (j : Int) (h0 : 0 ≤ j) (h : j < (l.length : Int)) : l.drop j.toNat = rd l j :: l.drop (j + 1).toNat := by
  have h1 : j.toNat < l.length := by omega
  rw [List.drop_eq_getElem_cons h1, show (j + 1).toNat = j.toNat + 1 by omega]
  congr 1
  unfold rd
  simp [List.getD, h1]
theorem drop_end {α : Type} (l : List α) (j : Int) (h : (l.length : Int) ≤ j) : l.drop j.toNat = [] := List.drop_eq_nil_of_le (by omega)

/-! ### The error of a relation -/
def okp (n : Int) (p : S47) : Bool := decide (p.f0 ≠ p.f1) && (decide (0 ≤ p.f0) && decide (p.f0 < n)) && (decide (0 ≤ p.f1) && decide (p.f1 < n))
theorem okp_iff (n : Int) (p : S47) : okp n p = true ↔ p.f0 ≠ p.f1 ∧ (0 ≤ p.f0 ∧ p.f0 < n) ∧ (0 ≤ p.f1 ∧ p.f1 < n) := by simp [okp, and_assoc]
def vErr (n : Int) (l : List S47) : Int := if n > 200 ∨ (l.length : Int) > 2000 then 3 else if n < 0 then 1 else if l.all (okp n) = true then 0 else 1
theorem vErr_zero {n : Int} {l : List S47} (h : vErr n l = 0) : 0 ≤ n ∧ n ≤ 200 ∧ l.length ≤ 2000 ∧ ∀ p ∈ l, okp n p = true := by
  unfold vErr at h
  split at h
  · cases h
  · split at h
    · cases h
    · split at h
      · rename_i h1 h2 h3
        refine ⟨by omega, by omega, by omega, ?_⟩
        rw [List.all_eq_true] at h3
        exact h3
      · cases h
theorem valid_l0 (n : Int) (l : List S47) (hn : l.length ≤ 100000000000000) (d : Nat) : ∀ j : Int, 0 ≤ j → j + d = l.length → Ev (fun k => precedence_Valid.l0 k n l (l.length : Int) j) (if (l.drop j.toNat).all (okp n) = true then 0 else 1) := by
  induction d with
  | zero =>
    intro j h0 hj
    rw [drop_end l j (by omega)]
    exact ev_end (fun k => by simp only [precedence_Valid.l0]; rw [if_neg (by omega)]; rfl)
  | succ d ih =>
    intro j h0 hj
    have hw := wrap_succ j h0 (by omega)
    rw [drop_T47 l j h0 (by omega)]
    generalize hp : rd_T47 l j = p
    by_cases ho : okp n p = true
    · have hi := ih (j + 1) (by omega) (by omega)
      rw [List.all_cons, ho, Bool.true_and]
      refine Ev.step (fun k => ?_) hi
      rw [okp_iff] at ho
      simp only [precedence_Valid.l0]
      rw [if_pos (by omega), if_pos (by omega), if_pos (by omega), hp, if_neg ho.1, if_neg (by unfold mn; split <;> omega), if_neg (by unfold mx; split <;> omega), hw]
    · rw [List.all_cons, show okp n p = false by simpa using ho, Bool.false_and]
      refine ev_end (fun k => ?_)
      rw [okp_iff] at ho
      simp only [precedence_Valid.l0]
      rw [if_pos (by omega), if_pos (by omega), if_pos (by omega), hp]
      by_cases h1 : p.f0 = p.f1
      · rw [if_pos h1]; rfl
      · rw [if_neg h1]
        by_cases h2 : mn p.f0 p.f1 < 0
        · rw [if_pos h2]; rfl
        · rw [if_neg h2, if_pos (by unfold mn at h2; unfold mx; split at h2 <;> split <;> omega)]; rfl
theorem rvalid_l0 (n : Int) (l : List S47) (hn : l.length ≤ 100000000000000) (d : Nat) : ∀ j : Int, 0 ≤ j → j + d = l.length → Ev (fun k => swarfref29_Valid.l0 k n l j) (if (l.drop j.toNat).all (okp n) = true then 0 else 1) := by
  induction d with
  | zero =>
    intro j h0 hj
    rw [drop_end l j (by omega)]
    exact ev_end (fun k => by simp only [swarfref29_Valid.l0]; rw [if_neg (by omega)]; rfl)
  | succ d ih =>
    intro j h0 hj
    have hw := wrap_succ j h0 (by omega)
    rw [drop_T47 l j h0 (by omega)]
    generalize hp : rd_T47 l j = p
    by_cases ho : okp n p = true
    · have hi := ih (j + 1) (by omega) (by omega)
      rw [List.all_cons, ho, Bool.true_and]
      refine Ev.step (fun k => ?_) hi
      rw [okp_iff] at ho
      simp only [swarfref29_Valid.l0]
      rw [if_pos (by omega), if_pos (by omega), hp, if_neg (by omega), if_neg (by omega), if_neg (by omega), if_neg (by omega), if_neg ho.1, hw]
    · rw [List.all_cons, show okp n p = false by simpa using ho, Bool.false_and]
      refine ev_end (fun k => ?_)
      rw [okp_iff] at ho
      simp only [swarfref29_Valid.l0]
      rw [if_pos (by omega), if_pos (by omega), hp]
      by_cases h1 : p.f0 < 0
      · rw [if_pos h1]; rfl
      · rw [if_neg h1]
        by_cases h2 : p.f0 ≥ n
        · rw [if_pos h2]; rfl
        · rw [if_neg h2]
          by_cases h3 : p.f1 < 0
          · rw [if_pos h3]; rfl
          · rw [if_neg h3]
            by_cases h4 : p.f1 ≥ n
            · rw [if_pos h4]; rfl
            · rw [if_neg h4, if_pos (by omega)]; rfl
theorem valid_ev (n : Int) (l : List S47) (hn : l.length ≤ 100000000000000) : Ev (fun k => precedence_Valid.f k n l) (vErr n l) := by
  have h := valid_l0 n l hn l.length 0 (by omega) (by omega)
  rw [show (0 : Int).toNat = 0 from rfl, List.drop_zero] at h
  unfold precedence_Valid.f vErr
  by_cases c : n > 200
  · simp only [if_pos c, if_pos (show n > 200 ∨ (l.length : Int) > 2000 from .inl c)]
    exact ev_end (fun k => by simp [precedence_Valid.j0])
  · simp only [if_neg c]
    by_cases c2 : (l.length : Int) > 2000
    · simp only [if_pos (show n > 200 ∨ (l.length : Int) > 2000 from .inr c2), decide_eq_true c2]
      exact ev_end (fun k => by simp [precedence_Valid.j0])
    · simp only [if_neg (show ¬ (n > 200 ∨ (l.length : Int) > 2000) by omega), decide_eq_false c2]
      by_cases c3 : n < 0
      · simp only [if_pos c3]
        exact ev_end (fun k => by simp [precedence_Valid.j0, c3])
      · simp only [if_neg c3]
        refine Ev.step (fun k => ?_) h
        simp only [precedence_Valid.j0]
        rw [if_neg (by decide), if_neg c3]
theorem rvalid_ev (n : Int) (l : List S47) (hn : l.length ≤ 100000000000000) : Ev (fun k => swarfref29_Valid.f k n l) (vErr n l) := by
  have h := rvalid_l0 n l hn l.length 0 (by omega) (by omega)
  rw [show (0 : Int).toNat = 0 from rfl, List.drop_zero] at h
  unfold swarfref29_Valid.f vErr
  by_cases c : n > 200
  · simp only [if_pos c, if_pos (show n > 200 ∨ (l.length : Int) > 2000 from .inl c)]
    exact ev_end (fun k => by simp [swarfref29_Valid.j0])
  · simp only [if_neg c]
    by_cases c2 : (l.length : Int) > 2000
    · simp only [if_pos (show n > 200 ∨ (l.length : Int) > 2000 from .inr c2), decide_eq_true c2]
      exact ev_end (fun k => by simp [swarfref29_Valid.j0])
    · simp only [if_neg (show ¬ (n > 200 ∨ (l.length : Int) > 2000) by omega), decide_eq_false c2]
      by_cases c3 : n < 0
      · simp only [if_pos c3]
        exact ev_end (fun k => by simp [swarfref29_Valid.j0, c3])
      · simp only [if_neg c3]
        refine Ev.step (fun k => ?_) h
        simp only [swarfref29_Valid.j0]
        rw [if_neg (by decide), if_neg c3]
def fewB (n m : Int) (l : List S47) : Bool := if (l.length : Int) ≤ 60 then (if n ≤ m then true else (vErr n l != 0)) else false
theorem few_ev (n m : Int) (l : List S47) : Ev (fun k => swarflaw29_few.f k n m l) (fewB n m l) := by
  unfold swarflaw29_few.f fewB
  by_cases c : (l.length : Int) ≤ 60
  · simp only [if_pos c]
    by_cases c2 : n ≤ m
    · simp only [if_pos c2]; exact Ev.now _
    · simp only [if_neg c2]
      exact Ev.bind (rvalid_ev n l (by omega)) (Ev.now _)
  · simp only [if_neg c]; exact Ev.now _
theorem cp_eq (l : List S47) (hn : l.length < 8796093022208) : swarflaw29_cp.f l = some l := by
  unfold swarflaw29_cp.f
  simp only [Option.bind_some]
  rw [if_pos (by simpa using hn)]
  rfl

/-! ### Equal lists -/
theorem S47.eta (p q : S47) : p = q ↔ p.f0 = q.f0 ∧ p.f1 = q.f1 := by
  constructor
  · rintro rfl; exact ⟨rfl, rfl⟩
  · cases p; cases q; rintro ⟨rfl, rfl⟩; rfl
instance : DecidableEq S47 := fun p q => if h : p.f0 = q.f0 ∧ p.f1 = q.f1 then isTrue ((S47.eta p q).2 h) else isFalse (fun e => h ((S47.eta p q).1 e))
/-! ### Is it in the list? -/
theorem in_l0 (o : List Int) (hl : o.length ≤ 100000000000000) (x : Int) (d : Nat) : ∀ j : Int, 0 ≤ j → j + d = o.length → Ev (fun k => swarfref29_in.l0 k o x j) (decide (x ∈ o.drop j.toNat)) := by
  induction d with
  | zero =>
    intro j h0 hj
    rw [drop_end o j (by omega)]
    exact ev_end (fun k => by simp only [swarfref29_in.l0]; rw [if_neg (by omega)]; simp)
  | succ d ih =>
    intro j h0 hj
    have hw := wrap_succ j h0 (by omega)
    rw [drop_rd o j h0 (by omega)]
    generalize hy : rd o j = y
    by_cases h : y = x
    · rw [show decide (x ∈ y :: o.drop (j + 1).toNat) = true by simp [h]]
      exact ev_end (fun k => by simp only [swarfref29_in.l0]; rw [if_pos (by omega), if_pos (by omega), hy, if_pos h])
    · rw [show decide (x ∈ y :: o.drop (j + 1).toNat) = decide (x ∈ o.drop (j + 1).toNat) by simp [Ne.symm h]]
      refine Ev.step (fun k => ?_) (ih (j + 1) (by omega) (by omega))
      simp only [swarfref29_in.l0]
      rw [if_pos (by omega), if_pos (by omega), hy, if_neg h, hw]
theorem in_ev (o : List Int) (hl : o.length ≤ 100000000000000) (x : Int) : Ev (fun k => swarfref29_in.f k o x) (decide (x ∈ o)) := by
  unfold swarfref29_in.f
  exact in_l0 o hl x o.length 0 (by omega) (by omega)
theorem has_l0 (l : List S47) (hl : l.length ≤ 100000000000000) (a b : Int) (d : Nat) : ∀ j : Int, 0 ≤ j → j + d = l.length → Ev (fun k => swarfref29_Has.l0 k l a b j) (decide ((⟨a, b⟩ : S47) ∈ l.drop j.toNat)) := by
  induction d with
  | zero =>
    intro j h0 hj
    rw [drop_end l j (by omega)]
    exact ev_end (fun k => by simp only [swarfref29_Has.l0]; rw [if_neg (by omega)]; simp)
  | succ d ih =>
    intro j h0 hj
    have hw := wrap_succ j h0 (by omega)
    rw [drop_T47 l j h0 (by omega)]
    generalize hy : rd_T47 l j = y
    have hi := ih (j + 1) (by omega) (by omega)
    by_cases h : y.f0 = a
    · by_cases h2 : y.f1 = b
      · have e : y = ⟨a, b⟩ := (S47.eta _ _).2 ⟨h, h2⟩
        rw [show decide ((⟨a, b⟩ : S47) ∈ y :: l.drop (j + 1).toNat) = true by simp [e]]
        exact ev_end (fun k => by simp only [swarfref29_Has.l0]; rw [if_pos (by omega), if_pos (by omega), hy, if_pos h, if_pos h2])
      · have e : ¬ (⟨a, b⟩ : S47) = y := fun e => h2 (by rw [← e])
        rw [show decide ((⟨a, b⟩ : S47) ∈ y :: l.drop (j + 1).toNat) = decide ((⟨a, b⟩ : S47) ∈ l.drop (j + 1).toNat) by simp [e]]
        refine Ev.step (fun k => ?_) hi
        simp only [swarfref29_Has.l0]
        rw [if_pos (by omega), if_pos (by omega), hy, if_pos h, if_neg h2, hw]
    · have e : ¬ (⟨a, b⟩ : S47) = y := fun e => h (by rw [← e])
      rw [show decide ((⟨a, b⟩ : S47) ∈ y :: l.drop (j + 1).toNat) = decide ((⟨a, b⟩ : S47) ∈ l.drop (j + 1).toNat) by simp [e]]
      refine Ev.step (fun k => ?_) hi
      simp only [swarfref29_Has.l0]
      rw [if_pos (by omega), if_pos (by omega), hy, if_neg h, hw]
theorem has_ev (l : List S47) (hl : l.length ≤ 100000000000000) (a b : Int) : Ev (fun k => swarfref29_Has.f k l a b) (decide ((⟨a, b⟩ : S47) ∈ l)) := by
  unfold swarfref29_Has.f
  exact has_l0 l hl a b l.length 0 (by omega) (by omega)
/-- All numbers that must come before x are in o. -/
def rdy (l : List S47) (o : List Int) (x : Int) : Bool := l.all fun p => decide (p.f1 = x → p.f0 ∈ o)
theorem rdy_iff (l : List S47) (o : List Int) (x : Int) : rdy l o x = true ↔ ∀ a, (⟨a, x⟩ : S47) ∈ l → a ∈ o := by
  unfold rdy
  rw [List.all_eq_true]
  constructor
  · intro h a ha
    have := h _ ha
    simpa using this
  · intro h p hp
    rw [decide_eq_true_iff]
    intro e
    exact h p.f0 (by rw [← e]; exact hp)
end Go.Proofs.Ytbbkclcfmcjlgaa.B

/- Chains, cycles and orders of relations over whole numbers. Plain numbers and lists. -/
namespace Go.Proofs.Ytbbkclcfmcjlgaa.Gr
set_option linter.unusedVariables false

/-! ### Chains -/
inductive Tc (R : Int → Int → Prop) : Int → Int → Prop
  | one {a b : Int} : R a b → Tc R a b
  | step {a c b : Int} : R a c → Tc R c b → Tc R a b
section
variable {R R' : Int → Int → Prop} {n a b c : Int}
theorem Tc.trans (h : Tc R a b) : Tc R b c → Tc R a c := by
  induction h with
  | one h => exact fun k => .step h k
  | step h _ ih => exact fun k => .step h (ih k)
theorem Tc.mono (hr : ∀ a b, R a b → R' a b) (h : Tc R a b) : Tc R' a b := by
  induction h with
  | one h => exact .one (hr _ _ h)
  | step h _ ih => exact .step (hr _ _ h) ih
/-- All numbers of the relation lie between 0 and n. -/
def Inn (R : Int → Int → Prop) (n : Int) : Prop := ∀ a b, R a b → (0 ≤ a ∧ a < n) ∧ (0 ≤ b ∧ b < n)
theorem Tc.inn (hr : Inn R n) (h : Tc R a b) : (0 ≤ a ∧ a < n) ∧ (0 ≤ b ∧ b < n) := by
  induction h with
  | one h => exact hr _ _ h
  | step h _ ih => exact ⟨(hr _ _ h).1, ih.2⟩
theorem Tc.head (h : Tc R a b) : ∃ c, R a c ∧ (c = b ∨ Tc R c b) := by
  cases h with
  | one h => exact ⟨_, h, .inl rfl⟩
  | step h k => exact ⟨_, h, .inr k⟩
/-! ### Chains whose inner numbers lie below k -/
inductive Pk (R : Int → Int → Prop) (k : Int) : Int → Int → Prop
  | one {a b : Int} : R a b → Pk R k a b
  | step {a c b : Int} : R a c → c < k → Pk R k c b → Pk R k a b
variable {k : Int}
theorem Pk.tc (h : Pk R k a b) : Tc R a b := by
  induction h with
  | one h => exact .one h
  | step h _ _ ih => exact .step h ih
theorem Pk.mono {k' : Int} (hk : k ≤ k') (h : Pk R k a b) : Pk R k' a b := by
  induction h with
  | one h => exact .one h
  | step h hc _ ih => exact .step h (by omega) ih
theorem Pk.of_tc (hr : Inn R n) (h : Tc R a b) : Pk R n a b := by
  induction h with
  | one h => exact .one h
  | step h _ ih => exact .step h (hr _ _ h).2.2 ih
theorem Pk.split (h : Pk R (k + 1) a b) : Pk R k a b ∨ (Pk R k a k ∧ Pk R k k b) := by
  induction h with
  | one h => exact .inl (.one h)
  | @step a c b h hc _ ih =>
    by_cases e : c = k
    · subst e
      rcases ih with ih | ih
      · exact .inr ⟨.one h, ih⟩
      · exact .inr ⟨.one h, ih.2⟩
    · have hc' : c < k := by omega
      rcases ih with ih | ih
      · exact .inl (.step h hc' ih)
      · exact .inr ⟨.step h hc' ih.1, ih.2⟩
theorem Pk.zero (hr : Inn R n) (h : Pk R 0 a b) : R a b := by
  cases h with
  | one h => exact h
  | step h hc _ => have := (hr _ _ h).2.1; omega
end

/-! ### Numbers below n -/
theorem pig (n : Nat) : ∀ o : List Int, o.Nodup → (∀ x ∈ o, 0 ≤ x ∧ x < (n : Int)) → o.length ≤ n := by
  induction n with
  | zero =>
    intro o _ h
    cases o with
    | nil => exact Nat.le_refl _
    | cons x o => have := h x List.mem_cons_self; omega
  | succ n ih =>
    intro o hd h
    by_cases hm : (n : Int) ∈ o
    · have h1 := ih (o.erase (n : Int)) (hd.erase _) (fun x hx => by
        have h2 := (hd.mem_erase_iff).1 hx
        have h3 := h x h2.2
        have : x ≠ (n : Int) := h2.1
        omega)
      rw [List.length_erase_of_mem hm] at h1
      omega
    · have h1 := ih o hd (fun x hx => by
        have h3 := h x hx
        have : x ≠ (n : Int) := fun e => hm (e ▸ hx)
        omega)
      omega
theorem full_in {n : Int} {o : List Int} (hd : o.Nodup) (h : ∀ x ∈ o, 0 ≤ x ∧ x < n) (hl : (o.length : Int) = n) (i : Int) (h0 : 0 ≤ i) (hi : i < n) : i ∈ o := by
  by_cases hm : i ∈ o
  · exact hm
  · have := pig n.toNat (i :: o) (List.nodup_cons.2 ⟨hm, hd⟩) (fun x hx => by
      rcases List.mem_cons.1 hx with rfl | hx
      · omega
      · have := h x hx; omega)
    simp only [List.length_cons] at this
    omega

/-! ### Orders -/
def Acyc (R : Int → Int → Prop) : Prop := ∀ a, ¬ Tc R a a
/-- Whatever must come before a number of o stands before it in o. -/
def Topo (R : Int → Int → Prop) (o : List Int) : Prop := ∀ (i : Nat) (x : Int), o[i]? = some x → ∀ j, R j x → j ∈ o.take i
theorem Topo.tc {R : Int → Int → Prop} {o : List Int} (ht : Topo R o) {a b : Int} (h : Tc R a b) : ∀ i : Nat, o[i]? = some b → a ∈ o.take i := by
  induction h with
  | one h => exact fun i hi => ht i _ hi _ h
  | @step a c b h _ ih =>
    intro i hi
    have hc := ih i hi
    obtain ⟨j, hj⟩ := List.getElem?_of_mem hc
    have hji : j < i := by
      rw [List.getElem?_take] at hj
      split at hj
      · assumption
      · cases hj
    have hj' : o[j]? = some c := by
      rw [List.getElem?_take, if_pos hji] at hj
      exact hj
    have := ht j c hj' a h
    exact (List.take_subset_take_left o (by omega)) this
/-! ### The least relation with the same chains -/
end Go.Proofs.Ytbbkclcfmcjlgaa.Gr

-- PRINTED by print.py (a twelfth state) out of the translation. Not trusted: Lean checks it.

namespace Go.Proofs.Ytbbkclcfmcjlgaa.P
open Go.RowKit Go.Proofs.YtbbkclcfmcjlgaaW.PrintWords Go.Proofs.YtbbkclcfmcjlgaaW.PrintLast Go.Proofs.YtbbkclcfmcjlgaaW.PrintMore
attribute [local go_sem] max2_int min2_int max_two min_two max_three min_three max_four min_four   -- for this text's walks alone
set_option linter.unusedVariables false
set_option linter.unusedSimpArgs false

/-! ### swarfref29_fault: function 47 -/
def swarfref29_fault.f (k : Nat) (a0 : Int) (l1 : List (S47)) : Option (Int) := (swarfref29_Valid.f k a0 l1).bind fun t325 => (if t325 = 0 then ((swarfref29_Cyclic.f k a0 l1).bind fun t326 => (if t326 = true then (some 12) else (some 0))) else (some t325))
theorem swarfref29_fault.mono : ∀ a0 a1 k, LeO (swarfref29_fault.f k a0 a1) (swarfref29_fault.f (k + 1) a0 a1) := by
 intro a0 a1 k
 unfold swarfref29_fault.f
 repeat' first
   | (with_reducible exact swarfref29_Cyclic.mono _ _ _)
   | (with_reducible exact swarfref29_Valid.mono _ _ _)
   | (with_reducible exact LeO.refl _)
   | (with_reducible exact LeO.none _)
   | (with_reducible refine LeO.ite ?_ ?_)
   | (with_reducible refine LeO.bind ?_ (fun _ => ?_))
   | exact swarfref29_Cyclic.mono _ _ _
   | exact swarfref29_Valid.mono _ _ _
   | exact LeO.none _
   | refine LeO.ite ?_ ?_
   | refine LeO.bind ?_ (fun _ => ?_)
set_option maxHeartbeats 8000000 in
set_option maxRecDepth 100000 in
theorem swarfref29_fault.calls (k : Nat) (a0 : Int) (A1 : Option Addr) (c1 : Nat) (l1 : List (S47)) (r : Int) (w : World) (hr1 : Kd.C k47 w A1 l1.length l1) (hc1 : l1.length ≤ c1) (h : swarfref29_fault.f k a0 l1 = some r) :
  Calls Try.prog 47 #[.int .i64 a0, .slice A1 l1.length c1] w fun e w' => e = .returned (.int .i64 r) ∧ Below w.heap.size w w' := by
 have HR1 := Aside0.mk hr1
 have HC1 := Aside0.mk hc1
 clear hr1 hc1
 have HB := Aside0.mk (Below.refl w.heap.size w)
 have H : ((swarfref29_Valid.f k a0 l1).bind fun t325 => (if t325 = 0 then ((swarfref29_Cyclic.f k a0 l1).bind fun t326 => (if t326 = true then (some 12) else (some 0))) else (some t325))) = some r := h
 clear h
 replace H := Option.bind_eq_some_iff.mp H
 obtain ⟨t325, A30, H⟩ := H
 replace H : (if t325 = 0 then ((swarfref29_Cyclic.f k a0 l1).bind fun t326 => (if t326 = true then (some 12) else (some 0))) else (some t325)) = some r := H
 have A3 := Aside0.mk A30
 clear A30
 by_cases c4 : t325 = 0
 ·rw [if_pos c4] at H
  have c4b0 : (t325 == 0) = true := beq_iff_eq.mpr c4
  have c4b1 : (t325 != 0) = false := bne_eq_false_iff_eq.mpr c4
  clear c4; replace H := Option.bind_eq_some_iff.mp H
  obtain ⟨t326, A50, H⟩ := H
  replace H : (if t326 = true then (some 12) else (some 0)) = some r := H
  have A5 := Aside0.mk A50; clear A50
  by_cases c6 : t326 = true
  ·subst c6
   have H1 : (some 12) = some r := by rw [if_pos rfl] at H; exact H
   clear H; have H := H1; clear H1; obtain rfl := Option.some.inj H
   go_enter Try.func47, Try.ntmps47
   go_wp2_with (first | ((with_reducible refine gate_callee (f := 21) rfl ?_); refine goesL_ (some 8) rfl rfl Try.func21 (by kernel_rfl) rfl #[.int .i64 a0, .slice A1 l1.length c1] rfl (by (try simp only [List.map_toArray, List.map_cons, List.map_nil]); first | done | rfl | (simp only [List.length_drop, List.length_take]; rfl)) ?_; (with_reducible refine (swarfref29_Valid.calls k a0 _ _ l1 t325 _ ?side1 ?side2 A3.out).mono ?_); (case side1 => repeat (first | exact HR1.out | (with_reducible refine Kd.C_alloc ?_ _) | (with_reducible refine Kd.C_drewN ?_ _) | (with_reducible refine Kd.C_drew ?_))); (case side2 => exact HC1.out); rintro e w' ⟨rfl, ⟨nd, rfl⟩⟩; refine ⟨_, rfl, ?_⟩) | ((with_reducible refine gate_callee (f := 23) rfl ?_); refine goesL_ (some 14) rfl rfl Try.func23 (by kernel_rfl) rfl #[.int .i64 a0, .slice A1 l1.length c1] rfl (by (try simp only [List.map_toArray, List.map_cons, List.map_nil]); first | done | rfl | (simp only [List.length_drop, List.length_take]; rfl)) ?_; (with_reducible refine (swarfref29_Cyclic.calls k a0 _ _ l1 true _ ?side1 ?side2 A5.out).mono ?_); (case side1 => repeat (first | exact HR1.out | (with_reducible refine Kd.C_alloc ?_ _) | (with_reducible refine Kd.C_drewN ?_ _) | (with_reducible refine Kd.C_drew ?_))); (case side2 => exact HC1.out); rintro e w7 ⟨rfl, hb⟩; refine ⟨_, rfl, ?_⟩; have n0_ := Aside0.mk (below_step (by repeat (first | (with_reducible first | exact HB.out | apply below_alloc | apply pw_below_drewN | apply below_drew1) | exact HB.out)) hb); clear HB; have HB := n0_; clear n0_; (try clear hb); (try clear hb2); (try clear hk); (try clear hi)))
   go_ret
   exact ⟨by first | rfl | (simp [errW_none, errW_some] <;> rfl) | (simp [*, errW_none, errW_some] <;> rfl), by repeat (first | (with_reducible first | exact HB.out | apply below_alloc | apply pw_below_drewN | apply below_drew1) | exact HB.out)⟩
  ·replace c6 := Bool.eq_false_iff.mpr c6
   subst c6
   have H1 : (some 0) = some r := by rw [if_neg (show ¬ (false = true) by decide)] at H; exact H
   clear H; have H := H1; clear H1; obtain rfl := Option.some.inj H
   go_enter Try.func47, Try.ntmps47
   go_wp2_with (first | ((with_reducible refine gate_callee (f := 21) rfl ?_); refine goesL_ (some 8) rfl rfl Try.func21 (by kernel_rfl) rfl #[.int .i64 a0, .slice A1 l1.length c1] rfl (by (try simp only [List.map_toArray, List.map_cons, List.map_nil]); first | done | rfl | (simp only [List.length_drop, List.length_take]; rfl)) ?_; (with_reducible refine (swarfref29_Valid.calls k a0 _ _ l1 t325 _ ?side1 ?side2 A3.out).mono ?_); (case side1 => repeat (first | exact HR1.out | (with_reducible refine Kd.C_alloc ?_ _) | (with_reducible refine Kd.C_drewN ?_ _) | (with_reducible refine Kd.C_drew ?_))); (case side2 => exact HC1.out); rintro e w' ⟨rfl, ⟨nd, rfl⟩⟩; refine ⟨_, rfl, ?_⟩) | ((with_reducible refine gate_callee (f := 23) rfl ?_); refine goesL_ (some 14) rfl rfl Try.func23 (by kernel_rfl) rfl #[.int .i64 a0, .slice A1 l1.length c1] rfl (by (try simp only [List.map_toArray, List.map_cons, List.map_nil]); first | done | rfl | (simp only [List.length_drop, List.length_take]; rfl)) ?_; (with_reducible refine (swarfref29_Cyclic.calls k a0 _ _ l1 false _ ?side1 ?side2 A5.out).mono ?_); (case side1 => repeat (first | exact HR1.out | (with_reducible refine Kd.C_alloc ?_ _) | (with_reducible refine Kd.C_drewN ?_ _) | (with_reducible refine Kd.C_drew ?_))); (case side2 => exact HC1.out); rintro e w8 ⟨rfl, hb⟩; refine ⟨_, rfl, ?_⟩; have n0_ := Aside0.mk (below_step (by repeat (first | (with_reducible first | exact HB.out | apply below_alloc | apply pw_below_drewN | apply below_drew1) | exact HB.out)) hb); clear HB; have HB := n0_; clear n0_; (try clear hb); (try clear hb2); (try clear hk); (try clear hi)))
   go_ret
   exact ⟨by first | rfl | (simp [errW_none, errW_some] <;> rfl) | (simp [*, errW_none, errW_some] <;> rfl), by repeat (first | (with_reducible first | exact HB.out | apply below_alloc | apply pw_below_drewN | apply below_drew1) | exact HB.out)⟩
 ·rw [if_neg c4] at H
  have c4b0 : (t325 == 0) = false := beq_eq_false_iff_ne.mpr c4
  have c4b1 : (t325 != 0) = true := bne_iff_ne.mpr c4
  obtain rfl := Option.some.inj H
  go_enter Try.func47, Try.ntmps47
  go_wp2_with (first | ((with_reducible refine gate_callee (f := 21) rfl ?_); refine goesL_ (some 8) rfl rfl Try.func21 (by kernel_rfl) rfl #[.int .i64 a0, .slice A1 l1.length c1] rfl (by (try simp only [List.map_toArray, List.map_cons, List.map_nil]); first | done | rfl | (simp only [List.length_drop, List.length_take]; rfl)) ?_; (with_reducible refine (swarfref29_Valid.calls k a0 _ _ l1 t325 _ ?side1 ?side2 A3.out).mono ?_); (case side1 => repeat (first | exact HR1.out | (with_reducible refine Kd.C_alloc ?_ _) | (with_reducible refine Kd.C_drewN ?_ _) | (with_reducible refine Kd.C_drew ?_))); (case side2 => exact HC1.out); rintro e w' ⟨rfl, ⟨nd, rfl⟩⟩; refine ⟨_, rfl, ?_⟩))
  go_ret
  exact ⟨by first | rfl | (simp [errW_none, errW_some] <;> rfl) | (simp [*, errW_none, errW_some] <;> rfl), by repeat (first | (with_reducible first | exact HB.out | apply below_alloc | apply pw_below_drewN | apply below_drew1) | exact HB.out)⟩

end Go.Proofs.Ytbbkclcfmcjlgaa.P

/- What the reference's table of dependences comes to: chains. Plain numbers and lists. -/

namespace Go.Proofs.Ytbbkclcfmcjlgaa.B
open Go.RowKit Go.Proofs.Ytbbkclcfmcjlgaa.P Go.Proofs.Ytbbkclcfmcjlgaa.Gr Go.Proofs.YtbbkclcfmcjlgaaW.PrintWords Go.Proofs.YtbbkclcfmcjlgaaW.PrintLast Go.Proofs.YtbbkclcfmcjlgaaW.PrintMore
set_option linter.unusedVariables false
set_option linter.unusedSimpArgs false

def Rl (l : List S47) (a b : Int) : Prop := (⟨a, b⟩ : S47) ∈ l
theorem rl_inn {n : Int} {l : List S47} (h : ∀ p ∈ l, okp n p = true) : Inn (Rl l) n := fun a b hab => ((okp_iff _ _).1 (h _ hab)).2
theorem rl_ne {n : Int} {l : List S47} (h : ∀ p ∈ l, okp n p = true) {a b : Int} (hab : Rl l a b) : a ≠ b := ((okp_iff _ _).1 (h _ hab)).1

/-! ### Tables -/
def mt (m : List (List Bool)) (a b : Int) : Bool := rdOf false (rd_L7 m a) b
def st (m : List (List Bool)) (a b : Int) (v : Bool) : List (List Bool) := m.set a.toNat ((rd_L7 m a).set b.toNat v)
def Sq (n : Int) (m : List (List Bool)) : Prop := (m.length : Int) = n ∧ ∀ a, 0 ≤ a → a < n → ((rd_L7 m a).length : Int) = n
theorem rd_set_self (m : List (List Bool)) (a : Int) (y : List Bool) (h0 : 0 ≤ a) (h1 : a < (m.length : Int)) : rd_L7 (m.set a.toNat y) a = y := by
  unfold rd_L7
  rw [List.getD_eq_getElem?_getD, List.getElem?_set_self (by omega)]; rfl
theorem rd_set_ne (m : List (List Bool)) (a b : Int) (y : List Bool) (h0 : 0 ≤ a) (hb : 0 ≤ b) (h : b ≠ a) : rd_L7 (m.set a.toNat y) b = rd_L7 m b := by
  unfold rd_L7
  rw [List.getD_eq_getElem?_getD, List.getElem?_set_ne (by omega), List.getD_eq_getElem?_getD]
theorem of_set_self (r : List Bool) (b : Int) (v : Bool) (h0 : 0 ≤ b) (h1 : b < (r.length : Int)) : rdOf false (r.set b.toNat v) b = v := by
  unfold rdOf
  rw [List.getD_eq_getElem?_getD, List.getElem?_set_self (by omega)]; rfl
theorem of_set_ne (r : List Bool) (b c : Int) (v : Bool) (h0 : 0 ≤ b) (hc : 0 ≤ c) (h : c ≠ b) : rdOf false (r.set b.toNat v) c = rdOf false r c := by
  unfold rdOf
  rw [List.getD_eq_getElem?_getD, List.getElem?_set_ne (by omega), List.getD_eq_getElem?_getD]
theorem Sq.st {n : Int} {m : List (List Bool)} (h : Sq n m) {a b : Int} (a0 : 0 ≤ a) (a1 : a < n) (v : Bool) : Sq n (B.st m a b v) := by
  refine ⟨by unfold B.st; rw [List.length_set]; exact h.1, fun c c0 c1 => ?_⟩
  unfold B.st
  by_cases e : c = a
  · subst e
    rw [rd_set_self _ _ _ a0 (by rw [h.1]; exact a1), List.length_set]
    exact h.2 c c0 c1
  · rw [rd_set_ne _ _ _ _ a0 c0 e]
    exact h.2 c c0 c1
theorem mt_st {n : Int} {m : List (List Bool)} (h : Sq n m) {a b : Int} (a0 : 0 ≤ a) (a1 : a < n) (b0 : 0 ≤ b) (b1 : b < n) (v : Bool) {c d : Int} (c0 : 0 ≤ c) (d0 : 0 ≤ d) : mt (st m a b v) c d = if c = a ∧ d = b then v else mt m c d := by
  unfold mt st
  by_cases e : c = a
  · subst e
    rw [rd_set_self _ _ _ a0 (by rw [h.1]; exact a1)]
    by_cases e2 : d = b
    · subst e2
      rw [if_pos ⟨rfl, rfl⟩, of_set_self _ _ _ b0 (by rw [h.2 c a0 a1]; exact b1)]
    · rw [if_neg (fun h => e2 h.2), of_set_ne _ _ _ _ b0 d0 e2]
  · rw [if_neg (fun h => e h.1), rd_set_ne _ _ _ _ a0 c0 e]

/-! ### Warshall's rounds -/
def Inv2 (n : Int) (l : List S47) (k : Int) (m : List (List Bool)) : Prop :=
  Sq n m ∧ (∀ a b, 0 ≤ a → 0 ≤ b → mt m a b = true → Tc (Rl l) a b) ∧ (∀ a b, Pk (Rl l) k a b → mt m a b = true)
def Inv4 (n : Int) (l : List S47) (k a b : Int) (m : List (List Bool)) : Prop :=
  Inv2 n l k m ∧ ∀ a' b', (a' < a ∨ (a' = a ∧ b' < b)) → Pk (Rl l) (k + 1) a' b' → mt m a' b' = true
theorem inv4_set {n : Int} {l : List S47} (hin : Inn (Rl l) n) {k a b : Int} {m : List (List Bool)} (h : Inv4 n l k a b m) (a0 : 0 ≤ a) (a1 : a < n) (b0 : 0 ≤ b) (b1 : b < n) (k0 : 0 ≤ k) (v : Bool) (hv : v = (mt m a b || (mt m a k && mt m k b))) : Inv4 n l k a (b + 1) (st m a b v) := by
  obtain ⟨⟨hs, hd, hc⟩, hx⟩ := h
  have hm := fun {c d : Int} (c0 : 0 ≤ c) (d0 : 0 ≤ d) => mt_st hs a0 a1 b0 b1 v c0 d0
  refine ⟨⟨hs.st a0 a1 v, fun c d c0 d0 hcd => ?_, fun c d hcd => ?_⟩, fun c d hlt hcd => ?_⟩
  · rw [hm c0 d0] at hcd
    split at hcd
    · rename_i e
      obtain ⟨rfl, rfl⟩ := e
      rw [hv, Bool.or_eq_true, Bool.and_eq_true] at hcd
      rcases hcd with h1 | ⟨h1, h2⟩
      · exact hd _ _ a0 b0 h1
      · exact (hd _ _ a0 k0 h1).trans (hd _ _ k0 b0 h2)
    · exact hd c d c0 d0 hcd
  · have hr := (hcd.tc.inn hin)
    rw [hm hr.1.1 hr.2.1]
    split
    · rename_i e
      obtain ⟨rfl, rfl⟩ := e
      rw [hv, hc _ _ hcd]; rfl
    · exact hc c d hcd
  · have hr := (hcd.tc.inn hin)
    rw [hm hr.1.1 hr.2.1]
    split
    · rename_i e
      obtain ⟨rfl, rfl⟩ := e
      rw [hv]
      rcases hcd.split with h1 | ⟨h1, h2⟩
      · rw [hc _ _ h1]; rfl
      · rw [hc _ _ h1, hc _ _ h2]; simp
    · rename_i e
      exact hx c d (by omega) hcd
theorem dep_l4 {n : Int} {l : List S47} (hn : 0 ≤ n ∧ n ≤ 200) (hin : Inn (Rl l) n) (k a : Int) (k0 : 0 ≤ k) (k1 : k < n) (a0 : 0 ≤ a) (a1 : a < n) (Post : List (List Bool) → Prop)
    (hk : ∀ m, Inv4 n l k (a + 1) 0 m → EvP (fun f => swarfref29_Depends.l3 f n m k (a + 1)) Post) (d : Nat) : ∀ (b : Int) (m : List (List Bool)), 0 ≤ b → b + d = n → Inv4 n l k a b m → EvP (fun f => swarfref29_Depends.l4 f n m k a b) Post := by
  induction d with
  | zero =>
    intro b m b0 hb h
    refine EvP.step (fun f => ?_) (hk m ⟨h.1, fun c e hlt hp => h.2 c e ?_ hp⟩)
    · simp only [swarfref29_Depends.l4]
      rw [if_neg (by omega), wrap_succ a a0 (by omega)]
    · have := hp.tc.inn hin
      omega
  | succ d ih =>
    intro b m b0 hb h
    have hw := wrap_succ b b0 (by omega)
    have hs := h.1.1
    have la := hs.2 a a0 a1
    have lk := hs.2 k k0 k1
    have lm := hs.1
    by_cases c1 : mt m a b = true
    · refine EvP.step (fun f => ?_) (ih (b + 1) _ (by omega) (by omega) (inv4_set hin h a0 a1 b0 (by omega) k0 true (by rw [c1]; rfl)))
      simp only [swarfref29_Depends.l4]
      rw [if_pos (by omega), if_pos a0, if_pos (by omega), if_pos b0, if_pos (by omega), if_pos (show rdOf false (rd_L7 m a) b = true from c1), hw]
      rfl
    · have c1' : mt m a b = false := by simpa using c1
      by_cases c2 : mt m a k = true
      · refine EvP.step (fun f => ?_) (ih (b + 1) _ (by omega) (by omega) (inv4_set hin h a0 a1 b0 (by omega) k0 (mt m k b) (by rw [c1', c2]; simp)))
        simp only [swarfref29_Depends.l4]
        rw [if_pos (by omega), if_pos a0, if_pos (by omega), if_pos b0, if_pos (by omega), if_neg (show ¬ rdOf false (rd_L7 m a) b = true from c1), if_pos k0, if_pos (by omega), if_pos (show rdOf false (rd_L7 m a) k = true from c2), if_pos (by omega), if_pos (by omega), hw]
        rfl
      · have c2' : mt m a k = false := by simpa using c2
        refine EvP.step (fun f => ?_) (ih (b + 1) _ (by omega) (by omega) (inv4_set hin h a0 a1 b0 (by omega) k0 false (by rw [c1', c2']; simp)))
        simp only [swarfref29_Depends.l4]
        rw [if_pos (by omega), if_pos a0, if_pos (by omega), if_pos b0, if_pos (by omega), if_neg (show ¬ rdOf false (rd_L7 m a) b = true from c1), if_pos k0, if_pos (by omega), if_neg (show ¬ rdOf false (rd_L7 m a) k = true from c2), hw]
        rfl
theorem dep_l3 {n : Int} {l : List S47} (hn : 0 ≤ n ∧ n ≤ 200) (hin : Inn (Rl l) n) (k : Int) (k0 : 0 ≤ k) (k1 : k < n) (Post : List (List Bool) → Prop)
    (hk : ∀ m, Inv2 n l (k + 1) m → EvP (fun f => swarfref29_Depends.l2 f n m (k + 1)) Post) (d : Nat) : ∀ (a : Int) (m : List (List Bool)), 0 ≤ a → a + d = n → Inv4 n l k a 0 m → EvP (fun f => swarfref29_Depends.l3 f n m k a) Post := by
  induction d with
  | zero =>
    intro a m a0 ha h
    refine EvP.step (fun f => ?_) (hk m ⟨h.1.1, h.1.2.1, fun c e hp => h.2 c e ?_ hp⟩)
    · simp only [swarfref29_Depends.l3]
      rw [if_neg (by omega), wrap_succ k k0 (by omega)]
    · have := hp.tc.inn hin
      omega
  | succ d ih =>
    intro a m a0 ha h
    refine EvP.step (fun f => ?_) (dep_l4 hn hin k a k0 k1 a0 (by omega) Post (fun m' h' => ih (a + 1) m' (by omega) (by omega) h') n.toNat 0 m (by omega) (by omega) h)
    simp only [swarfref29_Depends.l3]
    rw [if_pos (by omega)]
/-- The table tells the chains. -/
def Tab (n : Int) (R : Int → Int → Prop) (m : List (List Bool)) : Prop := Sq n m ∧ ∀ a b, 0 ≤ a → 0 ≤ b → (mt m a b = true ↔ Tc R a b)
theorem dep_l2 {n : Int} {l : List S47} (hn : 0 ≤ n ∧ n ≤ 200) (hin : Inn (Rl l) n) (d : Nat) : ∀ (k : Int) (m : List (List Bool)), 0 ≤ k → k + d = n → Inv2 n l k m → EvP (fun f => swarfref29_Depends.l2 f n m k) (Tab n (Rl l)) := by
  induction d with
  | zero =>
    intro k m k0 hk h
    refine EvP.stop m (fun f => ?_) ⟨h.1, fun a b a0 b0 => ⟨h.2.1 a b a0 b0, fun ht => h.2.2 a b ?_⟩⟩
    · simp only [swarfref29_Depends.l2]
      rw [if_neg (by omega)]
    · have : k = n := by omega
      rw [this]
      exact Pk.of_tc hin ht
  | succ d ih =>
    intro k m k0 hk h
    refine EvP.step (fun f => ?_) (dep_l3 hn hin k k0 (by omega) _ (fun m' h' => ih (k + 1) m' (by omega) (by omega) h') n.toNat 0 m (by omega) (by omega) ⟨h, fun c e hlt hp => ?_⟩)
    · simp only [swarfref29_Depends.l2]
      rw [if_pos (by omega)]
    · have := hp.tc.inn hin
      omega
theorem dep_l1 {n : Int} {l : List S47} (hn : 0 ≤ n ∧ n ≤ 200) (hl : l.length ≤ 2000) (hok : ∀ p ∈ l, okp n p = true) (d : Nat) : ∀ (j : Int) (m : List (List Bool)), 0 ≤ j → j + d = l.length → Sq n m → (∀ a b, 0 ≤ a → 0 ≤ b → (mt m a b = true ↔ (⟨a, b⟩ : S47) ∈ l.take j.toNat)) → EvP (fun f => swarfref29_Depends.l1 f n l m j) (Tab n (Rl l)) := by
  induction d with
  | zero =>
    intro j m j0 hj hs h
    have hin := rl_inn hok
    rw [show l.take j.toNat = l from List.take_of_length_le (by omega)] at h
    refine EvP.step (fun f => ?_) (dep_l2 hn hin n.toNat 0 m (by omega) (by omega) ⟨hs, fun a b a0 b0 hab => .one ((h a b a0 b0).1 hab), fun a b hab => ?_⟩)
    · simp only [swarfref29_Depends.l1]
      rw [if_neg (by omega)]
    · have hr := hab.tc.inn hin
      exact (h a b hr.1.1 hr.2.1).2 (Pk.zero hin hab)
  | succ d ih =>
    intro j m j0 hj hs h
    have hw := wrap_succ j j0 (by omega)
    have hmem : rd_T47 l j ∈ l := by
      have := drop_T47 l j j0 (by omega)
      exact List.mem_of_mem_drop (by rw [this]; exact List.mem_cons_self)
    have ho := (okp_iff _ _).1 (hok _ hmem)
    have htake : l.take (j + 1).toNat = l.take j.toNat ++ [rd_T47 l j] := by
      rw [show (j + 1).toNat = j.toNat + 1 by omega, List.take_succ_eq_append_getElem (by omega)]
      congr 2
      unfold rd_T47
      rw [List.getD_eq_getElem?_getD, List.getElem?_eq_getElem (by omega)]
      rfl
    generalize hp : rd_T47 l j = p at hmem ho htake
    have lm := hs.1
    have lp := hs.2 p.f0 ho.2.1.1 ho.2.1.2
    refine EvP.step (fun f => ?_) (ih (j + 1) (st m p.f0 p.f1 true) (by omega) (by omega) (hs.st ho.2.1.1 ho.2.1.2 true) (fun a b a0 b0 => ?_))
    · simp only [swarfref29_Depends.l1]
      rw [hp, if_pos (by omega), if_pos j0, if_pos ho.2.1.1, if_pos (by omega), if_pos ho.2.2.1, if_pos (by omega), hw]
      rfl
    · rw [mt_st hs ho.2.1.1 ho.2.1.2 ho.2.2.1 ho.2.2.2 true a0 b0, htake, List.mem_append, List.mem_singleton, ← h a b a0 b0]
      have e : (⟨a, b⟩ : S47) = p ↔ a = p.f0 ∧ b = p.f1 := S47.eta _ _
      rw [e]
      split
      · rename_i hc; simp [hc]
      · rename_i hc; simp [hc]
theorem dep_l0 {n : Int} {l : List S47} (hn : 0 ≤ n ∧ n ≤ 200) (hl : l.length ≤ 2000) (hok : ∀ p ∈ l, okp n p = true) (d : Nat) : ∀ (j : Int) (m : List (List Bool)), 0 ≤ j → j + d = n → (m.length : Int) = n → (∀ a, 0 ≤ a → a < j → rd_L7 m a = List.replicate n.toNat false) → EvP (fun f => swarfref29_Depends.l0 f n l m j) (Tab n (Rl l)) := by
  induction d with
  | zero =>
    intro j m j0 hj hm h
    refine EvP.step (fun f => ?_) (dep_l1 hn hl hok l.length 0 m (by omega) (by omega) ⟨hm, fun a a0 a1 => ?_⟩ (fun a b a0 b0 => ?_))
    · simp only [swarfref29_Depends.l0]
      rw [if_neg (by omega)]
    · rw [h a a0 (by omega), List.length_replicate]; omega
    · have : mt m a b = false := by
        unfold mt
        by_cases ha : a < n
        · rw [h a a0 (by omega)]
          unfold rdOf
          rw [List.getD_eq_getElem?_getD, List.getElem?_replicate]
          split <;> rfl
        · have : rd_L7 m a = [] := by
            unfold rd_L7
            rw [List.getD_eq_getElem?_getD, List.getElem?_eq_none (by omega)]; rfl
          rw [this]; unfold rdOf; simp
      simp [this]
  | succ d ih =>
    intro j m j0 hj hm h
    have hw := wrap_succ j j0 (by omega)
    refine EvP.step (fun f => ?_) (ih (j + 1) (m.set j.toNat (List.replicate n.toNat false)) (by omega) (by omega) (by rw [List.length_set]; exact hm) (fun a a0 a1 => ?_))
    · simp only [swarfref29_Depends.l0]
      rw [if_pos (by omega), if_pos (by omega), if_pos (by omega), if_pos (by omega), if_pos (by omega), hw]
    · by_cases e : a = j
      · subst e
        exact rd_set_self _ _ _ a0 (by omega)
      · rw [rd_set_ne _ _ _ _ j0 a0 e]
        exact h a a0 (by omega)
theorem depends_ev {n : Int} {l : List S47} (h : vErr n l = 0) : EvP (fun f => swarfref29_Depends.f f n l) (Tab n (Rl l)) := by
  obtain ⟨h1, h2, h3, h4⟩ := vErr_zero h
  unfold swarfref29_Depends.f
  simp only [if_pos h1, if_pos (show n.toNat ≤ 11728124029610 by omega)]
  exact dep_l0 ⟨h1, h2⟩ h3 h4 n.toNat 0 _ (by omega) (by omega) (by simp; omega) (fun a a0 a1 => by omega)
theorem cyclic_l0 {n : Int} {R : Int → Int → Prop} {m : List (List Bool)} (hn : 0 ≤ n ∧ n ≤ 200) (hin : Inn R n) (ht : Tab n R m) (d : Nat) : ∀ j : Int, 0 ≤ j → j + d = n → (∀ a, a < j → ¬ Tc R a a) → EvP (fun f => swarfref29_Cyclic.l0 f n m j) (fun r => r = true ↔ ¬ Acyc R) := by
  induction d with
  | zero =>
    intro j j0 hj h
    refine EvP.stop false (fun f => ?_) ⟨(fun h => by cases h), (fun hx => absurd (fun a ha => ?_) hx)⟩
    · simp only [swarfref29_Cyclic.l0]
      rw [if_neg (by omega)]
    · exact h a (by have := (ha.inn hin).1; omega) ha
  | succ d ih =>
    intro j j0 hj h
    have hw := wrap_succ j j0 (by omega)
    have lm := ht.1.1
    have lj := ht.1.2 j j0 (by omega)
    by_cases c : mt m j j = true
    · refine EvP.stop true (fun f => ?_) ⟨fun _ hx => hx j ((ht.2 j j j0 j0).1 c), fun _ => rfl⟩
      simp only [swarfref29_Cyclic.l0]
      rw [if_pos (by omega), if_pos j0, if_pos (by omega), if_pos (by omega)]
      exact if_pos c
    · refine EvP.step (fun f => ?_) (ih (j + 1) (by omega) (by omega) (fun a ha => ?_))
      · simp only [swarfref29_Cyclic.l0]
        rw [if_pos (by omega), if_pos j0, if_pos (by omega), if_pos (by omega), hw]
        exact if_neg c
      · by_cases e : a = j
        · subst e
          exact fun hx => c ((ht.2 a a j0 j0).2 hx)
        · exact h a (by omega)
theorem cyclic_ev {n : Int} {l : List S47} (h : vErr n l = 0) : EvP (fun f => swarfref29_Cyclic.f f n l) (fun r => r = true ↔ ¬ Acyc (Rl l)) := by
  obtain ⟨h1, h2, h3, h4⟩ := vErr_zero h
  unfold swarfref29_Cyclic.f
  exact EvP.bindP (depends_ev h) (fun m hm => cyclic_l0 ⟨h1, h2⟩ (rl_inn h4) hm n.toNat 0 (by omega) (by omega) (fun a ha hx => by have := (hx.inn (rl_inn h4)).1; omega))
end Go.Proofs.Ytbbkclcfmcjlgaa.B

-- PRINTED by print.py (a twelfth state) out of the translation. Not trusted: Lean checks it.

namespace Go.Proofs.Ytbbkclcfmcjlgaa.P
open Go.RowKit Go.Proofs.YtbbkclcfmcjlgaaW.PrintWords Go.Proofs.YtbbkclcfmcjlgaaW.PrintLast Go.Proofs.YtbbkclcfmcjlgaaW.PrintMore
attribute [local go_sem] max2_int min2_int max_two min_two max_three min_three max_four min_four   -- for this text's walks alone
set_option linter.unusedVariables false
set_option linter.unusedSimpArgs false

/-! ### swarfref29_Order: function 26 -/
mutual
def swarfref29_Order.l0 : Nat → Int → List (S47) → List Int → Option (List Int × Int)
 | 0, _, _, _ => none
 | k + 1, x0, x1, x7 => if (x7.length : Int) < x0 then (swarfref29_Order.l1 k x0 x1 x7 0) else (some (x7, 0))
def swarfref29_Order.l1 : Nat → Int → List (S47) → List Int → Int → Option (List Int × Int)
 | 0, _, _, _, _ => none
 | k + 1, x0, x1, x7, x8 => (swarfref29_in.f k x7 x8).bind fun t328 => (if t328 = true then (swarfref29_Order.l1 k x0 x1 x7 (wrap64 (x8 + 1))) else ((swarfref29_ready.f k x1 x7 x8).bind fun t329 => (if t329 = true then (if x7.length < 17592186044416 then (swarfref29_Order.l0 k x0 x1 (x7 ++ [x8])) else (none)) else (swarfref29_Order.l1 k x0 x1 x7 (wrap64 (x8 + 1))))))
end
def swarfref29_Order.f (k : Nat) (a0 : Int) (l1 : List (S47)) : Option (List Int × Int) := (swarfref29_fault.f k a0 l1).bind fun t327 => (if t327 = 0 then (swarfref29_Order.l0 k a0 l1 ([] : List Int)) else (some (([] : List Int), t327)))
theorem swarfref29_Order.mono_l : ∀ k, (∀ y0 y1 y2, LeO (swarfref29_Order.l0 k y0 y1 y2) (swarfref29_Order.l0 (k + 1) y0 y1 y2)) ∧ (∀ y0 y1 y2 y3, LeO (swarfref29_Order.l1 k y0 y1 y2 y3) (swarfref29_Order.l1 (k + 1) y0 y1 y2 y3))
 | 0 => ⟨fun _ _ _ r h => by simp [swarfref29_Order.l0] at h, fun _ _ _ _ r h => by simp [swarfref29_Order.l1] at h⟩
 | k + 1 => by
  obtain ⟨ih0, ih1⟩ := swarfref29_Order.mono_l k
  refine ⟨?_, ?_⟩
  ·intro y0 y1 y2
   unfold swarfref29_Order.l0
   repeat' first
   | (with_reducible exact ih0 _ _ _)
   | (with_reducible exact ih1 _ _ _ _)
   | (with_reducible exact swarfref29_fault.mono _ _ _)
   | (with_reducible exact swarfref29_in.mono _ _ _)
   | (with_reducible exact swarfref29_ready.mono _ _ _ _)
   | (with_reducible exact LeO.refl _)
   | (with_reducible exact LeO.none _)
   | (with_reducible refine LeO.ite ?_ ?_)
   | (with_reducible refine LeO.bind ?_ (fun _ => ?_))
   | exact ih0 _ _ _
   | exact ih1 _ _ _ _
   | exact swarfref29_fault.mono _ _ _
   | exact swarfref29_in.mono _ _ _
   | exact swarfref29_ready.mono _ _ _ _
   | exact LeO.none _
   | refine LeO.ite ?_ ?_
   | refine LeO.bind ?_ (fun _ => ?_)
  ·intro y0 y1 y2 y3
   unfold swarfref29_Order.l1
   repeat' first
   | (with_reducible exact ih0 _ _ _)
   | (with_reducible exact ih1 _ _ _ _)
   | (with_reducible exact swarfref29_fault.mono _ _ _)
   | (with_reducible exact swarfref29_in.mono _ _ _)
   | (with_reducible exact swarfref29_ready.mono _ _ _ _)
   | (with_reducible exact LeO.refl _)
   | (with_reducible exact LeO.none _)
   | (with_reducible refine LeO.ite ?_ ?_)
   | (with_reducible refine LeO.bind ?_ (fun _ => ?_))
   | exact ih0 _ _ _
   | exact ih1 _ _ _ _
   | exact swarfref29_fault.mono _ _ _
   | exact swarfref29_in.mono _ _ _
   | exact swarfref29_ready.mono _ _ _ _
   | exact LeO.none _
   | refine LeO.ite ?_ ?_
   | refine LeO.bind ?_ (fun _ => ?_)
theorem swarfref29_Order.mono : ∀ a0 a1 k, LeO (swarfref29_Order.f k a0 a1) (swarfref29_Order.f (k + 1) a0 a1) := by
 intro a0 a1 k
 obtain ⟨ih0, ih1⟩ := swarfref29_Order.mono_l k
 unfold swarfref29_Order.f
 repeat' first
   | (with_reducible exact ih0 _ _ _)
   | (with_reducible exact ih1 _ _ _ _)
   | (with_reducible exact swarfref29_fault.mono _ _ _)
   | (with_reducible exact swarfref29_in.mono _ _ _)
   | (with_reducible exact swarfref29_ready.mono _ _ _ _)
   | (with_reducible exact LeO.refl _)
   | (with_reducible exact LeO.none _)
   | (with_reducible refine LeO.ite ?_ ?_)
   | (with_reducible refine LeO.bind ?_ (fun _ => ?_))
   | exact ih0 _ _ _
   | exact ih1 _ _ _ _
   | exact swarfref29_fault.mono _ _ _
   | exact swarfref29_in.mono _ _ _
   | exact swarfref29_ready.mono _ _ _ _
   | exact LeO.none _
   | refine LeO.ite ?_ ?_
   | refine LeO.bind ?_ (fun _ => ?_)
set_option maxHeartbeats 8000000 in
set_option maxRecDepth 100000 in
theorem swarfref29_Order.calls (k : Nat) (a0 : Int) (A1 : Option Addr) (c1 : Nat) (l1 : List (S47)) (r1 : List Int) (r2 : Int) (w : World) (hr1 : Kd.C k47 w A1 l1.length l1) (hc1 : l1.length ≤ c1) (h : swarfref29_Order.f k a0 l1 = some (r1, r2)) :
  Calls Try.prog 26 #[.int .i64 a0, .slice A1 l1.length c1] w fun e w' => ∃ v0_ : Value, e = .returned (.tuple #[v0_, .int .i64 r2]) ∧ Kd.R (Kd.int .i64) 3 w' w.heap.size (fun _ => True) v0_ r1 ∧ Below w.heap.size w w' := by
 have HR1 := Aside0.mk hr1
 have HC1 := Aside0.mk hc1
 clear hr1 hc1
 have HB := Aside0.mk (Below.refl w.heap.size w)
 have H : ((swarfref29_fault.f k a0 l1).bind fun t327 => (if t327 = 0 then (swarfref29_Order.l0 k a0 l1 ([] : List Int)) else (some (([] : List Int), t327)))) = some (r1, r2) := h
 clear h
 replace H := Option.bind_eq_some_iff.mp H
 obtain ⟨t327, A30, H⟩ := H
 replace H : (if t327 = 0 then (swarfref29_Order.l0 k a0 l1 ([] : List Int)) else (some (([] : List Int), t327))) = some (r1, r2) := H
 have A3 := Aside0.mk A30
 clear A30
 by_cases c4 : t327 = 0
 ·rw [if_pos c4] at H
  have c4b0 : (t327 == 0) = true := beq_iff_eq.mpr c4
  have c4b1 : (t327 != 0) = false := bne_eq_false_iff_eq.mpr c4
  clear c4; have H' := Aside0.mk H; clear H
  go_enter Try.func26, Try.ntmps26
  go_wp2_with (first | ((with_reducible refine gate_callee (f := 47) rfl ?_); refine goesL_ (some 11) rfl rfl Try.func47 (by kernel_rfl) rfl #[.int .i64 a0, .slice A1 l1.length c1] rfl (by (try simp only [List.map_toArray, List.map_cons, List.map_nil]); first | done | rfl | (simp only [List.length_drop, List.length_take]; rfl)) ?_; (with_reducible refine (swarfref29_fault.calls k a0 _ _ l1 t327 _ ?side1 ?side2 A3.out).mono ?_); (case side1 => repeat (first | exact HR1.out | (with_reducible refine Kd.C_alloc ?_ _) | (with_reducible refine Kd.C_drewN ?_ _) | (with_reducible refine Kd.C_drew ?_))); (case side2 => exact HC1.out); rintro e w5 ⟨rfl, hb⟩; refine ⟨_, rfl, ?_⟩; have n0_ := Aside0.mk (below_step (by repeat (first | (with_reducible first | exact HB.out | apply below_alloc | apply pw_below_drewN | apply below_drew1) | exact HB.out)) hb); clear HB; have HB := n0_; clear n0_; (try clear hb); (try clear hb2); (try clear hk); (try clear hi)))
  go_loopg [7] k (fun kq v7 w' => ∃ (x7_1 : List Int), Aside0 (swarfref29_Order.l0 kq a0 l1 x7_1 = some (r1, r2)) ∧ Aside0 (kq ≤ k) ∧ Aside0 (Kd.R (Kd.int .i64) 3 w' w.heap.size (fun _ => True) v7 x7_1) ∧ Aside0 (Below w.heap.size w w'))
  case atStart => exact ⟨(([] : List Int)), H', ⟨Nat.le_refl _⟩, ⟨by first | exact Kd.R_nil _ _ _ _ _ | exact Kd.N_nil _ _ _ _ _ | exact Kd.V_nil _ _ _ _ _ | exact Kd.Q_nil _ _ _ _ _ | exact Kd.S_nil _ _ _ _ _⟩, ⟨by repeat (first | (with_reducible first | exact HB.out | apply below_alloc | apply pw_below_drewN | apply below_drew1) | exact HB.out)⟩⟩
  case round =>
   clear H'; try clear c1; try clear c2; try clear p2; try clear c4; try clear c4b0; try clear c4b1
   obtain ⟨x7_1, HA, HK1, HO_7, HB⟩ := hrel
   cases gk with
   | zero => exact absurd HA.out (by simp [swarfref29_Order.l0])
   | succ k1 =>
    have H := HA.out
    clear HA
    simp only [swarfref29_Order.l0] at H
    by_cases c6 : (x7_1.length : Int) < a0
    ·rw [if_pos c6] at H
     have c6b0 : decide ((x7_1.length : Int) < a0) = true := decide_eq_true c6
     clear c6; have H' := Aside0.mk H; clear H
     obtain ⟨Ao7, co7, eo7⟩ := Kd.R_slice HO_7.out
     subst eo7; go_wp2
     go_loopg [8] k1 (fun kq v8 w' => ∃ (x8_2 : Int), v8 = .int .i64 x8_2 ∧ Aside0 (swarfref29_Order.l1 kq a0 l1 x7_1 x8_2 = some (r1, r2)) ∧ Aside0 (kq ≤ k1) ∧ Aside0 (Kd.R (Kd.int .i64) 3 w' w.heap.size (fun _ => True) (.slice Ao7 x7_1.length co7) x7_1) ∧ Aside0 (Below w.heap.size w w'))
     case atStart => exact ⟨(0), (by first | rfl | (simp; done) | (simp [*]; done)), H', ⟨Nat.le_refl _⟩, ⟨by (with_reducible repeat (first | apply Kd.R_alloc | apply Kd.R_drewN | apply Kd.R_drew)); exact HO_7.out⟩, ⟨by repeat (first | (with_reducible first | exact HB.out | apply below_alloc | apply pw_below_drewN | apply below_drew1) | exact HB.out)⟩⟩
     case round =>
      clear H'; try clear c1; try clear c2; try clear p2; try clear c4; try clear c4b0; try clear c4b1; try clear c6; try clear c6b0; try clear p2
      obtain ⟨x8_2, rfl, HA, HK2, HO_7, HB⟩ := hrel
      cases gk with
      | zero => exact absurd HA.out (by simp [swarfref29_Order.l1])
      | succ k2 =>
       have H := HA.out
       clear HA
       simp only [swarfref29_Order.l1] at H
       replace H := Option.bind_eq_some_iff.mp H
       obtain ⟨t328, A80, H⟩ := H
       replace H : (if t328 = true then (swarfref29_Order.l1 k2 a0 l1 x7_1 (wrap64 (x8_2 + 1))) else ((swarfref29_ready.f k2 l1 x7_1 x8_2).bind fun t329 => (if t329 = true then (if x7_1.length < 17592186044416 then (swarfref29_Order.l0 k2 a0 l1 (x7_1 ++ [x8_2])) else (none)) else (swarfref29_Order.l1 k2 a0 l1 x7_1 (wrap64 (x8_2 + 1)))))) = some (r1, r2) := H
       have A8 := Aside0.mk A80; clear A80
       by_cases c9 : t328 = true
       ·subst c9
        have H1 : (swarfref29_Order.l1 k2 a0 l1 x7_1 (wrap64 (x8_2 + 1))) = some (r1, r2) := by rw [if_pos rfl] at H; exact H
        clear H; have H := H1; clear H1; have H' := Aside0.mk H; clear H
        go_wp2_with (first | ((with_reducible refine gate_callee (f := 40) rfl ?_); refine goesL_ (some 21) rfl rfl Try.func40 (by kernel_rfl) rfl #[.slice Ao7 x7_1.length co7, .int .i64 x8_2] rfl (by (try simp only [List.map_toArray, List.map_cons, List.map_nil]); first | done | rfl | (simp only [List.length_drop, List.length_take]; rfl)) ?_; (with_reducible refine (swarfref29_in.calls k2 _ _ x7_1 x8_2 true _ ?side1 ?side2 A8.out).mono ?_); (case side1 => repeat (first | exact (Kd.R_reads' HO_7.out).2.2 | (with_reducible refine Kd.C_alloc ?_ _) | (with_reducible refine Kd.C_drewN ?_ _) | (with_reducible refine Kd.C_drew ?_))); (case side2 => exact (Kd.R_reads' HO_7.out).2.1); rintro e w' ⟨rfl, ⟨nd, rfl⟩⟩; refine ⟨_, rfl, ?_⟩))
        go_roundg k2
        case measure => have := HK1.out; have := HK2.out; omega
        case rel => exact ⟨(wrap64 (x8_2 + 1)), (by first | rfl | (simp; done) | (simp [*]; done)), H', ⟨by have := HK1.out; have := HK2.out; omega⟩, ⟨by (with_reducible repeat (first | apply Kd.R_alloc | apply Kd.R_drewN | apply Kd.R_drew)); exact HO_7.out⟩, ⟨by repeat (first | (with_reducible first | exact HB.out | apply below_alloc | apply pw_below_drewN | apply below_drew1) | exact HB.out)⟩⟩
       ·replace c9 := Bool.eq_false_iff.mpr c9
        subst c9
        have H1 : ((swarfref29_ready.f k2 l1 x7_1 x8_2).bind fun t329 => (if t329 = true then (if x7_1.length < 17592186044416 then (swarfref29_Order.l0 k2 a0 l1 (x7_1 ++ [x8_2])) else (none)) else (swarfref29_Order.l1 k2 a0 l1 x7_1 (wrap64 (x8_2 + 1))))) = some (r1, r2) := by rw [if_neg (show ¬ (false = true) by decide)] at H; exact H
        clear H; have H := H1; clear H1; replace H := Option.bind_eq_some_iff.mp H
        obtain ⟨t329, A100, H⟩ := H
        replace H : (if t329 = true then (if x7_1.length < 17592186044416 then (swarfref29_Order.l0 k2 a0 l1 (x7_1 ++ [x8_2])) else (none)) else (swarfref29_Order.l1 k2 a0 l1 x7_1 (wrap64 (x8_2 + 1)))) = some (r1, r2) := H
        have A10 := Aside0.mk A100; clear A100
        by_cases c11 : t329 = true
        ·subst c11
         have H1 : (if x7_1.length < 17592186044416 then (swarfref29_Order.l0 k2 a0 l1 (x7_1 ++ [x8_2])) else (none)) = some (r1, r2) := by rw [if_pos rfl] at H; exact H
         clear H; have H := H1; clear H1
         by_cases c12 : x7_1.length < 17592186044416
         ·rw [if_pos c12] at H; have LMc12 := Aside0.mk c12; clear c12
          obtain ⟨y330, hy330⟩ : ∃ y_ : List Int, y_ = (x7_1 ++ [x8_2]) := ⟨_, rfl⟩
          replace H : (swarfref29_Order.l0 k2 a0 l1 y330) = some (r1, r2) := by first | (rw [hy330]; with_reducible exact H) | (have H2_ := (Option.bind_some _ _).symm.trans H; rw [hy330]; with_reducible exact H2_) | (have H2_ := (Option.bind_some _ _).symm.trans H; with_reducible exact H2_) | with_reducible exact H | (rw [hy330]; exact H) | exact H
          have Ny330 := Aside0.mk hy330; clear hy330; have H' := Aside0.mk H; clear H
          go_wp2_with (first | ((with_reducible refine gate_callee (f := 40) rfl ?_); refine goesL_ (some 21) rfl rfl Try.func40 (by kernel_rfl) rfl #[.slice Ao7 x7_1.length co7, .int .i64 x8_2] rfl (by (try simp only [List.map_toArray, List.map_cons, List.map_nil]); first | done | rfl | (simp only [List.length_drop, List.length_take]; rfl)) ?_; (with_reducible refine (swarfref29_in.calls k2 _ _ x7_1 x8_2 false _ ?side1 ?side2 A8.out).mono ?_); (case side1 => repeat (first | exact (Kd.R_reads' HO_7.out).2.2 | (with_reducible refine Kd.C_alloc ?_ _) | (with_reducible refine Kd.C_drewN ?_ _) | (with_reducible refine Kd.C_drew ?_))); (case side2 => exact (Kd.R_reads' HO_7.out).2.1); rintro e w' ⟨rfl, ⟨nd, rfl⟩⟩; refine ⟨_, rfl, ?_⟩) | (go_at_call 41; (with_reducible refine (swarfref29_ready.calls k2 _ _ l1 _ _ x7_1 x8_2 true _ ?side1 ?side2 ?side3 ?side4 A10.out).mono ?_); (case side1 => repeat (first | exact (Kd.C_below HR1.out (by repeat (first | (with_reducible first | exact HB.out | apply below_alloc | apply pw_below_drewN | apply below_drew1) | exact HB.out))) | (with_reducible refine Kd.C_alloc ?_ _) | (with_reducible refine Kd.C_drewN ?_ _) | (with_reducible refine Kd.C_drew ?_))); (case side2 => exact HC1.out); (case side3 => repeat (first | exact (Kd.R_reads' HO_7.out).2.2 | (with_reducible refine Kd.C_alloc ?_ _) | (with_reducible refine Kd.C_drewN ?_ _) | (with_reducible refine Kd.C_drew ?_))); (case side4 => exact (Kd.R_reads' HO_7.out).2.1); rintro e w' ⟨rfl, ⟨nd, rfl⟩⟩) | ((with_reducible refine gate_builtin (b := .append) (xs := #[.tmp 31, .tmp 33]) rfl ?_); at_builtin; refine Kd.R_append (Kd.int .i64) (w0 := w) w.heap.size rfl (.tmp 31) (.tmp 33) 31 3 (.int .i64 0) 8 rfl Try.underlying31 info3 rfl (by decide) (by omega) (.slice Ao7 x7_1.length co7) x7_1 x8_2 [.int .i64 x8_2] (fun _ => True) (fun _ => False) rfl rfl ?aP (fun _ hk => hk.elim) ?aF ?aO ?aB ?aS ?aL ?_; (case aP => exact rfl); (case aB => exact (by repeat (first | (with_reducible first | exact HB.out | apply below_alloc | apply pw_below_drewN | apply below_drew1) | exact HB.out))); (case aF => exact (fun _ _ => trivial)); (case aO => exact (by (with_reducible repeat (first | apply Kd.R_alloc | apply Kd.R_drewN | apply Kd.R_drew)); exact HO_7.out)); (case aS => exact (below_size (by repeat (first | (with_reducible first | exact HB.out | apply below_alloc | apply pw_below_drewN | apply below_drew1) | exact HB.out)))); (case aL => have := LMc12.out; omega); intro v331 w13 ho hb hg hat; rw [← Ny330.out] at ho; have n0_ := Aside0.mk (hb); have n1_ := Aside0.mk (ho); clear HB; clear HO_7; have HB := n0_; have HO332 := n1_; clear n0_ n1_; clear ho hb hg hat))
          go_roundg k2
          case measure => have := HK1.out; have := HK2.out; omega
          case rel => exact ⟨(y330), H', ⟨by have := HK1.out; have := HK2.out; omega⟩, ⟨by (with_reducible repeat (first | apply Kd.R_alloc | apply Kd.R_drewN | apply Kd.R_drew)); exact HO332.out⟩, ⟨by repeat (first | (with_reducible first | exact HB.out | apply below_alloc | apply pw_below_drewN | apply below_drew1) | exact HB.out)⟩⟩
         ·rw [if_neg c12] at H
          exact absurd H (by simp)
        ·replace c11 := Bool.eq_false_iff.mpr c11
         subst c11
         have H1 : (swarfref29_Order.l1 k2 a0 l1 x7_1 (wrap64 (x8_2 + 1))) = some (r1, r2) := by rw [if_neg (show ¬ (false = true) by decide)] at H; exact H
         clear H; have H := H1; clear H1; have H' := Aside0.mk H; clear H
         go_wp2_with (first | ((with_reducible refine gate_callee (f := 40) rfl ?_); refine goesL_ (some 21) rfl rfl Try.func40 (by kernel_rfl) rfl #[.slice Ao7 x7_1.length co7, .int .i64 x8_2] rfl (by (try simp only [List.map_toArray, List.map_cons, List.map_nil]); first | done | rfl | (simp only [List.length_drop, List.length_take]; rfl)) ?_; (with_reducible refine (swarfref29_in.calls k2 _ _ x7_1 x8_2 false _ ?side1 ?side2 A8.out).mono ?_); (case side1 => repeat (first | exact (Kd.R_reads' HO_7.out).2.2 | (with_reducible refine Kd.C_alloc ?_ _) | (with_reducible refine Kd.C_drewN ?_ _) | (with_reducible refine Kd.C_drew ?_))); (case side2 => exact (Kd.R_reads' HO_7.out).2.1); rintro e w' ⟨rfl, ⟨nd, rfl⟩⟩; refine ⟨_, rfl, ?_⟩) | (go_at_call 41; (with_reducible refine (swarfref29_ready.calls k2 _ _ l1 _ _ x7_1 x8_2 false _ ?side1 ?side2 ?side3 ?side4 A10.out).mono ?_); (case side1 => repeat (first | exact (Kd.C_below HR1.out (by repeat (first | (with_reducible first | exact HB.out | apply below_alloc | apply pw_below_drewN | apply below_drew1) | exact HB.out))) | (with_reducible refine Kd.C_alloc ?_ _) | (with_reducible refine Kd.C_drewN ?_ _) | (with_reducible refine Kd.C_drew ?_))); (case side2 => exact HC1.out); (case side3 => repeat (first | exact (Kd.R_reads' HO_7.out).2.2 | (with_reducible refine Kd.C_alloc ?_ _) | (with_reducible refine Kd.C_drewN ?_ _) | (with_reducible refine Kd.C_drew ?_))); (case side4 => exact (Kd.R_reads' HO_7.out).2.1); rintro e w' ⟨rfl, ⟨nd, rfl⟩⟩))
         go_roundg k2
         case measure => have := HK1.out; have := HK2.out; omega
         case rel => exact ⟨(wrap64 (x8_2 + 1)), (by first | rfl | (simp; done) | (simp [*]; done)), H', ⟨by have := HK1.out; have := HK2.out; omega⟩, ⟨by (with_reducible repeat (first | apply Kd.R_alloc | apply Kd.R_drewN | apply Kd.R_drew)); exact HO_7.out⟩, ⟨by repeat (first | (with_reducible first | exact HB.out | apply below_alloc | apply pw_below_drewN | apply below_drew1) | exact HB.out)⟩⟩
    ·rw [if_neg c6] at H
     have c6b0 : decide ((x7_1.length : Int) < a0) = false := decide_eq_false c6
     clear c6
     simp only [Option.some.injEq, Prod.mk.injEq] at H
     obtain ⟨rfl, rfl⟩ := H
     obtain ⟨Ao14, co14, eo14⟩ := Kd.R_slice HO_7.out
     subst eo14; go_wp2
     go_ret2
     exact ⟨_, by first | rfl | (simp [errW_none, errW_some] <;> rfl) | (simp [*, errW_none, errW_some] <;> rfl), by (with_reducible repeat (first | apply Kd.R_alloc | apply Kd.R_drewN | apply Kd.R_drew)); exact HO_7.out, by repeat (first | (with_reducible first | exact HB.out | apply below_alloc | apply pw_below_drewN | apply below_drew1) | exact HB.out)⟩
 ·rw [if_neg c4] at H
  have c4b0 : (t327 == 0) = false := beq_eq_false_iff_ne.mpr c4
  have c4b1 : (t327 != 0) = true := bne_iff_ne.mpr c4
  simp only [Option.some.injEq, Prod.mk.injEq] at H
  obtain ⟨rfl, rfl⟩ := H
  go_enter Try.func26, Try.ntmps26
  go_wp2_with (first | ((with_reducible refine gate_callee (f := 47) rfl ?_); refine goesL_ (some 11) rfl rfl Try.func47 (by kernel_rfl) rfl #[.int .i64 a0, .slice A1 l1.length c1] rfl (by (try simp only [List.map_toArray, List.map_cons, List.map_nil]); first | done | rfl | (simp only [List.length_drop, List.length_take]; rfl)) ?_; (with_reducible refine (swarfref29_fault.calls k a0 _ _ l1 t327 _ ?side1 ?side2 A3.out).mono ?_); (case side1 => repeat (first | exact HR1.out | (with_reducible refine Kd.C_alloc ?_ _) | (with_reducible refine Kd.C_drewN ?_ _) | (with_reducible refine Kd.C_drew ?_))); (case side2 => exact HC1.out); rintro e w15 ⟨rfl, hb⟩; refine ⟨_, rfl, ?_⟩; have n0_ := Aside0.mk (below_step (by repeat (first | (with_reducible first | exact HB.out | apply below_alloc | apply pw_below_drewN | apply below_drew1) | exact HB.out)) hb); clear HB; have HB := n0_; clear n0_; (try clear hb); (try clear hb2); (try clear hk); (try clear hi)))
  go_ret2
  exact ⟨_, by first | rfl | (simp [errW_none, errW_some] <;> rfl) | (simp [*, errW_none, errW_some] <;> rfl), by first | exact Kd.R_nil _ _ _ _ _ | exact Kd.N_nil _ _ _ _ _ | exact Kd.V_nil _ _ _ _ _ | exact Kd.Q_nil _ _ _ _ _ | exact Kd.S_nil _ _ _ _ _, by repeat (first | (with_reducible first | exact HB.out | apply below_alloc | apply pw_below_drewN | apply below_drew1) | exact HB.out)⟩

end Go.Proofs.Ytbbkclcfmcjlgaa.P

/- What read and the two functions Order come to. Plain numbers and lists. -/

namespace Go.Proofs.Ytbbkclcfmcjlgaa.B
open Go.RowKit Go.Proofs.Ytbbkclcfmcjlgaa.P Go.Proofs.Ytbbkclcfmcjlgaa.Gr Go.Proofs.YtbbkclcfmcjlgaaW.PrintWords Go.Proofs.YtbbkclcfmcjlgaaW.PrintLast Go.Proofs.YtbbkclcfmcjlgaaW.PrintMore
set_option linter.unusedVariables false
set_option linter.unusedSimpArgs false

/-! ### What must come directly before and behind a number -/
def bef (l : List S47) (i : Int) : List Int := (l.filter fun p => p.f1 == i).map fun p => p.f0
def beh (l : List S47) (i : Int) : List Int := (l.filter fun p => p.f0 == i).map fun p => p.f1
theorem mem_beh (l : List S47) (i k : Int) : k ∈ beh l i ↔ Rl l i k := by
  unfold beh Rl
  simp only [List.mem_map, List.mem_filter, beq_iff_eq]
  constructor
  · rintro ⟨p, ⟨hp, rfl⟩, rfl⟩; exact hp
  · intro h; exact ⟨_, ⟨h, rfl⟩, rfl⟩
theorem bef_snoc (l : List S47) (p : S47) (i : Int) : bef (l ++ [p]) i = if p.f1 = i then bef l i ++ [p.f0] else bef l i := by
  unfold bef
  rw [List.filter_append, List.map_append]
  by_cases h : p.f1 = i <;> simp [h]
theorem beh_snoc (l : List S47) (p : S47) (i : Int) : beh (l ++ [p]) i = if p.f0 = i then beh l i ++ [p.f1] else beh l i := by
  unfold beh
  rw [List.filter_append, List.map_append]
  by_cases h : p.f0 = i <;> simp [h]
theorem bef_len (l : List S47) (i : Int) : (bef l i).length ≤ l.length := by unfold bef; rw [List.length_map]; exact List.length_filter_le _ _
theorem beh_len (l : List S47) (i : Int) : (beh l i).length ≤ l.length := by unfold beh; rw [List.length_map]; exact List.length_filter_le _ _
theorem rd3_set_self (m : List (List Int)) (a : Int) (y : List Int) (h0 : 0 ≤ a) (h1 : a < (m.length : Int)) : rd_L3 (m.set a.toNat y) a = y := by
  unfold rd_L3
  rw [List.getD_eq_getElem?_getD, List.getElem?_set_self (by omega)]; rfl
theorem rd3_set_ne (m : List (List Int)) (a b : Int) (y : List Int) (h0 : 0 ≤ a) (hb : 0 ≤ b) (h : b ≠ a) : rd_L3 (m.set a.toNat y) b = rd_L3 m b := by
  unfold rd_L3
  rw [List.getD_eq_getElem?_getD, List.getElem?_set_ne (by omega), List.getD_eq_getElem?_getD]
theorem rd_set (m : List Int) (a b x : Int) (h0 : 0 ≤ a) (h1 : a < (m.length : Int)) (hb : 0 ≤ b) : rd (m.set a.toNat x) b = if b = a then x else rd m b := by
  unfold rd
  by_cases e : b = a
  · subst e
    rw [if_pos rfl, List.getD_eq_getElem?_getD, List.getElem?_set_self (by omega)]; rfl
  · rw [if_neg e, List.getD_eq_getElem?_getD, List.getElem?_set_ne (by omega), List.getD_eq_getElem?_getD]
theorem T47_mem (l : List S47) (j : Int) (h0 : 0 ≤ j) (h : j < (l.length : Int)) : rd_T47 l j ∈ l := List.mem_of_mem_drop (by rw [drop_T47 l j h0 h]; exact List.mem_cons_self)
theorem rd_mem (l : List Int) (j : Int) (h0 : 0 ≤ j) (h : j < (l.length : Int)) : rd l j ∈ l := List.mem_of_mem_drop (by rw [drop_rd l j h0 h]; exact List.mem_cons_self)
theorem take_T47 (l : List S47) (j : Int) (h0 : 0 ≤ j) (h : j < (l.length : Int)) : l.take (j + 1).toNat = l.take j.toNat ++ [rd_T47 l j] := by
  rw [show (j + 1).toNat = j.toNat + 1 by omega, List.take_succ_eq_append_getElem (by omega)]
  congr 2
  unfold rd_T47
  rw [List.getD_eq_getElem?_getD, List.getElem?_eq_getElem (by omega)]
  rfl
def RdOk (n : Int) (l : List S47) (u : List (List Int) × List (List Int)) : Prop :=
  (u.1.length : Int) = n ∧ (u.2.length : Int) = n ∧ ∀ i, 0 ≤ i → i < n → rd_L3 u.1 i = bef l i ∧ rd_L3 u.2 i = beh l i
theorem read_l0 {n : Int} {l : List S47} (hn : 0 ≤ n ∧ n ≤ 200) (hl : l.length ≤ 2000) (hok : ∀ p ∈ l, okp n p = true) (d : Nat) : ∀ (j : Int) (x y : List (List Int)), 0 ≤ j → j + d = l.length → RdOk n (l.take j.toNat) (x, y) → EvP (fun f => precedence_read.l0 f l (l.length : Int) j x y) (RdOk n l) := by
  induction d with
  | zero =>
    intro j x y j0 hj h
    rw [show l.take j.toNat = l from List.take_of_length_le (by omega)] at h
    exact EvP.stop (x, y) (fun f => by simp only [precedence_read.l0]; rw [if_neg (by omega)]) h
  | succ d ih =>
    intro j x y j0 hj h
    have hw := wrap_succ j j0 (by omega)
    have ho := (okp_iff _ _).1 (hok _ (T47_mem l j j0 (by omega)))
    have ht := take_T47 l j j0 (by omega)
    generalize hp : rd_T47 l j = p at ho ht
    obtain ⟨h1, h2, h3⟩ := h
    have h4 := h3 p.f0 ho.2.1.1 ho.2.1.2
    have h5 := h3 p.f1 ho.2.2.1 ho.2.2.2
    simp only at h1 h2 h3 h4 h5
    have l1 := bef_len (l.take j.toNat) p.f1
    have l2 := beh_len (l.take j.toNat) p.f0
    have l3 : (l.take j.toNat).length ≤ 2000 := by rw [List.length_take]; omega
    refine EvP.step (fun f => ?_) (ih (j + 1) (x.set p.f1.toNat (rd_L3 x p.f1 ++ [p.f0])) (y.set p.f0.toNat (rd_L3 y p.f0 ++ [p.f1])) (by omega) (by omega) ⟨by rw [List.length_set]; exact h1, by rw [List.length_set]; exact h2, fun i i0 i1 => ?_⟩)
    · simp only [precedence_read.l0]
      rw [hp, if_pos (by omega), if_pos j0, if_pos (by omega), if_pos ho.2.1.1, if_pos (by omega), if_pos (by rw [h4.2]; omega), if_pos ho.2.2.1, if_pos (by omega), if_pos (by rw [h5.1]; omega), hw]
    · rw [ht, bef_snoc, beh_snoc]
      refine ⟨?_, ?_⟩
      · by_cases e : i = p.f1
        · subst e
          rw [if_pos rfl]
          exact (rd3_set_self _ _ _ i0 (by omega)).trans (by rw [h5.1])
        · rw [if_neg (Ne.symm e)]
          exact (rd3_set_ne _ _ _ _ ho.2.2.1 i0 e).trans (h3 i i0 i1).1
      · by_cases e : i = p.f0
        · subst e
          rw [if_pos rfl]
          exact (rd3_set_self _ _ _ i0 (by omega)).trans (by rw [h4.2])
        · rw [if_neg (Ne.symm e)]
          exact (rd3_set_ne _ _ _ _ ho.2.1.1 i0 e).trans (h3 i i0 i1).2
theorem rd3_rep (n : Nat) (i : Int) : rd_L3 (List.replicate n []) i = [] := by
  unfold rd_L3
  rw [List.getD_eq_getElem?_getD, List.getElem?_replicate]
  split <;> rfl
theorem read_ev {n : Int} {l : List S47} (h : vErr n l = 0) : EvP (fun f => precedence_read.f f n l) (RdOk n l) := by
  obtain ⟨h1, h2, h3, h4⟩ := vErr_zero h
  unfold precedence_read.f
  simp only [if_pos h1, if_pos (show n.toNat ≤ 11728124029610 by omega)]
  refine read_l0 ⟨h1, h2⟩ h3 h4 l.length 0 _ _ (by omega) (by omega) ⟨by simp; omega, by simp; omega, fun i i0 i1 => ?_⟩
  rw [show (0 : Int).toNat = 0 from rfl, List.take_zero]
  exact ⟨rd3_rep _ _, rd3_rep _ _⟩

/-! ### The next number -/
def Can (n : Int) (l : List S47) (o : List Int) (i : Int) : Prop := (0 ≤ i ∧ i < n) ∧ ¬ i ∈ o ∧ rdy l o i = true
def Nxt (n : Int) (l : List S47) (o : List Int) (i : Int) : Prop := Can n l o i ∧ ∀ j, j < i → ¬ Can n l o j
theorem least (P : Int → Prop) (h : ∃ i, 0 ≤ i ∧ P i) : ∃ i, (0 ≤ i ∧ P i) ∧ ∀ j, 0 ≤ j → j < i → ¬ P j := by
  obtain ⟨i, i0, hi⟩ := h
  have key : ∀ (m : Nat) (i : Int), 0 ≤ i → i.toNat ≤ m → P i → ∃ i, (0 ≤ i ∧ P i) ∧ ∀ j, 0 ≤ j → j < i → ¬ P j := by
    intro m
    induction m with
    | zero => intro i i0 hm hi; exact ⟨i, ⟨i0, hi⟩, fun j j0 hj => by omega⟩
    | succ m ih =>
      intro i i0 hm hi
      by_cases hx : ∃ j, 0 ≤ j ∧ j < i ∧ P j
      · obtain ⟨j, j0, hj, hp⟩ := hx
        exact ih j j0 (by omega) hp
      · exact ⟨i, ⟨i0, hi⟩, fun j j0 hj hp => hx ⟨j, j0, hj, hp⟩⟩
  exact key i.toNat i i0 (Nat.le_refl _) hi
theorem Nxt.of {n : Int} {l : List S47} {o : List Int} (h : ∃ i, Can n l o i) : ∃ i, Nxt n l o i := by
  obtain ⟨i, hi⟩ := h
  obtain ⟨k, hk, hm⟩ := least (Can n l o) ⟨i, hi.1.1, hi⟩
  exact ⟨k, hk.2, fun j hj hc => hm j hc.1.1 hj hc⟩
/-- A list of numbers of the right kind: each once, and what must come before them stands before them. -/
def Lst (n : Int) (l : List S47) (o : List Int) : Prop := o.Nodup ∧ (∀ x ∈ o, 0 ≤ x ∧ x < n) ∧ Topo (Rl l) o
theorem Lst.snoc {n : Int} {l : List S47} {o : List Int} {i : Int} (h : Lst n l o) (hc : Can n l o i) : Lst n l (o ++ [i]) := by
  obtain ⟨h1, h2, h3⟩ := h
  refine ⟨?_, fun x hx => ?_, fun k x hx j hj => ?_⟩
  · rw [List.nodup_append]
    exact ⟨h1, by simp, fun a ha b hb => by
      rw [List.mem_singleton] at hb
      subst hb
      exact fun e => hc.2.1 (e ▸ ha)⟩
  · rcases List.mem_append.1 hx with hx | hx
    · exact h2 x hx
    · rw [List.mem_singleton] at hx; subst hx; exact hc.1
  · by_cases hk : k < o.length
    · rw [List.getElem?_append_left hk] at hx
      rw [List.take_append_of_le_length (by omega)]
      exact h3 k x hx j hj
    · rw [List.getElem?_append_right (by omega)] at hx
      have hk0 : k - o.length = 0 := by
        rcases Nat.eq_zero_or_pos (k - o.length) with h0 | h0
        · exact h0
        · rw [List.getElem?_eq_none (by simp; omega)] at hx; cases hx
      rw [hk0] at hx
      have hxi : i = x := by simpa using hx
      subst hxi
      rw [show k = o.length by omega, List.take_append_of_le_length (Nat.le_refl _), List.take_length]
      exact (rdy_iff _ _ _).1 hc.2.2 j hj
theorem Lst.nil (n : Int) (l : List S47) : Lst n l [] := ⟨by simp, by simp, fun i x hx => by simp at hx⟩
theorem Lst.len {n : Int} {l : List S47} {o : List Int} (h : Lst n l o) (hn : 0 ≤ n) : (o.length : Int) ≤ n := by
  have := pig n.toNat o h.1 (fun x hx => by have := h.2.1 x hx; omega)
  omega
/-! ### The reference's order -/
end Go.Proofs.Ytbbkclcfmcjlgaa.B
