import Derived.Test.YtbbkclcfmcjlgaaT3M21
import Derived.Test.YtbbkclcfmcjlgaaT3Px35
import Derived.Test.YtbbkclcfmcjlgaaT3M27
import Derived.Test.YtbbkclcfmcjlgaaT3M23
import Derived.Test.YtbbkclcfmcjlgaaT3M26
import Derived.Test.YtbbkclcfmcjlgaaT3Px32
import Derived.Test.YtbbkclcfmcjlgaaT3GRead
import Derived.Deep.DeepMust
-- PRINTED by print.py (a twelfth state) out of the translation. Not trusted: Lean checks it.

namespace Go.Proofs.Ytbbkclcfmcjlgaa.P
open Go.RowKit Go.Proofs.YtbbkclcfmcjlgaaW.PrintWords Go.Proofs.YtbbkclcfmcjlgaaW.PrintLast Go.Proofs.YtbbkclcfmcjlgaaW.PrintMore
attribute [local go_sem] max2_int min2_int max_two min_two max_three min_three max_four min_four   -- for this text's walks alone
set_option linter.unusedVariables false
set_option linter.unusedSimpArgs false

/-! ### swarfref29_Cyclic: function 23 -/
def swarfref29_Cyclic.l0 : Nat → Int → List (List Bool) → Int → Option (Bool)
 | 0, _, _, _ => none
 | k + 1, x0, x5, x6 => if x6 < x0 then (if 0 ≤ x6 then (if x6 < (x5.length : Int) then (if x6 < ((rd_L7 x5 x6).length : Int) then (if rdOf false (rd_L7 x5 x6) x6 = true then (some true) else (swarfref29_Cyclic.l0 k x0 x5 (wrap64 (x6 + 1)))) else (none)) else (none)) else (none)) else (some false)
def swarfref29_Cyclic.f (k : Nat) (a0 : Int) (l1 : List (S47)) : Option (Bool) := (swarfref29_Depends.f k a0 l1).bind fun t307 => (swarfref29_Cyclic.l0 k a0 t307 0)
theorem swarfref29_Cyclic.mono_l : ∀ k, (∀ y0 y1 y2, LeO (swarfref29_Cyclic.l0 k y0 y1 y2) (swarfref29_Cyclic.l0 (k + 1) y0 y1 y2))
 | 0 => fun _ _ _ r h => by simp [swarfref29_Cyclic.l0] at h
 | k + 1 => by
  have ih0 := swarfref29_Cyclic.mono_l k
  ·intro y0 y1 y2
   unfold swarfref29_Cyclic.l0
   repeat' first
   | (with_reducible exact ih0 _ _ _)
   | (with_reducible exact swarfref29_Depends.mono _ _ _)
   | (with_reducible exact LeO.refl _)
   | (with_reducible exact LeO.none _)
   | (with_reducible refine LeO.ite ?_ ?_)
   | (with_reducible refine LeO.bind ?_ (fun _ => ?_))
   | exact ih0 _ _ _
   | exact swarfref29_Depends.mono _ _ _
   | exact LeO.none _
   | refine LeO.ite ?_ ?_
   | refine LeO.bind ?_ (fun _ => ?_)
theorem swarfref29_Cyclic.mono : ∀ a0 a1 k, LeO (swarfref29_Cyclic.f k a0 a1) (swarfref29_Cyclic.f (k + 1) a0 a1) := by
 intro a0 a1 k
 have ih0 := swarfref29_Cyclic.mono_l k
 unfold swarfref29_Cyclic.f
 repeat' first
   | (with_reducible exact ih0 _ _ _)
   | (with_reducible exact swarfref29_Depends.mono _ _ _)
   | (with_reducible exact LeO.refl _)
   | (with_reducible exact LeO.none _)
   | (with_reducible refine LeO.ite ?_ ?_)
   | (with_reducible refine LeO.bind ?_ (fun _ => ?_))
   | exact ih0 _ _ _
   | exact swarfref29_Depends.mono _ _ _
   | exact LeO.none _
   | refine LeO.ite ?_ ?_
   | refine LeO.bind ?_ (fun _ => ?_)
set_option maxHeartbeats 8000000 in
set_option maxRecDepth 100000 in
theorem swarfref29_Cyclic.calls (k : Nat) (a0 : Int) (A1 : Option Addr) (c1 : Nat) (l1 : List (S47)) (r : Bool) (w : World) (hr1 : Kd.C k47 w A1 l1.length l1) (hc1 : l1.length ≤ c1) (h : swarfref29_Cyclic.f k a0 l1 = some r) :
  Calls Try.prog 23 #[.int .i64 a0, .slice A1 l1.length c1] w fun e w' => e = .returned (.bool r) ∧ Below w.heap.size w w' := by
 have HR1 := Aside0.mk hr1
 have HC1 := Aside0.mk hc1
 clear hr1 hc1
 have HB := Aside0.mk (Below.refl w.heap.size w)
 have H : ((swarfref29_Depends.f k a0 l1).bind fun t307 => (swarfref29_Cyclic.l0 k a0 t307 0)) = some r := h
 clear h
 replace H := Option.bind_eq_some_iff.mp H
 obtain ⟨t307, A30, H⟩ := H
 replace H : (swarfref29_Cyclic.l0 k a0 t307 0) = some r := H
 have A3 := Aside0.mk A30
 clear A30
 have H' := Aside0.mk H
 clear H
 go_enter Try.func23, Try.ntmps23
 go_wp2_with (first | ((with_reducible refine gate_callee (f := 44) rfl ?_); refine goesL_ (some 9) rfl rfl Try.func44 (by kernel_rfl) rfl #[.int .i64 a0, .slice A1 l1.length c1] rfl (by (try simp only [List.map_toArray, List.map_cons, List.map_nil]); first | done | rfl | (simp only [List.length_drop, List.length_take]; rfl)) ?_; (with_reducible refine (swarfref29_Depends.calls k a0 _ _ l1 t307 _ ?side1 ?side2 A3.out).mono ?_); (case side1 => repeat (first | exact HR1.out | (with_reducible refine Kd.C_alloc ?_ _) | (with_reducible refine Kd.C_drewN ?_ _) | (with_reducible refine Kd.C_drew ?_))); (case side2 => exact HC1.out); rintro e w4 ⟨v308, rfl, ho0, hb⟩; refine ⟨_, rfl, ?_⟩; have n0_ := Aside0.mk (Kd.S_lower ho0 (below_size (by repeat (first | (with_reducible first | exact HB.out | apply below_alloc | apply pw_below_drewN | apply below_drew1) | exact HB.out)))); have n1_ := Aside0.mk (below_step (by repeat (first | (with_reducible first | exact HB.out | apply below_alloc | apply pw_below_drewN | apply below_drew1) | exact HB.out)) hb); clear HB; have HO309 := n0_; have HB := n1_; clear n0_ n1_; (try clear hb); (try clear hb2); (try clear hk); (try clear hi); (try clear ho0)))
 go_loopg [6] k (fun kq v6 w' => ∃ (x6_1 : Int), v6 = .int .i64 x6_1 ∧ Aside0 (swarfref29_Cyclic.l0 kq a0 t307 x6_1 = some r) ∧ Aside0 (kq ≤ k) ∧ Aside0 (Kd.S (Kd.slice 4 Kd.bool) 52 w' w.heap.size (fun _ => True) v308 t307) ∧ Aside0 (Below w.heap.size w w'))
 case atStart => exact ⟨(0), (by first | rfl | (simp; done) | (simp [*]; done)), H', ⟨Nat.le_refl _⟩, ⟨by (with_reducible repeat (first | apply Kd.S_alloc | apply Kd.S_drewN | apply Kd.S_drew)); exact HO309.out⟩, ⟨by repeat (first | (with_reducible first | exact HB.out | apply below_alloc | apply pw_below_drewN | apply below_drew1) | exact HB.out)⟩⟩
 case round =>
  clear H'; try clear c1; try clear c2; try clear p2; try clear c4
  obtain ⟨x6_1, rfl, HA, HK1, HO_5, HB⟩ := hrel
  cases gk with
  | zero => exact absurd HA.out (by simp [swarfref29_Cyclic.l0])
  | succ k1 =>
   have H := HA.out
   clear HA
   simp only [swarfref29_Cyclic.l0] at H
   by_cases c5 : x6_1 < a0
   ·rw [if_pos c5] at H
    have c5b0 : decide (x6_1 < a0) = true := decide_eq_true c5
    clear c5
    by_cases c6 : 0 ≤ x6_1
    ·rw [if_pos c6] at H
     have c6b0 : decide (0 ≤ x6_1) = true := decide_eq_true c6
     clear c6
     by_cases c7 : x6_1 < (t307.length : Int)
     ·rw [if_pos c7] at H
      have c7b0 : decide (x6_1 < (t307.length : Int)) = true := decide_eq_true c7
      clear c7
      by_cases c8 : x6_1 < ((rd_L7 t307 x6_1).length : Int)
      ·rw [if_pos c8] at H
       have c8b0 : decide (x6_1 < ((rd_L7 t307 x6_1).length : Int)) = true := decide_eq_true c8
       clear c8
       obtain ⟨bq9, hbq9⟩ : ∃ b_ : Bool, b_ = (rdOf false (rd_L7 t307 x6_1) x6_1) := ⟨_, rfl⟩
       replace H : (if bq9 = true then (some true) else (swarfref29_Cyclic.l0 k1 a0 t307 (wrap64 (x6_1 + 1)))) = some r := by rw [← hbq9] at H; exact H
       have Nbq9 := Aside0.mk hbq9; clear hbq9
       by_cases c10 : bq9 = true
       ·subst c10
        have H1 : (some true) = some r := by rw [if_pos rfl] at H; exact H
        clear H; have H := H1; clear H1; obtain rfl := Option.some.inj H
        obtain ⟨Ao11, co11, eo11⟩ := Kd.S_slice HO_5.out
        subst eo11
        have p310 : 0 ≤ (x6_1 : Int) := of_decide_eq_true (by first | (with_reducible assumption) | assumption)
        have q310 : x6_1 < (t307.length : Int) := of_decide_eq_true (by first | (with_reducible assumption) | assumption)
        obtain ⟨ad310, A310_0, c310_0, e310, hx310_0, hl310_0, hi310_0⟩ := at_L7 (Kd.S_reads' HO_5.out).2.2 x6_1 p310 q310
        cases e310
        obtain ⟨ce310, hce310, hMe310, hcc310⟩ := Kd.S_get HO_5.out [] x6_1 p310 (by first | exact q310 | exact of_decide_eq_true (by first | (with_reducible assumption) | assumption) | (have e_ := (Kd.S_reads' HO_5.out).1; omega))
        obtain ⟨ve310_0, rfl, ge310_0⟩ := hMe310
        have hv310_0 := hcc310 0 _ rfl
        rw [Nat.add_zero, show ((Kd.slice 4 Kd.bool)).sz = 1 from rfl, Nat.mul_one] at hv310_0
        replace hv310_0 := Option.some.inj (hv310_0.symm.trans hx310_0)
        rw [hv310_0] at ge310_0
        have HL310_0 := Aside0.mk (show Kd.R Kd.bool 4 _ _ _ _ (rd_L7 t307 x6_1) from ge310_0)
        clear hv310_0 ge310_0; clear hcc310 hce310; have HR310_0 := Aside0.mk hi310_0; have HC310_0 := Aside0.mk hl310_0; clear hi310_0 hl310_0; replace p310 := eq_true p310; replace q310 := eq_true q310
        have p311 : 0 ≤ (x6_1 : Int) := of_decide_eq_true (by first | (with_reducible assumption) | assumption)
        have q311 : x6_1 < ((rd_L7 t307 x6_1).length : Int) := of_decide_eq_true (by first | (with_reducible assumption) | assumption)
        obtain ⟨ad311, e311, hx311_0⟩ := Kd.at_bool (by repeat (first | (with_reducible exact HR310_0.out) | (with_reducible refine Kd.C_alloc ?_ _) | (with_reducible refine Kd.C_drewN ?_ _) | (with_reducible refine Kd.C_drew ?_) | exact HR310_0.out)) x6_1 p311 q311
        (try rw [← Nbq9.out] at hx311_0)
        cases e311; replace p311 := eq_true p311; replace q311 := eq_true q311; go_wp2; go_ret
        exact ⟨by first | rfl | (simp [errW_none, errW_some] <;> rfl) | (simp [*, errW_none, errW_some] <;> rfl), by repeat (first | (with_reducible first | exact HB.out | apply below_alloc | apply pw_below_drewN | apply below_drew1) | exact HB.out)⟩
       ·replace c10 := Bool.eq_false_iff.mpr c10
        subst c10
        have H1 : (swarfref29_Cyclic.l0 k1 a0 t307 (wrap64 (x6_1 + 1))) = some r := by rw [if_neg (show ¬ (false = true) by decide)] at H; exact H
        clear H; have H := H1; clear H1; have H' := Aside0.mk H; clear H
        obtain ⟨Ao12, co12, eo12⟩ := Kd.S_slice HO_5.out
        subst eo12
        have p310 : 0 ≤ (x6_1 : Int) := of_decide_eq_true (by first | (with_reducible assumption) | assumption)
        have q310 : x6_1 < (t307.length : Int) := of_decide_eq_true (by first | (with_reducible assumption) | assumption)
        obtain ⟨ad310, A310_0, c310_0, e310, hx310_0, hl310_0, hi310_0⟩ := at_L7 (Kd.S_reads' HO_5.out).2.2 x6_1 p310 q310
        cases e310
        obtain ⟨ce310, hce310, hMe310, hcc310⟩ := Kd.S_get HO_5.out [] x6_1 p310 (by first | exact q310 | exact of_decide_eq_true (by first | (with_reducible assumption) | assumption) | (have e_ := (Kd.S_reads' HO_5.out).1; omega))
        obtain ⟨ve310_0, rfl, ge310_0⟩ := hMe310
        have hv310_0 := hcc310 0 _ rfl
        rw [Nat.add_zero, show ((Kd.slice 4 Kd.bool)).sz = 1 from rfl, Nat.mul_one] at hv310_0
        replace hv310_0 := Option.some.inj (hv310_0.symm.trans hx310_0)
        rw [hv310_0] at ge310_0
        have HL310_0 := Aside0.mk (show Kd.R Kd.bool 4 _ _ _ _ (rd_L7 t307 x6_1) from ge310_0)
        clear hv310_0 ge310_0; clear hcc310 hce310; have HR310_0 := Aside0.mk hi310_0; have HC310_0 := Aside0.mk hl310_0; clear hi310_0 hl310_0; replace p310 := eq_true p310; replace q310 := eq_true q310
        have p311 : 0 ≤ (x6_1 : Int) := of_decide_eq_true (by first | (with_reducible assumption) | assumption)
        have q311 : x6_1 < ((rd_L7 t307 x6_1).length : Int) := of_decide_eq_true (by first | (with_reducible assumption) | assumption)
        obtain ⟨ad311, e311, hx311_0⟩ := Kd.at_bool (by repeat (first | (with_reducible exact HR310_0.out) | (with_reducible refine Kd.C_alloc ?_ _) | (with_reducible refine Kd.C_drewN ?_ _) | (with_reducible refine Kd.C_drew ?_) | exact HR310_0.out)) x6_1 p311 q311
        (try rw [← Nbq9.out] at hx311_0)
        cases e311; replace p311 := eq_true p311; replace q311 := eq_true q311; go_wp2
        go_roundg k1
        case measure => have := HK1.out; omega
        case rel => exact ⟨(wrap64 (x6_1 + 1)), (by first | rfl | (simp; done) | (simp [*]; done)), H', ⟨by have := HK1.out; omega⟩, ⟨by (with_reducible repeat (first | apply Kd.S_alloc | apply Kd.S_drewN | apply Kd.S_drew)); exact HO_5.out⟩, ⟨by repeat (first | (with_reducible first | exact HB.out | apply below_alloc | apply pw_below_drewN | apply below_drew1) | exact HB.out)⟩⟩
      ·rw [if_neg c8] at H
       exact absurd H (by simp)
     ·rw [if_neg c7] at H
      exact absurd H (by simp)
    ·rw [if_neg c6] at H
     exact absurd H (by simp)
   ·rw [if_neg c5] at H
    have c5b0 : decide (x6_1 < a0) = false := decide_eq_false c5
    clear c5; obtain rfl := Option.some.inj H; go_wp2; go_ret
    exact ⟨by first | rfl | (simp [errW_none, errW_some] <;> rfl) | (simp [*, errW_none, errW_some] <;> rfl), by repeat (first | (with_reducible first | exact HB.out | apply below_alloc | apply pw_below_drewN | apply below_drew1) | exact HB.out)⟩

end Go.Proofs.Ytbbkclcfmcjlgaa.P

-- PRINTED by print.py (a twelfth state) out of the translation. Not trusted: Lean checks it.

namespace Go.Proofs.Ytbbkclcfmcjlgaa.P
open Go.RowKit Go.Proofs.YtbbkclcfmcjlgaaW.PrintWords Go.Proofs.YtbbkclcfmcjlgaaW.PrintLast Go.Proofs.YtbbkclcfmcjlgaaW.PrintMore
attribute [local go_sem] max2_int min2_int max_two min_two max_three min_three max_four min_four   -- for this text's walks alone
set_option linter.unusedVariables false
set_option linter.unusedSimpArgs false

/-! ### swarfref29_fault: function 47 -/
def swarfref29_fault.f (k : Nat) (a0 : Int) (l1 : List (S47)) : Option (Int) := (swarfref29_Valid.f k a0 l1).bind fun t325 => (if t325 = 0 then ((swarfref29_Cyclic.f k a0 l1).bind fun t326 => (if t326 = true then (some 12) else (some 0))) else (some t325))
theorem swarfref29_fault.mono : ∀ a0 a1 k, LeO (swarfref29_fault.f k a0 a1) (swarfref29_fault.f (k + 1) a0 a1) := by
 intro a0 a1 k
 unfold swarfref29_fault.f
 repeat' first
   | (with_reducible exact swarfref29_Cyclic.mono _ _ _)
   | (with_reducible exact swarfref29_Valid.mono _ _ _)
   | (with_reducible exact LeO.refl _)
   | (with_reducible exact LeO.none _)
   | (with_reducible refine LeO.ite ?_ ?_)
   | (with_reducible refine LeO.bind ?_ (fun _ => ?_))
   | exact swarfref29_Cyclic.mono _ _ _
   | exact swarfref29_Valid.mono _ _ _
   | exact LeO.none _
   | refine LeO.ite ?_ ?_
   | refine LeO.bind ?_ (fun _ => ?_)
set_option maxHeartbeats 8000000 in
set_option maxRecDepth 100000 in
theorem swarfref29_fault.calls (k : Nat) (a0 : Int) (A1 : Option Addr) (c1 : Nat) (l1 : List (S47)) (r : Int) (w : World) (hr1 : Kd.C k47 w A1 l1.length l1) (hc1 : l1.length ≤ c1) (h : swarfref29_fault.f k a0 l1 = some r) :
  Calls Try.prog 47 #[.int .i64 a0, .slice A1 l1.length c1] w fun e w' => e = .returned (.int .i64 r) ∧ Below w.heap.size w w' := by
 have HR1 := Aside0.mk hr1
 have HC1 := Aside0.mk hc1
 clear hr1 hc1
 have HB := Aside0.mk (Below.refl w.heap.size w)
 have H : ((swarfref29_Valid.f k a0 l1).bind fun t325 => (if t325 = 0 then ((swarfref29_Cyclic.f k a0 l1).bind fun t326 => (if t326 = true then (some 12) else (some 0))) else (some t325))) = some r := h
 clear h
 replace H := Option.bind_eq_some_iff.mp H
 obtain ⟨t325, A30, H⟩ := H
 replace H : (if t325 = 0 then ((swarfref29_Cyclic.f k a0 l1).bind fun t326 => (if t326 = true then (some 12) else (some 0))) else (some t325)) = some r := H
 have A3 := Aside0.mk A30
 clear A30
 by_cases c4 : t325 = 0
 ·rw [if_pos c4] at H
  have c4b0 : (t325 == 0) = true := beq_iff_eq.mpr c4
  have c4b1 : (t325 != 0) = false := bne_eq_false_iff_eq.mpr c4
  clear c4; replace H := Option.bind_eq_some_iff.mp H
  obtain ⟨t326, A50, H⟩ := H
  replace H : (if t326 = true then (some 12) else (some 0)) = some r := H
  have A5 := Aside0.mk A50; clear A50
  by_cases c6 : t326 = true
  ·subst c6
   have H1 : (some 12) = some r := by rw [if_pos rfl] at H; exact H
   clear H; have H := H1; clear H1; obtain rfl := Option.some.inj H
   go_enter Try.func47, Try.ntmps47
   go_wp2_with (first | ((with_reducible refine gate_callee (f := 21) rfl ?_); refine goesL_ (some 8) rfl rfl Try.func21 (by kernel_rfl) rfl #[.int .i64 a0, .slice A1 l1.length c1] rfl (by (try simp only [List.map_toArray, List.map_cons, List.map_nil]); first | done | rfl | (simp only [List.length_drop, List.length_take]; rfl)) ?_; (with_reducible refine (swarfref29_Valid.calls k a0 _ _ l1 t325 _ ?side1 ?side2 A3.out).mono ?_); (case side1 => repeat (first | exact HR1.out | (with_reducible refine Kd.C_alloc ?_ _) | (with_reducible refine Kd.C_drewN ?_ _) | (with_reducible refine Kd.C_drew ?_))); (case side2 => exact HC1.out); rintro e w' ⟨rfl, ⟨nd, rfl⟩⟩; refine ⟨_, rfl, ?_⟩) | ((with_reducible refine gate_callee (f := 23) rfl ?_); refine goesL_ (some 14) rfl rfl Try.func23 (by kernel_rfl) rfl #[.int .i64 a0, .slice A1 l1.length c1] rfl (by (try simp only [List.map_toArray, List.map_cons, List.map_nil]); first | done | rfl | (simp only [List.length_drop, List.length_take]; rfl)) ?_; (with_reducible refine (swarfref29_Cyclic.calls k a0 _ _ l1 true _ ?side1 ?side2 A5.out).mono ?_); (case side1 => repeat (first | exact HR1.out | (with_reducible refine Kd.C_alloc ?_ _) | (with_reducible refine Kd.C_drewN ?_ _) | (with_reducible refine Kd.C_drew ?_))); (case side2 => exact HC1.out); rintro e w7 ⟨rfl, hb⟩; refine ⟨_, rfl, ?_⟩; have n0_ := Aside0.mk (below_step (by repeat (first | (with_reducible first | exact HB.out | apply below_alloc | apply pw_below_drewN | apply below_drew1) | exact HB.out)) hb); clear HB; have HB := n0_; clear n0_; (try clear hb); (try clear hb2); (try clear hk); (try clear hi)))
   go_ret
   exact ⟨by first | rfl | (simp [errW_none, errW_some] <;> rfl) | (simp [*, errW_none, errW_some] <;> rfl), by repeat (first | (with_reducible first | exact HB.out | apply below_alloc | apply pw_below_drewN | apply below_drew1) | exact HB.out)⟩
  ·replace c6 := Bool.eq_false_iff.mpr c6
   subst c6
   have H1 : (some 0) = some r := by rw [if_neg (show ¬ (false = true) by decide)] at H; exact H
   clear H; have H := H1; clear H1; obtain rfl := Option.some.inj H
   go_enter Try.func47, Try.ntmps47
   go_wp2_with (first | ((with_reducible refine gate_callee (f := 21) rfl ?_); refine goesL_ (some 8) rfl rfl Try.func21 (by kernel_rfl) rfl #[.int .i64 a0, .slice A1 l1.length c1] rfl (by (try simp only [List.map_toArray, List.map_cons, List.map_nil]); first | done | rfl | (simp only [List.length_drop, List.length_take]; rfl)) ?_; (with_reducible refine (swarfref29_Valid.calls k a0 _ _ l1 t325 _ ?side1 ?side2 A3.out).mono ?_); (case side1 => repeat (first | exact HR1.out | (with_reducible refine Kd.C_alloc ?_ _) | (with_reducible refine Kd.C_drewN ?_ _) | (with_reducible refine Kd.C_drew ?_))); (case side2 => exact HC1.out); rintro e w' ⟨rfl, ⟨nd, rfl⟩⟩; refine ⟨_, rfl, ?_⟩) | ((with_reducible refine gate_callee (f := 23) rfl ?_); refine goesL_ (some 14) rfl rfl Try.func23 (by kernel_rfl) rfl #[.int .i64 a0, .slice A1 l1.length c1] rfl (by (try simp only [List.map_toArray, List.map_cons, List.map_nil]); first | done | rfl | (simp only [List.length_drop, List.length_take]; rfl)) ?_; (with_reducible refine (swarfref29_Cyclic.calls k a0 _ _ l1 false _ ?side1 ?side2 A5.out).mono ?_); (case side1 => repeat (first | exact HR1.out | (with_reducible refine Kd.C_alloc ?_ _) | (with_reducible refine Kd.C_drewN ?_ _) | (with_reducible refine Kd.C_drew ?_))); (case side2 => exact HC1.out); rintro e w8 ⟨rfl, hb⟩; refine ⟨_, rfl, ?_⟩; have n0_ := Aside0.mk (below_step (by repeat (first | (with_reducible first | exact HB.out | apply below_alloc | apply pw_below_drewN | apply below_drew1) | exact HB.out)) hb); clear HB; have HB := n0_; clear n0_; (try clear hb); (try clear hb2); (try clear hk); (try clear hi)))
   go_ret
   exact ⟨by first | rfl | (simp [errW_none, errW_some] <;> rfl) | (simp [*, errW_none, errW_some] <;> rfl), by repeat (first | (with_reducible first | exact HB.out | apply below_alloc | apply pw_below_drewN | apply below_drew1) | exact HB.out)⟩
 ·rw [if_neg c4] at H
  have c4b0 : (t325 == 0) = false := beq_eq_false_iff_ne.mpr c4
  have c4b1 : (t325 != 0) = true := bne_iff_ne.mpr c4
  obtain rfl := Option.some.inj H
  go_enter Try.func47, Try.ntmps47
  go_wp2_with (first | ((with_reducible refine gate_callee (f := 21) rfl ?_); refine goesL_ (some 8) rfl rfl Try.func21 (by kernel_rfl) rfl #[.int .i64 a0, .slice A1 l1.length c1] rfl (by (try simp only [List.map_toArray, List.map_cons, List.map_nil]); first | done | rfl | (simp only [List.length_drop, List.length_take]; rfl)) ?_; (with_reducible refine (swarfref29_Valid.calls k a0 _ _ l1 t325 _ ?side1 ?side2 A3.out).mono ?_); (case side1 => repeat (first | exact HR1.out | (with_reducible refine Kd.C_alloc ?_ _) | (with_reducible refine Kd.C_drewN ?_ _) | (with_reducible refine Kd.C_drew ?_))); (case side2 => exact HC1.out); rintro e w' ⟨rfl, ⟨nd, rfl⟩⟩; refine ⟨_, rfl, ?_⟩))
  go_ret
  exact ⟨by first | rfl | (simp [errW_none, errW_some] <;> rfl) | (simp [*, errW_none, errW_some] <;> rfl), by repeat (first | (with_reducible first | exact HB.out | apply below_alloc | apply pw_below_drewN | apply below_drew1) | exact HB.out)⟩

end Go.Proofs.Ytbbkclcfmcjlgaa.P

-- PRINTED by print.py (a twelfth state) out of the translation. Not trusted: Lean checks it.

namespace Go.Proofs.Ytbbkclcfmcjlgaa.P
open Go.RowKit Go.Proofs.YtbbkclcfmcjlgaaW.PrintWords Go.Proofs.YtbbkclcfmcjlgaaW.PrintLast Go.Proofs.YtbbkclcfmcjlgaaW.PrintMore
attribute [local go_sem] max2_int min2_int max_two min_two max_three min_three max_four min_four   -- for this text's walks alone
set_option linter.unusedVariables false
set_option linter.unusedSimpArgs false

/-! ### swarfref29_Order: function 26 -/
mutual
def swarfref29_Order.l0 : Nat → Int → List (S47) → List Int → Option (List Int × Int)
 | 0, _, _, _ => none
 | k + 1, x0, x1, x7 => if (x7.length : Int) < x0 then (swarfref29_Order.l1 k x0 x1 x7 0) else (some (x7, 0))
def swarfref29_Order.l1 : Nat → Int → List (S47) → List Int → Int → Option (List Int × Int)
 | 0, _, _, _, _ => none
 | k + 1, x0, x1, x7, x8 => (swarfref29_in.f k x7 x8).bind fun t328 => (if t328 = true then (swarfref29_Order.l1 k x0 x1 x7 (wrap64 (x8 + 1))) else ((swarfref29_ready.f k x1 x7 x8).bind fun t329 => (if t329 = true then (if x7.length < 17592186044416 then (swarfref29_Order.l0 k x0 x1 (x7 ++ [x8])) else (none)) else (swarfref29_Order.l1 k x0 x1 x7 (wrap64 (x8 + 1))))))
end
def swarfref29_Order.f (k : Nat) (a0 : Int) (l1 : List (S47)) : Option (List Int × Int) := (swarfref29_fault.f k a0 l1).bind fun t327 => (if t327 = 0 then (swarfref29_Order.l0 k a0 l1 ([] : List Int)) else (some (([] : List Int), t327)))
theorem swarfref29_Order.mono_l : ∀ k, (∀ y0 y1 y2, LeO (swarfref29_Order.l0 k y0 y1 y2) (swarfref29_Order.l0 (k + 1) y0 y1 y2)) ∧ (∀ y0 y1 y2 y3, LeO (swarfref29_Order.l1 k y0 y1 y2 y3) (swarfref29_Order.l1 (k + 1) y0 y1 y2 y3))
 | 0 => ⟨fun _ _ _ r h => by simp [swarfref29_Order.l0] at h, fun _ _ _ _ r h => by simp [swarfref29_Order.l1] at h⟩
 | k + 1 => by
  obtain ⟨ih0, ih1⟩ := swarfref29_Order.mono_l k
  refine ⟨?_, ?_⟩
  ·intro y0 y1 y2
   unfold swarfref29_Order.l0
   repeat' first
   | (with_reducible exact ih0 _ _ _)
   | (with_reducible exact ih1 _ _ _ _)
   | (with_reducible exact swarfref29_fault.mono _ _ _)
   | (with_reducible exact swarfref29_in.mono _ _ _)
   | (with_reducible exact swarfref29_ready.mono _ _ _ _)
   | (with_reducible exact LeO.refl _)
   | (with_reducible exact LeO.none _)
   | (with_reducible refine LeO.ite ?_ ?_)
   | (with_reducible refine LeO.bind ?_ (fun _ => ?_))
   | exact ih0 _ _ _
   | exact ih1 _ _ _ _
   | exact swarfref29_fault.mono _ _ _
   | exact swarfref29_in.mono _ _ _
   | exact swarfref29_ready.mono _ _ _ _
   | exact LeO.none _
   | refine LeO.ite ?_ ?_
   | refine LeO.bind ?_ (fun _ => ?_)
  ·intro y0 y1 y2 y3
   unfold swarfref29_Order.l1
   repeat' first
   | (with_reducible exact ih0 _ _ _)
   | (with_reducible exact ih1 _ _ _ _)
   | (with_reducible exact swarfref29_fault.mono _ _ _)
   | (with_reducible exact swarfref29_in.mono _ _ _)
   | (with_reducible exact swarfref29_ready.mono _ _ _ _)
   | (with_reducible exact LeO.refl _)
   | (with_reducible exact LeO.none _)
   | (with_reducible refine LeO.ite ?_ ?_)
   | (with_reducible refine LeO.bind ?_ (fun _ => ?_))
   | exact ih0 _ _ _
   | exact ih1 _ _ _ _
   | exact swarfref29_fault.mono _ _ _
   | exact swarfref29_in.mono _ _ _
   | exact swarfref29_ready.mono _ _ _ _
   | exact LeO.none _
   | refine LeO.ite ?_ ?_
   | refine LeO.bind ?_ (fun _ => ?_)
theorem swarfref29_Order.mono : ∀ a0 a1 k, LeO (swarfref29_Order.f k a0 a1) (swarfref29_Order.f (k + 1) a0 a1) := by
 intro a0 a1 k
 obtain ⟨ih0, ih1⟩ := swarfref29_Order.mono_l k
 unfold swarfref29_Order.f
 repeat' first
   | (with_reducible exact ih0 _ _ _)
   | (with_reducible exact ih1 _ _ _ _)
   | (with_reducible exact swarfref29_fault.mono _ _ _)
   | (with_reducible exact swarfref29_in.mono _ _ _)
   | (with_reducible exact swarfref29_ready.mono _ _ _ _)
   | (with_reducible exact LeO.refl _)
   | (with_reducible exact LeO.none _)
   | (with_reducible refine LeO.ite ?_ ?_)
   | (with_reducible refine LeO.bind ?_ (fun _ => ?_))
   | exact ih0 _ _ _
   | exact ih1 _ _ _ _
   | exact swarfref29_fault.mono _ _ _
   | exact swarfref29_in.mono _ _ _
   | exact swarfref29_ready.mono _ _ _ _
   | exact LeO.none _
   | refine LeO.ite ?_ ?_
   | refine LeO.bind ?_ (fun _ => ?_)
set_option maxHeartbeats 8000000 in
set_option maxRecDepth 100000 in
theorem swarfref29_Order.calls (k : Nat) (a0 : Int) (A1 : Option Addr) (c1 : Nat) (l1 : List (S47)) (r1 : List Int) (r2 : Int) (w : World) (hr1 : Kd.C k47 w A1 l1.length l1) (hc1 : l1.length ≤ c1) (h : swarfref29_Order.f k a0 l1 = some (r1, r2)) :
  Calls Try.prog 26 #[.int .i64 a0, .slice A1 l1.length c1] w fun e w' => ∃ v0_ : Value, e = .returned (.tuple #[v0_, .int .i64 r2]) ∧ Kd.R (Kd.int .i64) 3 w' w.heap.size (fun _ => True) v0_ r1 ∧ Below w.heap.size w w' := by
 have HR1 := Aside0.mk hr1
 have HC1 := Aside0.mk hc1
 clear hr1 hc1
 have HB := Aside0.mk (Below.refl w.heap.size w)
 have H : ((swarfref29_fault.f k a0 l1).bind fun t327 => (if t327 = 0 then (swarfref29_Order.l0 k a0 l1 ([] : List Int)) else (some (([] : List Int), t327)))) = some (r1, r2) := h
 clear h
 replace H := Option.bind_eq_some_iff.mp H
 obtain ⟨t327, A30, H⟩ := H
 replace H : (if t327 = 0 then (swarfref29_Order.l0 k a0 l1 ([] : List Int)) else (some (([] : List Int), t327))) = some (r1, r2) := H
 have A3 := Aside0.mk A30
 clear A30
 by_cases c4 : t327 = 0
 ·rw [if_pos c4] at H
  have c4b0 : (t327 == 0) = true := beq_iff_eq.mpr c4
  have c4b1 : (t327 != 0) = false := bne_eq_false_iff_eq.mpr c4
  clear c4; have H' := Aside0.mk H; clear H
  go_enter Try.func26, Try.ntmps26
  go_wp2_with (first | ((with_reducible refine gate_callee (f := 47) rfl ?_); refine goesL_ (some 11) rfl rfl Try.func47 (by kernel_rfl) rfl #[.int .i64 a0, .slice A1 l1.length c1] rfl (by (try simp only [List.map_toArray, List.map_cons, List.map_nil]); first | done | rfl | (simp only [List.length_drop, List.length_take]; rfl)) ?_; (with_reducible refine (swarfref29_fault.calls k a0 _ _ l1 t327 _ ?side1 ?side2 A3.out).mono ?_); (case side1 => repeat (first | exact HR1.out | (with_reducible refine Kd.C_alloc ?_ _) | (with_reducible refine Kd.C_drewN ?_ _) | (with_reducible refine Kd.C_drew ?_))); (case side2 => exact HC1.out); rintro e w5 ⟨rfl, hb⟩; refine ⟨_, rfl, ?_⟩; have n0_ := Aside0.mk (below_step (by repeat (first | (with_reducible first | exact HB.out | apply below_alloc | apply pw_below_drewN | apply below_drew1) | exact HB.out)) hb); clear HB; have HB := n0_; clear n0_; (try clear hb); (try clear hb2); (try clear hk); (try clear hi)))
  go_loopg [7] k (fun kq v7 w' => ∃ (x7_1 : List Int), Aside0 (swarfref29_Order.l0 kq a0 l1 x7_1 = some (r1, r2)) ∧ Aside0 (kq ≤ k) ∧ Aside0 (Kd.R (Kd.int .i64) 3 w' w.heap.size (fun _ => True) v7 x7_1) ∧ Aside0 (Below w.heap.size w w'))
  case atStart => exact ⟨(([] : List Int)), H', ⟨Nat.le_refl _⟩, ⟨by first | exact Kd.R_nil _ _ _ _ _ | exact Kd.N_nil _ _ _ _ _ | exact Kd.V_nil _ _ _ _ _ | exact Kd.Q_nil _ _ _ _ _ | exact Kd.S_nil _ _ _ _ _⟩, ⟨by repeat (first | (with_reducible first | exact HB.out | apply below_alloc | apply pw_below_drewN | apply below_drew1) | exact HB.out)⟩⟩
  case round =>
   clear H'; try clear c1; try clear c2; try clear p2; try clear c4; try clear c4b0; try clear c4b1
   obtain ⟨x7_1, HA, HK1, HO_7, HB⟩ := hrel
   cases gk with
   | zero => exact absurd HA.out (by simp [swarfref29_Order.l0])
   | succ k1 =>
    have H := HA.out
    clear HA
    simp only [swarfref29_Order.l0] at H
    by_cases c6 : (x7_1.length : Int) < a0
    ·rw [if_pos c6] at H
     have c6b0 : decide ((x7_1.length : Int) < a0) = true := decide_eq_true c6
     clear c6; have H' := Aside0.mk H; clear H
     obtain ⟨Ao7, co7, eo7⟩ := Kd.R_slice HO_7.out
     subst eo7; go_wp2
     go_loopg [8] k1 (fun kq v8 w' => ∃ (x8_2 : Int), v8 = .int .i64 x8_2 ∧ Aside0 (swarfref29_Order.l1 kq a0 l1 x7_1 x8_2 = some (r1, r2)) ∧ Aside0 (kq ≤ k1) ∧ Aside0 (Kd.R (Kd.int .i64) 3 w' w.heap.size (fun _ => True) (.slice Ao7 x7_1.length co7) x7_1) ∧ Aside0 (Below w.heap.size w w'))
     case atStart => exact ⟨(0), (by first | rfl | (simp; done) | (simp [*]; done)), H', ⟨Nat.le_refl _⟩, ⟨by (with_reducible repeat (first | apply Kd.R_alloc | apply Kd.R_drewN | apply Kd.R_drew)); exact HO_7.out⟩, ⟨by repeat (first | (with_reducible first | exact HB.out | apply below_alloc | apply pw_below_drewN | apply below_drew1) | exact HB.out)⟩⟩
     case round =>
      clear H'; try clear c1; try clear c2; try clear p2; try clear c4; try clear c4b0; try clear c4b1; try clear c6; try clear c6b0; try clear p2
      obtain ⟨x8_2, rfl, HA, HK2, HO_7, HB⟩ := hrel
      cases gk with
      | zero => exact absurd HA.out (by simp [swarfref29_Order.l1])
      | succ k2 =>
       have H := HA.out
       clear HA
       simp only [swarfref29_Order.l1] at H
       replace H := Option.bind_eq_some_iff.mp H
       obtain ⟨t328, A80, H⟩ := H
       replace H : (if t328 = true then (swarfref29_Order.l1 k2 a0 l1 x7_1 (wrap64 (x8_2 + 1))) else ((swarfref29_ready.f k2 l1 x7_1 x8_2).bind fun t329 => (if t329 = true then (if x7_1.length < 17592186044416 then (swarfref29_Order.l0 k2 a0 l1 (x7_1 ++ [x8_2])) else (none)) else (swarfref29_Order.l1 k2 a0 l1 x7_1 (wrap64 (x8_2 + 1)))))) = some (r1, r2) := H
       have A8 := Aside0.mk A80; clear A80
       by_cases c9 : t328 = true
       ·subst c9
        have H1 : (swarfref29_Order.l1 k2 a0 l1 x7_1 (wrap64 (x8_2 + 1))) = some (r1, r2) := by rw [if_pos rfl] at H; exact H
        clear H; have H := H1; clear H1; have H' := Aside0.mk H; clear H
        go_wp2_with (first | ((with_reducible refine gate_callee (f := 40) rfl ?_); refine goesL_ (some 21) rfl rfl Try.func40 (by kernel_rfl) rfl #[.slice Ao7 x7_1.length co7, .int .i64 x8_2] rfl (by (try simp only [List.map_toArray, List.map_cons, List.map_nil]); first | done | rfl | (simp only [List.length_drop, List.length_take]; rfl)) ?_; (with_reducible refine (swarfref29_in.calls k2 _ _ x7_1 x8_2 true _ ?side1 ?side2 A8.out).mono ?_); (case side1 => repeat (first | exact (Kd.R_reads' HO_7.out).2.2 | (with_reducible refine Kd.C_alloc ?_ _) | (with_reducible refine Kd.C_drewN ?_ _) | (with_reducible refine Kd.C_drew ?_))); (case side2 => exact (Kd.R_reads' HO_7.out).2.1); rintro e w' ⟨rfl, ⟨nd, rfl⟩⟩; refine ⟨_, rfl, ?_⟩))
        go_roundg k2
        case measure => have := HK1.out; have := HK2.out; omega
        case rel => exact ⟨(wrap64 (x8_2 + 1)), (by first | rfl | (simp; done) | (simp [*]; done)), H', ⟨by have := HK1.out; have := HK2.out; omega⟩, ⟨by (with_reducible repeat (first | apply Kd.R_alloc | apply Kd.R_drewN | apply Kd.R_drew)); exact HO_7.out⟩, ⟨by repeat (first | (with_reducible first | exact HB.out | apply below_alloc | apply pw_below_drewN | apply below_drew1) | exact HB.out)⟩⟩
       ·replace c9 := Bool.eq_false_iff.mpr c9
        subst c9
        have H1 : ((swarfref29_ready.f k2 l1 x7_1 x8_2).bind fun t329 => (if t329 = true then (if x7_1.length < 17592186044416 then (swarfref29_Order.l0 k2 a0 l1 (x7_1 ++ [x8_2])) else (none)) else (swarfref29_Order.l1 k2 a0 l1 x7_1 (wrap64 (x8_2 + 1))))) = some (r1, r2) := by rw [if_neg (show ¬ (false = true) by decide)] at H; exact H
        clear H; have H := H1; clear H1; replace H := Option.bind_eq_some_iff.mp H
        obtain ⟨t329, A100, H⟩ := H
        replace H : (if t329 = true then (if x7_1.length < 17592186044416 then (swarfref29_Order.l0 k2 a0 l1 (x7_1 ++ [x8_2])) else (none)) else (swarfref29_Order.l1 k2 a0 l1 x7_1 (wrap64 (x8_2 + 1)))) = some (r1, r2) := H
        have A10 := Aside0.mk A100; clear A100
        by_cases c11 : t329 = true
        ·subst c11
         have H1 : (if x7_1.length < 17592186044416 then (swarfref29_Order.l0 k2 a0 l1 (x7_1 ++ [x8_2])) else (none)) = some (r1, r2) := by rw [if_pos rfl] at H; exact H
         clear H; have H := H1; clear H1
         by_cases c12 : x7_1.length < 17592186044416
         ·rw [if_pos c12] at H; have LMc12 := Aside0.mk c12; clear c12
          obtain ⟨y330, hy330⟩ : ∃ y_ : List Int, y_ = (x7_1 ++ [x8_2]) := ⟨_, rfl⟩
          replace H : (swarfref29_Order.l0 k2 a0 l1 y330) = some (r1, r2) := by first | (rw [hy330]; with_reducible exact H) | (have H2_ := (Option.bind_some _ _).symm.trans H; rw [hy330]; with_reducible exact H2_) | (have H2_ := (Option.bind_some _ _).symm.trans H; with_reducible exact H2_) | with_reducible exact H | (rw [hy330]; exact H) | exact H
          have Ny330 := Aside0.mk hy330; clear hy330; have H' := Aside0.mk H; clear H
          go_wp2_with (first | ((with_reducible refine gate_callee (f := 40) rfl ?_); refine goesL_ (some 21) rfl rfl Try.func40 (by kernel_rfl) rfl #[.slice Ao7 x7_1.length co7, .int .i64 x8_2] rfl (by (try simp only [List.map_toArray, List.map_cons, List.map_nil]); first | done | rfl | (simp only [List.length_drop, List.length_take]; rfl)) ?_; (with_reducible refine (swarfref29_in.calls k2 _ _ x7_1 x8_2 false _ ?side1 ?side2 A8.out).mono ?_); (case side1 => repeat (first | exact (Kd.R_reads' HO_7.out).2.2 | (with_reducible refine Kd.C_alloc ?_ _) | (with_reducible refine Kd.C_drewN ?_ _) | (with_reducible refine Kd.C_drew ?_))); (case side2 => exact (Kd.R_reads' HO_7.out).2.1); rintro e w' ⟨rfl, ⟨nd, rfl⟩⟩; refine ⟨_, rfl, ?_⟩) | (go_at_call 41; (with_reducible refine (swarfref29_ready.calls k2 _ _ l1 _ _ x7_1 x8_2 true _ ?side1 ?side2 ?side3 ?side4 A10.out).mono ?_); (case side1 => repeat (first | exact (Kd.C_below HR1.out (by repeat (first | (with_reducible first | exact HB.out | apply below_alloc | apply pw_below_drewN | apply below_drew1) | exact HB.out))) | (with_reducible refine Kd.C_alloc ?_ _) | (with_reducible refine Kd.C_drewN ?_ _) | (with_reducible refine Kd.C_drew ?_))); (case side2 => exact HC1.out); (case side3 => repeat (first | exact (Kd.R_reads' HO_7.out).2.2 | (with_reducible refine Kd.C_alloc ?_ _) | (with_reducible refine Kd.C_drewN ?_ _) | (with_reducible refine Kd.C_drew ?_))); (case side4 => exact (Kd.R_reads' HO_7.out).2.1); rintro e w' ⟨rfl, ⟨nd, rfl⟩⟩) | ((with_reducible refine gate_builtin (b := .append) (xs := #[.tmp 31, .tmp 33]) rfl ?_); at_builtin; refine Kd.R_append (Kd.int .i64) (w0 := w) w.heap.size rfl (.tmp 31) (.tmp 33) 31 3 (.int .i64 0) 8 rfl Try.underlying31 info3 rfl (by decide) (by omega) (.slice Ao7 x7_1.length co7) x7_1 x8_2 [.int .i64 x8_2] (fun _ => True) (fun _ => False) rfl rfl ?aP (fun _ hk => hk.elim) ?aF ?aO ?aB ?aS ?aL ?_; (case aP => exact rfl); (case aB => exact (by repeat (first | (with_reducible first | exact HB.out | apply below_alloc | apply pw_below_drewN | apply below_drew1) | exact HB.out))); (case aF => exact (fun _ _ => trivial)); (case aO => exact (by (with_reducible repeat (first | apply Kd.R_alloc | apply Kd.R_drewN | apply Kd.R_drew)); exact HO_7.out)); (case aS => exact (below_size (by repeat (first | (with_reducible first | exact HB.out | apply below_alloc | apply pw_below_drewN | apply below_drew1) | exact HB.out)))); (case aL => have := LMc12.out; omega); intro v331 w13 ho hb hg hat; rw [← Ny330.out] at ho; have n0_ := Aside0.mk (hb); have n1_ := Aside0.mk (ho); clear HB; clear HO_7; have HB := n0_; have HO332 := n1_; clear n0_ n1_; clear ho hb hg hat))
          go_roundg k2
          case measure => have := HK1.out; have := HK2.out; omega
          case rel => exact ⟨(y330), H', ⟨by have := HK1.out; have := HK2.out; omega⟩, ⟨by (with_reducible repeat (first | apply Kd.R_alloc | apply Kd.R_drewN | apply Kd.R_drew)); exact HO332.out⟩, ⟨by repeat (first | (with_reducible first | exact HB.out | apply below_alloc | apply pw_below_drewN | apply below_drew1) | exact HB.out)⟩⟩
         ·rw [if_neg c12] at H
          exact absurd H (by simp)
        ·replace c11 := Bool.eq_false_iff.mpr c11
         subst c11
         have H1 : (swarfref29_Order.l1 k2 a0 l1 x7_1 (wrap64 (x8_2 + 1))) = some (r1, r2) := by rw [if_neg (show ¬ (false = true) by decide)] at H; exact H
         clear H; have H := H1; clear H1; have H' := Aside0.mk H; clear H
         go_wp2_with (first | ((with_reducible refine gate_callee (f := 40) rfl ?_); refine goesL_ (some 21) rfl rfl Try.func40 (by kernel_rfl) rfl #[.slice Ao7 x7_1.length co7, .int .i64 x8_2] rfl (by (try simp only [List.map_toArray, List.map_cons, List.map_nil]); first | done | rfl | (simp only [List.length_drop, List.length_take]; rfl)) ?_; (with_reducible refine (swarfref29_in.calls k2 _ _ x7_1 x8_2 false _ ?side1 ?side2 A8.out).mono ?_); (case side1 => repeat (first | exact (Kd.R_reads' HO_7.out).2.2 | (with_reducible refine Kd.C_alloc ?_ _) | (with_reducible refine Kd.C_drewN ?_ _) | (with_reducible refine Kd.C_drew ?_))); (case side2 => exact (Kd.R_reads' HO_7.out).2.1); rintro e w' ⟨rfl, ⟨nd, rfl⟩⟩; refine ⟨_, rfl, ?_⟩) | (go_at_call 41; (with_reducible refine (swarfref29_ready.calls k2 _ _ l1 _ _ x7_1 x8_2 false _ ?side1 ?side2 ?side3 ?side4 A10.out).mono ?_); (case side1 => repeat (first | exact (Kd.C_below HR1.out (by repeat (first | (with_reducible first | exact HB.out | apply below_alloc | apply pw_below_drewN | apply below_drew1) | exact HB.out))) | (with_reducible refine Kd.C_alloc ?_ _) | (with_reducible refine Kd.C_drewN ?_ _) | (with_reducible refine Kd.C_drew ?_))); (case side2 => exact HC1.out); (case side3 => repeat (first | exact (Kd.R_reads' HO_7.out).2.2 | (with_reducible refine Kd.C_alloc ?_ _) | (with_reducible refine Kd.C_drewN ?_ _) | (with_reducible refine Kd.C_drew ?_))); (case side4 => exact (Kd.R_reads' HO_7.out).2.1); rintro e w' ⟨rfl, ⟨nd, rfl⟩⟩))
         go_roundg k2
         case measure => have := HK1.out; have := HK2.out; omega
         case rel => exact ⟨(wrap64 (x8_2 + 1)), (by first | rfl | (simp; done) | (simp [*]; done)), H', ⟨by have := HK1.out; have := HK2.out; omega⟩, ⟨by (with_reducible repeat (first | apply Kd.R_alloc | apply Kd.R_drewN | apply Kd.R_drew)); exact HO_7.out⟩, ⟨by repeat (first | (with_reducible first | exact HB.out | apply below_alloc | apply pw_below_drewN | apply below_drew1) | exact HB.out)⟩⟩
    ·rw [if_neg c6] at H
     have c6b0 : decide ((x7_1.length : Int) < a0) = false := decide_eq_false c6
     clear c6
     simp only [Option.some.injEq, Prod.mk.injEq] at H
     obtain ⟨rfl, rfl⟩ := H
     obtain ⟨Ao14, co14, eo14⟩ := Kd.R_slice HO_7.out
     subst eo14; go_wp2
     go_ret2
     exact ⟨_, by first | rfl | (simp [errW_none, errW_some] <;> rfl) | (simp [*, errW_none, errW_some] <;> rfl), by (with_reducible repeat (first | apply Kd.R_alloc | apply Kd.R_drewN | apply Kd.R_drew)); exact HO_7.out, by repeat (first | (with_reducible first | exact HB.out | apply below_alloc | apply pw_below_drewN | apply below_drew1) | exact HB.out)⟩
 ·rw [if_neg c4] at H
  have c4b0 : (t327 == 0) = false := beq_eq_false_iff_ne.mpr c4
  have c4b1 : (t327 != 0) = true := bne_iff_ne.mpr c4
  simp only [Option.some.injEq, Prod.mk.injEq] at H
  obtain ⟨rfl, rfl⟩ := H
  go_enter Try.func26, Try.ntmps26
  go_wp2_with (first | ((with_reducible refine gate_callee (f := 47) rfl ?_); refine goesL_ (some 11) rfl rfl Try.func47 (by kernel_rfl) rfl #[.int .i64 a0, .slice A1 l1.length c1] rfl (by (try simp only [List.map_toArray, List.map_cons, List.map_nil]); first | done | rfl | (simp only [List.length_drop, List.length_take]; rfl)) ?_; (with_reducible refine (swarfref29_fault.calls k a0 _ _ l1 t327 _ ?side1 ?side2 A3.out).mono ?_); (case side1 => repeat (first | exact HR1.out | (with_reducible refine Kd.C_alloc ?_ _) | (with_reducible refine Kd.C_drewN ?_ _) | (with_reducible refine Kd.C_drew ?_))); (case side2 => exact HC1.out); rintro e w15 ⟨rfl, hb⟩; refine ⟨_, rfl, ?_⟩; have n0_ := Aside0.mk (below_step (by repeat (first | (with_reducible first | exact HB.out | apply below_alloc | apply pw_below_drewN | apply below_drew1) | exact HB.out)) hb); clear HB; have HB := n0_; clear n0_; (try clear hb); (try clear hb2); (try clear hk); (try clear hi)))
  go_ret2
  exact ⟨_, by first | rfl | (simp [errW_none, errW_some] <;> rfl) | (simp [*, errW_none, errW_some] <;> rfl), by first | exact Kd.R_nil _ _ _ _ _ | exact Kd.N_nil _ _ _ _ _ | exact Kd.V_nil _ _ _ _ _ | exact Kd.Q_nil _ _ _ _ _ | exact Kd.S_nil _ _ _ _ _, by repeat (first | (with_reducible first | exact HB.out | apply below_alloc | apply pw_below_drewN | apply below_drew1) | exact HB.out)⟩

end Go.Proofs.Ytbbkclcfmcjlgaa.P

-- PRINTED by print.py (a twelfth state) out of the translation. Not trusted: Lean checks it.

namespace Go.Proofs.Ytbbkclcfmcjlgaa.P
open Go.RowKit Go.Proofs.YtbbkclcfmcjlgaaW.PrintWords Go.Proofs.YtbbkclcfmcjlgaaW.PrintLast Go.Proofs.YtbbkclcfmcjlgaaW.PrintMore
attribute [local go_sem] max2_int min2_int max_two min_two max_three min_three max_four min_four   -- for this text's walks alone
set_option linter.unusedVariables false
set_option linter.unusedSimpArgs false

/-! ### swarflaw29_PrecedenceOrder: function 7 -/
def swarflaw29_PrecedenceOrder.j0 : Nat → Int → List (S47) → Bool → Option (Bool)
 | 0, _, _, _ => none
 | k + 1, x0, x1, x16 => if x16 = true then ((swarflaw29_awake.f k).bind fun t335 => (some t335)) else ((swarflaw29_cp.f x1).bind fun t336 => ((precedence_Order.f k x0 t336).bind fun bt339 => ((swarfref29_Order.f k x0 x1).bind fun bt343 => (if bt339.2 = bt343.2 then ((swarfref29_Ints.f k bt339.1 bt343.1).bind fun t347 => (if t347 = true then (if bt339.2 = 0 then ((swarfref29_Linear.f k x0 x1 bt339.1).bind fun t348 => (some t348)) else (some true)) else (some false))) else (some false)))))
def swarflaw29_PrecedenceOrder.f (k : Nat) (a0 : Int) (l1 : List (S47)) : Option (Bool) := (swarflaw29_awake.f k).bind fun t333 => (if t333 = true then ((swarflaw29_few.f k a0 30 l1).bind fun t334 => (swarflaw29_PrecedenceOrder.j0 k a0 l1 (!t334))) else (swarflaw29_PrecedenceOrder.j0 k a0 l1 true))
theorem swarflaw29_PrecedenceOrder.mono_l : ∀ k, (∀ y0 y1 y2, LeO (swarflaw29_PrecedenceOrder.j0 k y0 y1 y2) (swarflaw29_PrecedenceOrder.j0 (k + 1) y0 y1 y2))
 | 0 => fun _ _ _ r h => by simp [swarflaw29_PrecedenceOrder.j0] at h
 | k + 1 => by
  have ih0 := swarflaw29_PrecedenceOrder.mono_l k
  ·intro y0 y1 y2
   unfold swarflaw29_PrecedenceOrder.j0
   repeat' first
   | (with_reducible exact ih0 _ _ _)
   | (with_reducible exact precedence_Order.mono _ _ _)
   | (with_reducible exact swarflaw29_awake.mono _)
   | (with_reducible exact swarflaw29_few.mono _ _ _ _)
   | (with_reducible exact swarfref29_Ints.mono _ _ _)
   | (with_reducible exact swarfref29_Linear.mono _ _ _ _)
   | (with_reducible exact swarfref29_Order.mono _ _ _)
   | (with_reducible exact LeO.refl _)
   | (with_reducible exact LeO.none _)
   | (with_reducible refine LeO.ite ?_ ?_)
   | (with_reducible refine LeO.bind ?_ (fun _ => ?_))
   | exact ih0 _ _ _
   | exact precedence_Order.mono _ _ _
   | exact swarflaw29_awake.mono _
   | exact swarflaw29_few.mono _ _ _ _
   | exact swarfref29_Ints.mono _ _ _
   | exact swarfref29_Linear.mono _ _ _ _
   | exact swarfref29_Order.mono _ _ _
   | exact LeO.none _
   | refine LeO.ite ?_ ?_
   | refine LeO.bind ?_ (fun _ => ?_)
theorem swarflaw29_PrecedenceOrder.mono : ∀ a0 a1 k, LeO (swarflaw29_PrecedenceOrder.f k a0 a1) (swarflaw29_PrecedenceOrder.f (k + 1) a0 a1) := by
 intro a0 a1 k
 have ih0 := swarflaw29_PrecedenceOrder.mono_l k
 unfold swarflaw29_PrecedenceOrder.f
 repeat' first
   | (with_reducible exact ih0 _ _ _)
   | (with_reducible exact precedence_Order.mono _ _ _)
   | (with_reducible exact swarflaw29_awake.mono _)
   | (with_reducible exact swarflaw29_few.mono _ _ _ _)
   | (with_reducible exact swarfref29_Ints.mono _ _ _)
   | (with_reducible exact swarfref29_Linear.mono _ _ _ _)
   | (with_reducible exact swarfref29_Order.mono _ _ _)
   | (with_reducible exact LeO.refl _)
   | (with_reducible exact LeO.none _)
   | (with_reducible refine LeO.ite ?_ ?_)
   | (with_reducible refine LeO.bind ?_ (fun _ => ?_))
   | exact ih0 _ _ _
   | exact precedence_Order.mono _ _ _
   | exact swarflaw29_awake.mono _
   | exact swarflaw29_few.mono _ _ _ _
   | exact swarfref29_Ints.mono _ _ _
   | exact swarfref29_Linear.mono _ _ _ _
   | exact swarfref29_Order.mono _ _ _
   | exact LeO.none _
   | refine LeO.ite ?_ ?_
   | refine LeO.bind ?_ (fun _ => ?_)
set_option maxHeartbeats 8000000 in
set_option maxRecDepth 100000 in
theorem swarflaw29_PrecedenceOrder.calls (k : Nat) (a0 : Int) (A1 : Option Addr) (c1 : Nat) (l1 : List (S47)) (r : Bool) (w : World) (hr1 : Kd.C k47 w A1 l1.length l1) (hc1 : l1.length ≤ c1) (h : swarflaw29_PrecedenceOrder.f k a0 l1 = some r) (hr : r = true) :
  Calls Try.prog 7 #[.int .i64 a0, .slice A1 l1.length c1] w fun e w' => e = .returned (.bool r) ∧ Below w.heap.size w w' := by
 have HRT := Aside0.mk hr
 clear hr
 have HR1 := Aside0.mk hr1
 have HC1 := Aside0.mk hc1
 clear hr1 hc1
 have HB := Aside0.mk (Below.refl w.heap.size w)
 have H : ((swarflaw29_awake.f k).bind fun t333 => (if t333 = true then ((swarflaw29_few.f k a0 30 l1).bind fun t334 => (swarflaw29_PrecedenceOrder.j0 k a0 l1 (!t334))) else (swarflaw29_PrecedenceOrder.j0 k a0 l1 true))) = some r := h
 clear h
 have HC3 := Aside0.mk H
 clear H
 go_enter Try.func7, Try.ntmps7
 go_upto_region 1 with (fail)
 go_cut [16] (fun v16 wc => ∃ (kq : Nat) (x16_2 : Bool), v16 = .bool x16_2 ∧ Aside0 (swarflaw29_PrecedenceOrder.j0 kq a0 l1 x16_2 = some r) ∧ Aside0 (kq ≤ k) ∧ Aside0 (Below w.heap.size w wc))
 case first =>
  have H := HC3.out
  clear HC3; replace H := Option.bind_eq_some_iff.mp H
  obtain ⟨t333, A40, H⟩ := H
  replace H : (if t333 = true then ((swarflaw29_few.f k a0 30 l1).bind fun t334 => (swarflaw29_PrecedenceOrder.j0 k a0 l1 (!t334))) else (swarflaw29_PrecedenceOrder.j0 k a0 l1 true)) = some r := H
  have A4 := Aside0.mk A40; clear A40
  by_cases c5 : t333 = true
  ·subst c5
   have H1 : ((swarflaw29_few.f k a0 30 l1).bind fun t334 => (swarflaw29_PrecedenceOrder.j0 k a0 l1 (!t334))) = some r := by rw [if_pos rfl] at H; exact H
   clear H; have H := H1; clear H1; replace H := Option.bind_eq_some_iff.mp H
   obtain ⟨t334, A60, H⟩ := H
   replace H : (swarflaw29_PrecedenceOrder.j0 k a0 l1 (!t334)) = some r := H
   have A6 := Aside0.mk A60; clear A60; have H' := Aside0.mk H; clear H
   go_wp2_with (first | ((with_reducible refine gate_callee (f := 12) rfl ?_); refine goesL_ (some 9) rfl rfl Try.func12 (by kernel_rfl) rfl #[] rfl (by (try simp only [List.map_toArray, List.map_cons, List.map_nil]); first | done | rfl | (simp only [List.length_drop, List.length_take]; rfl)) ?_; (with_reducible refine (swarflaw29_awake.calls k  true _ A4.out).mono ?_); rintro e w7 ⟨rfl, hb⟩; refine ⟨_, rfl, ?_⟩; have n0_ := Aside0.mk (below_step (by repeat (first | (with_reducible first | exact HB.out | apply below_alloc | apply pw_below_drewN | apply below_drew1) | exact HB.out)) hb); clear HB; have HB := n0_; clear n0_; (try clear hb); (try clear hb2); (try clear hk); (try clear hi)) | (go_at_call 13; (with_reducible refine (swarflaw29_few.calls k a0 30 _ _ l1 t334 _ ?side1 ?side2 A6.out).mono ?_); (case side1 => repeat (first | exact (Kd.C_below HR1.out HB.out) | (with_reducible refine Kd.C_alloc ?_ _) | (with_reducible refine Kd.C_drewN ?_ _) | (with_reducible refine Kd.C_drew ?_))); (case side2 => exact HC1.out); rintro e w' ⟨rfl, ⟨nd, rfl⟩⟩))
   go_meet
   case rel => exact ⟨_, (!t334), (by first | rfl | (simp; done) | (simp [*]; done)), H', ⟨by first | omega | exact Nat.le_refl _⟩, ⟨by repeat (first | (with_reducible first | exact HB.out | apply below_alloc | apply pw_below_drewN | apply below_drew1) | exact HB.out)⟩⟩
  ·replace c5 := Bool.eq_false_iff.mpr c5
   subst c5
   have H1 : (swarflaw29_PrecedenceOrder.j0 k a0 l1 true) = some r := by rw [if_neg (show ¬ (false = true) by decide)] at H; exact H
   clear H; have H := H1; clear H1; have H' := Aside0.mk H; clear H
   go_wp2_with (first | ((with_reducible refine gate_callee (f := 12) rfl ?_); refine goesL_ (some 9) rfl rfl Try.func12 (by kernel_rfl) rfl #[] rfl (by (try simp only [List.map_toArray, List.map_cons, List.map_nil]); first | done | rfl | (simp only [List.length_drop, List.length_take]; rfl)) ?_; (with_reducible refine (swarflaw29_awake.calls k  false _ A4.out).mono ?_); rintro e w8 ⟨rfl, hb⟩; refine ⟨_, rfl, ?_⟩; have n0_ := Aside0.mk (below_step (by repeat (first | (with_reducible first | exact HB.out | apply below_alloc | apply pw_below_drewN | apply below_drew1) | exact HB.out)) hb); clear HB; have HB := n0_; clear n0_; (try clear hb); (try clear hb2); (try clear hk); (try clear hi)))
   go_meet
   case rel => exact ⟨_, (true), (by first | rfl | (simp; done) | (simp [*]; done)), H', ⟨by first | omega | exact Nat.le_refl _⟩, ⟨by repeat (first | (with_reducible first | exact HB.out | apply below_alloc | apply pw_below_drewN | apply below_drew1) | exact HB.out)⟩⟩
 case rest =>
  clear HC3; try clear c1; try clear p2; try clear c5; try clear c7
  obtain ⟨kq, x16_2, rfl, HA, HJ2, HB⟩ := hcut
  cases kq with
  | zero => exact absurd HA.out (by simp [swarflaw29_PrecedenceOrder.j0])
  | succ kj2 =>
   have H := HA.out
   clear HA
   simp only [swarflaw29_PrecedenceOrder.j0] at H
   by_cases c9 : x16_2 = true
   ·subst c9
    have H1 : ((swarflaw29_awake.f kj2).bind fun t335 => (some t335)) = some r := by rw [if_pos rfl] at H; exact H
    clear H; have H := H1; clear H1; replace H := Option.bind_eq_some_iff.mp H
    obtain ⟨t335, A100, H⟩ := H
    replace H : (some t335) = some r := H
    have A10 := Aside0.mk A100; clear A100; obtain rfl := Option.some.inj H
    go_wp2_with (first | ((with_reducible refine gate_callee (f := 12) rfl ?_); refine goesL_ (some 17) rfl rfl Try.func12 (by kernel_rfl) rfl #[] rfl (by (try simp only [List.map_toArray, List.map_cons, List.map_nil]); first | done | rfl | (simp only [List.length_drop, List.length_take]; rfl)) ?_; (with_reducible refine (swarflaw29_awake.calls kj2  t335 _ A10.out).mono ?_); rintro e w11 ⟨rfl, hb⟩; refine ⟨_, rfl, ?_⟩; have n0_ := Aside0.mk (below_step (by repeat (first | (with_reducible first | exact HB.out | apply below_alloc | apply pw_below_drewN | apply below_drew1) | exact HB.out)) hb); clear HB; have HB := n0_; clear n0_; (try clear hb); (try clear hb2); (try clear hk); (try clear hi)))
    go_ret
    exact ⟨by first | rfl | (simp [errW_none, errW_some] <;> rfl) | (simp [*, errW_none, errW_some] <;> rfl), by repeat (first | (with_reducible first | exact HB.out | apply below_alloc | apply pw_below_drewN | apply below_drew1) | exact HB.out)⟩
   ·replace c9 := Bool.eq_false_iff.mpr c9
    subst c9
    have H1 : ((swarflaw29_cp.f l1).bind fun t336 => ((precedence_Order.f kj2 a0 t336).bind fun bt339 => ((swarfref29_Order.f kj2 a0 l1).bind fun bt343 => (if bt339.2 = bt343.2 then ((swarfref29_Ints.f kj2 bt339.1 bt343.1).bind fun t347 => (if t347 = true then (if bt339.2 = 0 then ((swarfref29_Linear.f kj2 a0 l1 bt339.1).bind fun t348 => (some t348)) else (some true)) else (some false))) else (some false))))) = some r := by rw [if_neg (show ¬ (false = true) by decide)] at H; exact H
    clear H; have H := H1; clear H1; replace H := Option.bind_eq_some_iff.mp H
    obtain ⟨t336, A120, H⟩ := H
    replace H : ((precedence_Order.f kj2 a0 t336).bind fun bt339 => ((swarfref29_Order.f kj2 a0 l1).bind fun bt343 => (if bt339.2 = bt343.2 then ((swarfref29_Ints.f kj2 bt339.1 bt343.1).bind fun t347 => (if t347 = true then (if bt339.2 = 0 then ((swarfref29_Linear.f kj2 a0 l1 bt339.1).bind fun t348 => (some t348)) else (some true)) else (some false))) else (some false)))) = some r := H
    have A12 := Aside0.mk A120; clear A120; replace H := Option.bind_eq_some_iff.mp H
    obtain ⟨⟨t339, t340⟩, A130, H⟩ := H
    replace H : ((swarfref29_Order.f kj2 a0 l1).bind fun bt343 => (if t340 = bt343.2 then ((swarfref29_Ints.f kj2 t339 bt343.1).bind fun t347 => (if t347 = true then (if t340 = 0 then ((swarfref29_Linear.f kj2 a0 l1 t339).bind fun t348 => (some t348)) else (some true)) else (some false))) else (some false))) = some r := H
    have A13 := Aside0.mk A130; clear A130; replace H := Option.bind_eq_some_iff.mp H
    obtain ⟨⟨t343, t344⟩, A140, H⟩ := H
    replace H : (if t340 = t344 then ((swarfref29_Ints.f kj2 t339 t343).bind fun t347 => (if t347 = true then (if t340 = 0 then ((swarfref29_Linear.f kj2 a0 l1 t339).bind fun t348 => (some t348)) else (some true)) else (some false))) else (some false)) = some r := H
    have A14 := Aside0.mk A140; clear A140
    by_cases c15 : t340 = t344
    ·rw [if_pos c15] at H
     have c15b0 : (t340 == t344) = true := beq_iff_eq.mpr c15
     have c15b1 : (t340 != t344) = false := bne_eq_false_iff_eq.mpr c15
     clear c15; replace H := Option.bind_eq_some_iff.mp H
     obtain ⟨t347, A160, H⟩ := H
     replace H : (if t347 = true then (if t340 = 0 then ((swarfref29_Linear.f kj2 a0 l1 t339).bind fun t348 => (some t348)) else (some true)) else (some false)) = some r := H
     have A16 := Aside0.mk A160; clear A160
     by_cases c17 : t347 = true
     ·subst c17
      have H1 : (if t340 = 0 then ((swarfref29_Linear.f kj2 a0 l1 t339).bind fun t348 => (some t348)) else (some true)) = some r := by rw [if_pos rfl] at H; exact H
      clear H; have H := H1; clear H1
      by_cases c18 : t340 = 0
      ·rw [if_pos c18] at H
       have c18b0 : (t340 == 0) = true := beq_iff_eq.mpr c18
       have c18b1 : (t340 != 0) = false := bne_eq_false_iff_eq.mpr c18
       clear c18; replace H := Option.bind_eq_some_iff.mp H
       obtain ⟨t348, A190, H⟩ := H
       replace H : (some t348) = some r := H
       have A19 := Aside0.mk A190; clear A190; obtain rfl := Option.some.inj H
       go_wp2_with (first | ((with_reducible refine gate_callee (f := 15) rfl ?_); refine goesL_ (some 21) rfl rfl Try.func15 (by kernel_rfl) rfl #[.slice A1 l1.length c1] rfl (by (try simp only [List.map_toArray, List.map_cons, List.map_nil]); first | done | rfl | (simp only [List.length_drop, List.length_take]; rfl)) ?_; (with_reducible refine (swarflaw29_cp.calls _ _ l1 t336 _ ?side1 ?side2 A12.out).mono ?_); (case side1 => repeat (first | exact (Kd.C_below HR1.out HB.out) | (with_reducible refine Kd.C_alloc ?_ _) | (with_reducible refine Kd.C_drewN ?_ _) | (with_reducible refine Kd.C_drew ?_))); (case side2 => exact HC1.out); rintro e w20 ⟨v337, rfl, ho0, hb⟩; refine ⟨_, rfl, ?_⟩; have n0_ := Aside0.mk (Kd.R_lower ho0 (below_size (by repeat (first | (with_reducible first | exact HB.out | apply below_alloc | apply pw_below_drewN | apply below_drew1) | exact HB.out)))); have n1_ := Aside0.mk (below_step (by repeat (first | (with_reducible first | exact HB.out | apply below_alloc | apply pw_below_drewN | apply below_drew1) | exact HB.out)) hb); clear HB; have HO338 := n0_; have HB := n1_; clear n0_ n1_; (try clear hb); (try clear hb2); (try clear hk); (try clear hi); (try clear ho0); obtain ⟨Ao21, co21, eo21⟩ := Kd.R_slice HO338.out; subst eo21) | ((with_reducible refine gate_callee (f := 25) rfl ?_); refine goesL_ (some 22) rfl rfl Try.func25 (by kernel_rfl) rfl #[.int .i64 a0, .slice Ao21 t336.length co21] rfl (by (try simp only [List.map_toArray, List.map_cons, List.map_nil]); first | done | rfl | (simp only [List.length_drop, List.length_take]; rfl)) ?_; (with_reducible refine (precedence_Order.calls kj2 a0 _ _ t336 t339 t340 _ ?side1 ?side2 A13.out).mono ?_); (case side1 => repeat (first | exact (Kd.R_reads' HO338.out).2.2 | (with_reducible refine Kd.C_alloc ?_ _) | (with_reducible refine Kd.C_drewN ?_ _) | (with_reducible refine Kd.C_drew ?_))); (case side2 => exact (Kd.R_reads' HO338.out).2.1); rintro e w22 ⟨v341, rfl, ho0, hb⟩; refine ⟨_, rfl, ?_⟩; have n0_ := Aside0.mk (Kd.R_below (by (with_reducible repeat (first | apply Kd.R_alloc | apply Kd.R_drewN | apply Kd.R_drew)); exact HO338.out) hb); have n1_ := Aside0.mk (Kd.R_lower ho0 (below_size (by repeat (first | (with_reducible first | exact HB.out | apply below_alloc | apply pw_below_drewN | apply below_drew1) | exact HB.out)))); have n2_ := Aside0.mk (below_step (by repeat (first | (with_reducible first | exact HB.out | apply below_alloc | apply pw_below_drewN | apply below_drew1) | exact HB.out)) hb); clear HO338; clear HB; have HO338 := n0_; have HO342 := n1_; have HB := n2_; clear n0_ n1_ n2_; (try clear hb); (try clear hb2); (try clear hk); (try clear hi); (try clear ho0)) | ((with_reducible refine gate_callee (f := 26) rfl ?_); refine goesL_ (some 28) rfl rfl Try.func26 (by kernel_rfl) rfl #[.int .i64 a0, .slice A1 l1.length c1] rfl (by (try simp only [List.map_toArray, List.map_cons, List.map_nil]); first | done | rfl | (simp only [List.length_drop, List.length_take]; rfl)) ?_; (with_reducible refine (swarfref29_Order.calls kj2 a0 _ _ l1 t343 t344 _ ?side1 ?side2 A14.out).mono ?_); (case side1 => repeat (first | exact (Kd.C_below HR1.out HB.out) | (with_reducible refine Kd.C_alloc ?_ _) | (with_reducible refine Kd.C_drewN ?_ _) | (with_reducible refine Kd.C_drew ?_))); (case side2 => exact HC1.out); rintro e w23 ⟨v345, rfl, ho0, hb⟩; refine ⟨_, rfl, ?_⟩; have n0_ := Aside0.mk (Kd.R_below (by (with_reducible repeat (first | apply Kd.R_alloc | apply Kd.R_drewN | apply Kd.R_drew)); exact HO338.out) hb); have n1_ := Aside0.mk (Kd.R_elder' (by (with_reducible repeat (first | apply Kd.R_alloc | apply Kd.R_drewN | apply Kd.R_drew)); exact HO342.out) (Kd.R_base ho0) hb); have n2_ := Aside0.mk (Kd.R_lower (Kd.R_new' ho0 (Kd.R_lt (by (with_reducible repeat (first | apply Kd.R_alloc | apply Kd.R_drewN | apply Kd.R_drew)); exact HO342.out))) (below_size (by repeat (first | (with_reducible first | exact HB.out | apply below_alloc | apply pw_below_drewN | apply below_drew1) | exact HB.out)))); have n3_ := Aside0.mk (below_step (by repeat (first | (with_reducible first | exact HB.out | apply below_alloc | apply pw_below_drewN | apply below_drew1) | exact HB.out)) hb); clear HO338; clear HO342; clear HB; have HO338 := n0_; have HO342 := n1_; have HO346 := n2_; have HB := n3_; clear n0_ n1_ n2_ n3_; (try clear hb); (try clear hb2); (try clear hk); (try clear hi); (try clear ho0); obtain ⟨Ao24, co24, eo24⟩ := Kd.R_slice HO342.out; subst eo24; obtain ⟨Ao25, co25, eo25⟩ := Kd.R_slice HO346.out; subst eo25) | (go_at_call 27; (with_reducible refine (swarfref29_Ints.calls kj2 _ _ t339 _ _ t343 true _ ?side1 ?side2 ?side3 ?side4 A16.out).mono ?_); (case side1 => repeat (first | exact (Kd.R_reads' HO342.out).2.2 | (with_reducible refine Kd.C_alloc ?_ _) | (with_reducible refine Kd.C_drewN ?_ _) | (with_reducible refine Kd.C_drew ?_))); (case side2 => exact (Kd.R_reads' HO342.out).2.1); (case side3 => repeat (first | exact (Kd.R_reads' HO346.out).2.2 | (with_reducible refine Kd.C_alloc ?_ _) | (with_reducible refine Kd.C_drewN ?_ _) | (with_reducible refine Kd.C_drew ?_))); (case side4 => exact (Kd.R_reads' HO346.out).2.1); rintro e w' ⟨rfl, ⟨nd, rfl⟩⟩) | (go_at_call 19; (with_reducible refine (swarfref29_Linear.calls kj2 a0 _ _ l1 _ _ t339 t348 _ ?side1 ?side2 ?side3 ?side4 A19.out).mono ?_); (case side1 => repeat (first | exact (Kd.C_below HR1.out (by repeat (first | (with_reducible first | exact HB.out | apply below_alloc | apply pw_below_drewN | apply below_drew1) | exact HB.out))) | (with_reducible refine Kd.C_alloc ?_ _) | (with_reducible refine Kd.C_drewN ?_ _) | (with_reducible refine Kd.C_drew ?_))); (case side2 => exact HC1.out); (case side3 => repeat (first | exact (Kd.R_reads' HO342.out).2.2 | (with_reducible refine Kd.C_alloc ?_ _) | (with_reducible refine Kd.C_drewN ?_ _) | (with_reducible refine Kd.C_drew ?_))); (case side4 => exact (Kd.R_reads' HO342.out).2.1); rintro e w26 ⟨rfl, hb⟩; have n0_ := Aside0.mk (Kd.R_below (by (with_reducible repeat (first | apply Kd.R_alloc | apply Kd.R_drewN | apply Kd.R_drew)); exact HO338.out) hb); have n1_ := Aside0.mk (Kd.R_below (by (with_reducible repeat (first | apply Kd.R_alloc | apply Kd.R_drewN | apply Kd.R_drew)); exact HO342.out) hb); have n2_ := Aside0.mk (Kd.R_below (by (with_reducible repeat (first | apply Kd.R_alloc | apply Kd.R_drewN | apply Kd.R_drew)); exact HO346.out) hb); have n3_ := Aside0.mk (below_step (by repeat (first | (with_reducible first | exact HB.out | apply below_alloc | apply pw_below_drewN | apply below_drew1) | exact HB.out)) hb); clear HO338; clear HO342; clear HO346; clear HB; have HO338 := n0_; have HO342 := n1_; have HO346 := n2_; have HB := n3_; clear n0_ n1_ n2_ n3_; (try clear hb); (try clear hb2); (try clear hk); (try clear hi)))
       go_ret
       exact ⟨by first | rfl | (simp [errW_none, errW_some] <;> rfl) | (simp [*, errW_none, errW_some] <;> rfl), by repeat (first | (with_reducible first | exact HB.out | apply below_alloc | apply pw_below_drewN | apply below_drew1) | exact HB.out)⟩
      ·rw [if_neg c18] at H
       have c18b0 : (t340 == 0) = false := beq_eq_false_iff_ne.mpr c18
       have c18b1 : (t340 != 0) = true := bne_iff_ne.mpr c18
       obtain rfl := Option.some.inj H
       go_wp2_with (first | ((with_reducible refine gate_callee (f := 15) rfl ?_); refine goesL_ (some 21) rfl rfl Try.func15 (by kernel_rfl) rfl #[.slice A1 l1.length c1] rfl (by (try simp only [List.map_toArray, List.map_cons, List.map_nil]); first | done | rfl | (simp only [List.length_drop, List.length_take]; rfl)) ?_; (with_reducible refine (swarflaw29_cp.calls _ _ l1 t336 _ ?side1 ?side2 A12.out).mono ?_); (case side1 => repeat (first | exact (Kd.C_below HR1.out HB.out) | (with_reducible refine Kd.C_alloc ?_ _) | (with_reducible refine Kd.C_drewN ?_ _) | (with_reducible refine Kd.C_drew ?_))); (case side2 => exact HC1.out); rintro e w27 ⟨v337, rfl, ho0, hb⟩; refine ⟨_, rfl, ?_⟩; have n0_ := Aside0.mk (Kd.R_lower ho0 (below_size (by repeat (first | (with_reducible first | exact HB.out | apply below_alloc | apply pw_below_drewN | apply below_drew1) | exact HB.out)))); have n1_ := Aside0.mk (below_step (by repeat (first | (with_reducible first | exact HB.out | apply below_alloc | apply pw_below_drewN | apply below_drew1) | exact HB.out)) hb); clear HB; have HO338 := n0_; have HB := n1_; clear n0_ n1_; (try clear hb); (try clear hb2); (try clear hk); (try clear hi); (try clear ho0); obtain ⟨Ao28, co28, eo28⟩ := Kd.R_slice HO338.out; subst eo28) | ((with_reducible refine gate_callee (f := 25) rfl ?_); refine goesL_ (some 22) rfl rfl Try.func25 (by kernel_rfl) rfl #[.int .i64 a0, .slice Ao28 t336.length co28] rfl (by (try simp only [List.map_toArray, List.map_cons, List.map_nil]); first | done | rfl | (simp only [List.length_drop, List.length_take]; rfl)) ?_; (with_reducible refine (precedence_Order.calls kj2 a0 _ _ t336 t339 t340 _ ?side1 ?side2 A13.out).mono ?_); (case side1 => repeat (first | exact (Kd.R_reads' HO338.out).2.2 | (with_reducible refine Kd.C_alloc ?_ _) | (with_reducible refine Kd.C_drewN ?_ _) | (with_reducible refine Kd.C_drew ?_))); (case side2 => exact (Kd.R_reads' HO338.out).2.1); rintro e w29 ⟨v341, rfl, ho0, hb⟩; refine ⟨_, rfl, ?_⟩; have n0_ := Aside0.mk (Kd.R_below (by (with_reducible repeat (first | apply Kd.R_alloc | apply Kd.R_drewN | apply Kd.R_drew)); exact HO338.out) hb); have n1_ := Aside0.mk (Kd.R_lower ho0 (below_size (by repeat (first | (with_reducible first | exact HB.out | apply below_alloc | apply pw_below_drewN | apply below_drew1) | exact HB.out)))); have n2_ := Aside0.mk (below_step (by repeat (first | (with_reducible first | exact HB.out | apply below_alloc | apply pw_below_drewN | apply below_drew1) | exact HB.out)) hb); clear HO338; clear HB; have HO338 := n0_; have HO342 := n1_; have HB := n2_; clear n0_ n1_ n2_; (try clear hb); (try clear hb2); (try clear hk); (try clear hi); (try clear ho0)) | ((with_reducible refine gate_callee (f := 26) rfl ?_); refine goesL_ (some 28) rfl rfl Try.func26 (by kernel_rfl) rfl #[.int .i64 a0, .slice A1 l1.length c1] rfl (by (try simp only [List.map_toArray, List.map_cons, List.map_nil]); first | done | rfl | (simp only [List.length_drop, List.length_take]; rfl)) ?_; (with_reducible refine (swarfref29_Order.calls kj2 a0 _ _ l1 t343 t344 _ ?side1 ?side2 A14.out).mono ?_); (case side1 => repeat (first | exact (Kd.C_below HR1.out HB.out) | (with_reducible refine Kd.C_alloc ?_ _) | (with_reducible refine Kd.C_drewN ?_ _) | (with_reducible refine Kd.C_drew ?_))); (case side2 => exact HC1.out); rintro e w30 ⟨v345, rfl, ho0, hb⟩; refine ⟨_, rfl, ?_⟩; have n0_ := Aside0.mk (Kd.R_below (by (with_reducible repeat (first | apply Kd.R_alloc | apply Kd.R_drewN | apply Kd.R_drew)); exact HO338.out) hb); have n1_ := Aside0.mk (Kd.R_elder' (by (with_reducible repeat (first | apply Kd.R_alloc | apply Kd.R_drewN | apply Kd.R_drew)); exact HO342.out) (Kd.R_base ho0) hb); have n2_ := Aside0.mk (Kd.R_lower (Kd.R_new' ho0 (Kd.R_lt (by (with_reducible repeat (first | apply Kd.R_alloc | apply Kd.R_drewN | apply Kd.R_drew)); exact HO342.out))) (below_size (by repeat (first | (with_reducible first | exact HB.out | apply below_alloc | apply pw_below_drewN | apply below_drew1) | exact HB.out)))); have n3_ := Aside0.mk (below_step (by repeat (first | (with_reducible first | exact HB.out | apply below_alloc | apply pw_below_drewN | apply below_drew1) | exact HB.out)) hb); clear HO338; clear HO342; clear HB; have HO338 := n0_; have HO342 := n1_; have HO346 := n2_; have HB := n3_; clear n0_ n1_ n2_ n3_; (try clear hb); (try clear hb2); (try clear hk); (try clear hi); (try clear ho0); obtain ⟨Ao31, co31, eo31⟩ := Kd.R_slice HO342.out; subst eo31; obtain ⟨Ao32, co32, eo32⟩ := Kd.R_slice HO346.out; subst eo32) | (go_at_call 27; (with_reducible refine (swarfref29_Ints.calls kj2 _ _ t339 _ _ t343 true _ ?side1 ?side2 ?side3 ?side4 A16.out).mono ?_); (case side1 => repeat (first | exact (Kd.R_reads' HO342.out).2.2 | (with_reducible refine Kd.C_alloc ?_ _) | (with_reducible refine Kd.C_drewN ?_ _) | (with_reducible refine Kd.C_drew ?_))); (case side2 => exact (Kd.R_reads' HO342.out).2.1); (case side3 => repeat (first | exact (Kd.R_reads' HO346.out).2.2 | (with_reducible refine Kd.C_alloc ?_ _) | (with_reducible refine Kd.C_drewN ?_ _) | (with_reducible refine Kd.C_drew ?_))); (case side4 => exact (Kd.R_reads' HO346.out).2.1); rintro e w' ⟨rfl, ⟨nd, rfl⟩⟩))
       go_ret
       exact ⟨by first | rfl | (simp [errW_none, errW_some] <;> rfl) | (simp [*, errW_none, errW_some] <;> rfl), by repeat (first | (with_reducible first | exact HB.out | apply below_alloc | apply pw_below_drewN | apply below_drew1) | exact HB.out)⟩
     ·replace c17 := Bool.eq_false_iff.mpr c17
      subst c17
      have H1 : (some false) = some r := by rw [if_neg (show ¬ (false = true) by decide)] at H; exact H
      clear H; have H := H1; clear H1
      (rw [HRT.out] at H; exact absurd H (by decide))
    ·rw [if_neg c15] at H
     have c15b0 : (t340 == t344) = false := beq_eq_false_iff_ne.mpr c15
     have c15b1 : (t340 != t344) = true := bne_iff_ne.mpr c15
     (rw [HRT.out] at H; exact absurd H (by decide))
end Go.Proofs.Ytbbkclcfmcjlgaa.P

/- The examples of the chapter hold, told by the printed function. -/

namespace Go.Proofs.Ytbbkclcfmcjlgaa.B
open Go.RowKit Go.Proofs.Ytbbkclcfmcjlgaa.P Go.Proofs.YtbbkclcfmcjlgaaW.PrintWords Go.Proofs.YtbbkclcfmcjlgaaW.PrintLast
theorem awake_ev : Ev (fun k => swarflaw29_awake.f k) true := Ev.of swarflaw29_awake.mono swarflaw29_awake.small
end Go.Proofs.Ytbbkclcfmcjlgaa.B

/- What the printed functions of relations come to: errors, lists of numbers and pairs, changes. Plain numbers and lists. -/

namespace Go.Proofs.Ytbbkclcfmcjlgaa.B
open Go.RowKit Go.Proofs.Ytbbkclcfmcjlgaa.P Go.Proofs.YtbbkclcfmcjlgaaW.PrintWords Go.Proofs.YtbbkclcfmcjlgaaW.PrintLast Go.Proofs.YtbbkclcfmcjlgaaW.PrintMore
set_option linter.unusedVariables false
set_option linter.unusedSimpArgs false

theorem wrap_mid (x : Int) (h0 : -4000000000000000 ≤ x) (h1 : x ≤ 4000000000000000) : wrap64 x = x := by unfold wrap64; omega
theorem wrap_succ (x : Int) (h0 : 0 ≤ x) (h1 : x ≤ 1000000000000000) : wrap64 (x + 1) = x + 1 := wrap_mid _ (by omega) (by omega)
theorem ev_end {α : Type} {g : Nat → Option α} {r : α} (h : ∀ k, g (k + 1) = some r) : Ev g r := Ev.step (f := fun _ => some r) h (Ev.now r)
def EvP {α : Type} (g : Nat → Option α) (Post : α → Prop) : Prop := ∃ r, Ev g r ∧ Post r
theorem EvP.step {α : Type} {g f : Nat → Option α} {Post : α → Prop} (h : ∀ k, g (k + 1) = f k) (k : EvP f Post) : EvP g Post := by
  obtain ⟨r, h1, h2⟩ := k
  exact ⟨r, Ev.step h h1, h2⟩
theorem EvP.stop {α : Type} {g : Nat → Option α} {Post : α → Prop} (r : α) (h : ∀ k, g (k + 1) = some r) (hp : Post r) : EvP g Post := ⟨r, ev_end h, hp⟩
theorem EvP.bind {α β : Type} {g : Nat → Option α} {f : Nat → α → Option β} {a : α} {Post : β → Prop} (h : Ev g a) (k : EvP (fun n => f n a) Post) : EvP (fun n => (g n).bind (f n)) Post := by
  obtain ⟨r, h1, h2⟩ := k
  exact ⟨r, Ev.bind h h1, h2⟩
theorem EvP.bindP {α β : Type} {g : Nat → Option α} {f : Nat → α → Option β} {P1 : α → Prop} {Post : β → Prop} (h : EvP g P1) (k : ∀ a, P1 a → EvP (fun n => f n a) Post) : EvP (fun n => (g n).bind (f n)) Post := by
  obtain ⟨a, h1, h2⟩ := h
  exact EvP.bind h1 (k a h2)
theorem EvP.mono {α : Type} {g : Nat → Option α} {P Q : α → Prop} (h : EvP g P) (hq : ∀ a, P a → Q a) : EvP g Q := by
  obtain ⟨r, h1, h2⟩ := h
  exact ⟨r, h1, hq _ h2⟩
theorem EvP.same {α : Type} {g f : Nat → Option α} {Post : α → Prop} (h : ∀ k, g k = f k) (k : EvP f Post) : EvP g Post := by
  have : g = f := funext h
  rw [this]; exact k

/-! ### Lists read at places -/
theorem drop_T47 (l : List S47) (j : Int) (h0 : 0 ≤ j) (h : j < (l.length : Int)) : l.drop j.toNat = rd_T47 l j :: l.drop (j + 1).toNat := by
  have h1 : j.toNat < l.length := by omega
  rw [List.drop_eq_getElem_cons h1, show (j + 1).toNat = j.toNat + 1 by omega]
  congr 1
  unfold rd_T47
  simp [List.getD, h1]
theorem drop_rd (l : List Int) (j : Int) (h0 : 0 ≤ j) (h : j < (l.length : Int)) : l.drop j.toNat = rd l j :: l.drop (j + 1).toNat := by
  have h1 : j.toNat < l.length := by omega
  rw [List.drop_eq_getElem_cons h1, show (j + 1).toNat = j.toNat + 1 by omega]
  congr 1
  unfold rd
  simp [List.getD, h1]
theorem drop_end {α : Type} (l : List α) (j : Int) (h : (l.length : Int) ≤ j) : l.drop j.toNat = [] := List.drop_eq_nil_of_le (by omega)

/-! ### The error of a relation -/
def okp (n : Int) (p : S47) : Bool := decide (p.f0 ≠ p.f1) && (decide (0 ≤ p.f0) && decide (p.f0 < n)) && (decide (0 ≤ p.f1) && decide (p.f1 < n))
theorem okp_iff (n : Int) (p : S47) : okp n p = true ↔ p.f0 ≠ p.f1 ∧ (0 ≤ p.f0 ∧ p.f0 < n) ∧ (0 ≤ p.f1 ∧ p.f1 < n) := by simp [okp, and_assoc]
def vErr (n : Int) (l : List S47) : Int := if n > 200 ∨ (l.length : Int) > 2000 then 3 else if n < 0 then 1 else if l.all (okp n) = true then 0 else 1
theorem vErr_zero {n : Int} {l : List S47} (h : vErr n l = 0) : 0 ≤ n ∧ n ≤ 200 ∧ l.length ≤ 2000 ∧ ∀ p ∈ l, okp n p = true := by
  unfold vErr at h
  split at h
  · cases h
  · split at h
    · cases h
    · split at h
      · rename_i h1 h2 h3
        refine ⟨by omega, by omega, by omega, ?_⟩
        rw [List.all_eq_true] at h3
        exact h3
      · cases h
theorem valid_l0 (n : Int) (l : List S47) (hn : l.length ≤ 100000000000000) (d : Nat) : ∀ j : Int, 0 ≤ j → j + d = l.length → Ev (fun k => precedence_Valid.l0 k n l (l.length : Int) j) (if (l.drop j.toNat).all (okp n) = true then 0 else 1) := by
  induction d with
  | zero =>
    intro j h0 hj
    rw [drop_end l j (by omega)]
    exact ev_end (fun k => by simp only [precedence_Valid.l0]; rw [if_neg (by omega)]; rfl)
  | succ d ih =>
    intro j h0 hj
    have hw := wrap_succ j h0 (by omega)
    rw [drop_T47 l j h0 (by omega)]
    generalize hp : rd_T47 l j = p
    by_cases ho : okp n p = true
    · have hi := ih (j + 1) (by omega) (by omega)
      rw [List.all_cons, ho, Bool.true_and]
      refine Ev.step (fun k => ?_) hi
      rw [okp_iff] at ho
      simp only [precedence_Valid.l0]
      rw [if_pos (by omega), if_pos (by omega), if_pos (by omega), hp, if_neg ho.1, if_neg (by unfold mn; split <;> omega), if_neg (by unfold mx; split <;> omega), hw]
    · rw [List.all_cons, show okp n p = false by simpa using ho, Bool.false_and]
      refine ev_end (fun k => ?_)
      rw [okp_iff] at ho
      simp only [precedence_Valid.l0]
      rw [if_pos (by omega), if_pos (by omega), if_pos (by omega), hp]
      by_cases h1 : p.f0 = p.f1
      · rw [if_pos h1]; rfl
      · rw [if_neg h1]
        by_cases h2 : mn p.f0 p.f1 < 0
        · rw [if_pos h2]; rfl
        · rw [if_neg h2, if_pos (by unfold mn at h2; unfold mx; split at h2 <;> split <;> omega)]; rfl
theorem rvalid_l0 (n : Int) (l : List S47) (hn : l.length ≤ 100000000000000) (d : Nat) : ∀ j : Int, 0 ≤ j → j + d = l.length → Ev (fun k => swarfref29_Valid.l0 k n l j) (if (l.drop j.toNat).all (okp n) = true then 0 else 1) := by
  induction d with
  | zero =>
    intro j h0 hj
    rw [drop_end l j (by omega)]
    exact ev_end (fun k => by simp only [swarfref29_Valid.l0]; rw [if_neg (by omega)]; rfl)
  | succ d ih =>
    intro j h0 hj
    have hw := wrap_succ j h0 (by omega)
    rw [drop_T47 l j h0 (by omega)]
    generalize hp : rd_T47 l j = p
    by_cases ho : okp n p = true
    · have hi := ih (j + 1) (by omega) (by omega)
      rw [List.all_cons, ho, Bool.true_and]
      refine Ev.step (fun k => ?_) hi
      rw [okp_iff] at ho
      simp only [swarfref29_Valid.l0]
      rw [if_pos (by omega), if_pos (by omega), hp, if_neg (by omega), if_neg (by omega), if_neg (by omega), if_neg (by omega), if_neg ho.1, hw]
    · rw [List.all_cons, show okp n p = false by simpa using ho, Bool.false_and]
      refine ev_end (fun k => ?_)
      rw [okp_iff] at ho
      simp only [swarfref29_Valid.l0]
      rw [if_pos (by omega), if_pos (by omega), hp]
      by_cases h1 : p.f0 < 0
      · rw [if_pos h1]; rfl
      · rw [if_neg h1]
        by_cases h2 : p.f0 ≥ n
        · rw [if_pos h2]; rfl
        · rw [if_neg h2]
          by_cases h3 : p.f1 < 0
          · rw [if_pos h3]; rfl
          · rw [if_neg h3]
            by_cases h4 : p.f1 ≥ n
            · rw [if_pos h4]; rfl
            · rw [if_neg h4, if_pos (by omega)]; rfl
theorem valid_ev (n : Int) (l : List S47) (hn : l.length ≤ 100000000000000) : Ev (fun k => precedence_Valid.f k n l) (vErr n l) := by
  have h := valid_l0 n l hn l.length 0 (by omega) (by omega)
  rw [show (0 : Int).toNat = 0 from rfl, List.drop_zero] at h
  unfold precedence_Valid.f vErr
  by_cases c : n > 200
  · simp only [if_pos c, if_pos (show n > 200 ∨ (l.length : Int) > 2000 from .inl c)]
    exact ev_end (fun k => by simp [precedence_Valid.j0])
  · simp only [if_neg c]
    by_cases c2 : (l.length : Int) > 2000
    · simp only [if_pos (show n > 200 ∨ (l.length : Int) > 2000 from .inr c2), decide_eq_true c2]
      exact ev_end (fun k => by simp [precedence_Valid.j0])
    · simp only [if_neg (show ¬ (n > 200 ∨ (l.length : Int) > 2000) by omega), decide_eq_false c2]
      by_cases c3 : n < 0
      · simp only [if_pos c3]
        exact ev_end (fun k => by simp [precedence_Valid.j0, c3])
      · simp only [if_neg c3]
        refine Ev.step (fun k => ?_) h
        simp only [precedence_Valid.j0]
        rw [if_neg (by decide), if_neg c3]
theorem rvalid_ev (n : Int) (l : List S47) (hn : l.length ≤ 100000000000000) : Ev (fun k => swarfref29_Valid.f k n l) (vErr n l) := by
  have h := rvalid_l0 n l hn l.length 0 (by omega) (by omega)
  rw [show (0 : Int).toNat = 0 from rfl, List.drop_zero] at h
  unfold swarfref29_Valid.f vErr
  by_cases c : n > 200
  · simp only [if_pos c, if_pos (show n > 200 ∨ (l.length : Int) > 2000 from .inl c)]
    exact ev_end (fun k => by simp [swarfref29_Valid.j0])
  · simp only [if_neg c]
    by_cases c2 : (l.length : Int) > 2000
    · simp only [if_pos (show n > 200 ∨ (l.length : Int) > 2000 from .inr c2), decide_eq_true c2]
      exact ev_end (fun k => by simp [swarfref29_Valid.j0])
    · simp only [if_neg (show ¬ (n > 200 ∨ (l.length : Int) > 2000) by omega), decide_eq_false c2]
      by_cases c3 : n < 0
      · simp only [if_pos c3]
        exact ev_end (fun k => by simp [swarfref29_Valid.j0, c3])
      · simp only [if_neg c3]
        refine Ev.step (fun k => ?_) h
        simp only [swarfref29_Valid.j0]
        rw [if_neg (by decide), if_neg c3]
def fewB (n m : Int) (l : List S47) : Bool := if (l.length : Int) ≤ 60 then (if n ≤ m then true else (vErr n l != 0)) else false
theorem few_ev (n m : Int) (l : List S47) : Ev (fun k => swarflaw29_few.f k n m l) (fewB n m l) := by
  unfold swarflaw29_few.f fewB
  by_cases c : (l.length : Int) ≤ 60
  · simp only [if_pos c]
    by_cases c2 : n ≤ m
    · simp only [if_pos c2]; exact Ev.now _
    · simp only [if_neg c2]
      exact Ev.bind (rvalid_ev n l (by omega)) (Ev.now _)
  · simp only [if_neg c]; exact Ev.now _
theorem cp_eq (l : List S47) (hn : l.length < 8796093022208) : swarflaw29_cp.f l = some l := by
  unfold swarflaw29_cp.f
  simp only [Option.bind_some]
  rw [if_pos (by simpa using hn)]
  rfl

/-! ### Equal lists -/
theorem ints_l0 (a b : List Int) (hl : a.length = b.length) (hn : a.length ≤ 100000000000000) (d : Nat) : ∀ j : Int, 0 ≤ j → j + d = a.length → Ev (fun k => swarfref29_Ints.l0 k a b j) (decide (a.drop j.toNat = b.drop j.toNat)) := by
  induction d with
  | zero =>
    intro j h0 hj
    rw [drop_end a j (by omega), drop_end b j (by omega)]
    exact ev_end (fun k => by simp only [swarfref29_Ints.l0]; rw [if_neg (by omega)]; rfl)
  | succ d ih =>
    intro j h0 hj
    have hw := wrap_succ j h0 (by omega)
    rw [drop_rd a j h0 (by omega), drop_rd b j h0 (by omega)]
    by_cases h : rd a j = rd b j
    · rw [h]
      have hi := ih (j + 1) (by omega) (by omega)
      rw [show decide (rd b j :: a.drop (j + 1).toNat = rd b j :: b.drop (j + 1).toNat) = decide (a.drop (j + 1).toNat = b.drop (j + 1).toNat) by simp]
      refine Ev.step (fun k => ?_) hi
      simp only [swarfref29_Ints.l0]
      rw [if_pos (by omega), if_pos (by omega), if_pos (by omega), if_pos h, hw]
    · rw [show decide (rd a j :: a.drop (j + 1).toNat = rd b j :: b.drop (j + 1).toNat) = false by simp [h]]
      refine ev_end (fun k => ?_)
      simp only [swarfref29_Ints.l0]
      rw [if_pos (by omega), if_pos (by omega), if_pos (by omega), if_neg h]
theorem ints_ev (a b : List Int) (hn : a.length ≤ 100000000000000) : Ev (fun k => swarfref29_Ints.f k a b) (decide (a = b)) := by
  unfold swarfref29_Ints.f
  by_cases h : (a.length : Int) = b.length
  · simp only [if_pos h]
    exact ints_l0 a b (by omega) hn a.length 0 (by omega) (by omega)
  · simp only [if_neg h]
    rw [show decide (a = b) = false from decide_eq_false (fun e => h (by rw [e]))]
    exact Ev.now _
theorem S47.eta (p q : S47) : p = q ↔ p.f0 = q.f0 ∧ p.f1 = q.f1 := by
  constructor
  · rintro rfl; exact ⟨rfl, rfl⟩
  · cases p; cases q; rintro ⟨rfl, rfl⟩; rfl
instance : DecidableEq S47 := fun p q => if h : p.f0 = q.f0 ∧ p.f1 = q.f1 then isTrue ((S47.eta p q).2 h) else isFalse (fun e => h ((S47.eta p q).1 e))
/-! ### Is it in the list? -/
theorem in_l0 (o : List Int) (hl : o.length ≤ 100000000000000) (x : Int) (d : Nat) : ∀ j : Int, 0 ≤ j → j + d = o.length → Ev (fun k => swarfref29_in.l0 k o x j) (decide (x ∈ o.drop j.toNat)) := by
  induction d with
  | zero =>
    intro j h0 hj
    rw [drop_end o j (by omega)]
    exact ev_end (fun k => by simp only [swarfref29_in.l0]; rw [if_neg (by omega)]; simp)
  | succ d ih =>
    intro j h0 hj
    have hw := wrap_succ j h0 (by omega)
    rw [drop_rd o j h0 (by omega)]
    generalize hy : rd o j = y
    by_cases h : y = x
    · rw [show decide (x ∈ y :: o.drop (j + 1).toNat) = true by simp [h]]
      exact ev_end (fun k => by simp only [swarfref29_in.l0]; rw [if_pos (by omega), if_pos (by omega), hy, if_pos h])
    · rw [show decide (x ∈ y :: o.drop (j + 1).toNat) = decide (x ∈ o.drop (j + 1).toNat) by simp [Ne.symm h]]
      refine Ev.step (fun k => ?_) (ih (j + 1) (by omega) (by omega))
      simp only [swarfref29_in.l0]
      rw [if_pos (by omega), if_pos (by omega), hy, if_neg h, hw]
theorem in_ev (o : List Int) (hl : o.length ≤ 100000000000000) (x : Int) : Ev (fun k => swarfref29_in.f k o x) (decide (x ∈ o)) := by
  unfold swarfref29_in.f
  exact in_l0 o hl x o.length 0 (by omega) (by omega)
/-- All numbers that must come before x are in o. -/
def rdy (l : List S47) (o : List Int) (x : Int) : Bool := l.all fun p => decide (p.f1 = x → p.f0 ∈ o)
theorem rdy_iff (l : List S47) (o : List Int) (x : Int) : rdy l o x = true ↔ ∀ a, (⟨a, x⟩ : S47) ∈ l → a ∈ o := by
  unfold rdy
  rw [List.all_eq_true]
  constructor
  · intro h a ha
    have := h _ ha
    simpa using this
  · intro h p hp
    rw [decide_eq_true_iff]
    intro e
    exact h p.f0 (by rw [← e]; exact hp)
theorem ready_l0 (l : List S47) (hl : l.length ≤ 100000000000000) (o : List Int) (ho : o.length ≤ 100000000000000) (x : Int) (d : Nat) : ∀ j : Int, 0 ≤ j → j + d = l.length → Ev (fun k => swarfref29_ready.l0 k l o x j) (rdy (l.drop j.toNat) o x) := by
  induction d with
  | zero =>
    intro j h0 hj
    rw [drop_end l j (by omega)]
    exact ev_end (fun k => by simp only [swarfref29_ready.l0]; rw [if_neg (by omega)]; rfl)
  | succ d ih =>
    intro j h0 hj
    have hw := wrap_succ j h0 (by omega)
    rw [drop_T47 l j h0 (by omega)]
    generalize hy : rd_T47 l j = y
    have hi := ih (j + 1) (by omega) (by omega)
    by_cases h : y.f1 = x
    · by_cases h2 : y.f0 ∈ o
      · rw [show rdy (y :: l.drop (j + 1).toNat) o x = rdy (l.drop (j + 1).toNat) o x by simp [rdy, h2]]
        refine Ev.step (f := fun k => (swarfref29_in.f k o y.f0).bind fun t241 => if t241 = true then swarfref29_ready.l0 k l o x (j + 1) else some false) (fun k => ?_) (Ev.bind (in_ev o ho y.f0) ?_)
        · simp only [swarfref29_ready.l0]
          rw [if_pos (by omega), if_pos (by omega), hy, if_pos h, hw]
        · simp only [h2, decide_true, if_true]; exact hi
      · rw [show rdy (y :: l.drop (j + 1).toNat) o x = false by simp [rdy, h2, h]]
        refine Ev.step (f := fun k => (swarfref29_in.f k o y.f0).bind fun t241 => if t241 = true then swarfref29_ready.l0 k l o x (j + 1) else some false) (fun k => ?_) (Ev.bind (in_ev o ho y.f0) ?_)
        · simp only [swarfref29_ready.l0]
          rw [if_pos (by omega), if_pos (by omega), hy, if_pos h, hw]
        · simp only [h2, decide_false]; exact Ev.now _
    · rw [show rdy (y :: l.drop (j + 1).toNat) o x = rdy (l.drop (j + 1).toNat) o x by simp [rdy, h]]
      refine Ev.step (fun k => ?_) hi
      simp only [swarfref29_ready.l0]
      rw [if_pos (by omega), if_pos (by omega), hy, if_neg h, hw]
theorem ready_ev (l : List S47) (hl : l.length ≤ 100000000000000) (o : List Int) (ho : o.length ≤ 100000000000000) (x : Int) : Ev (fun k => swarfref29_ready.f k l o x) (rdy l o x) := by
  unfold swarfref29_ready.f
  exact ready_l0 l hl o ho x l.length 0 (by omega) (by omega)
end Go.Proofs.Ytbbkclcfmcjlgaa.B

/- Chains, cycles and orders of relations over whole numbers. Plain numbers and lists. -/
namespace Go.Proofs.Ytbbkclcfmcjlgaa.Gr
set_option linter.unusedVariables false

/-! ### Chains -/
inductive Tc (R : Int → Int → Prop) : Int → Int → Prop
  | one {a b : Int} : R a b → Tc R a b
  | step {a c b : Int} : R a c → Tc R c b → Tc R a b
section
variable {R R' : Int → Int → Prop} {n a b c : Int}
theorem Tc.trans (h : Tc R a b) : Tc R b c → Tc R a c := by
  induction h with
  | one h => exact fun k => .step h k
  | step h _ ih => exact fun k => .step h (ih k)
theorem Tc.mono (hr : ∀ a b, R a b → R' a b) (h : Tc R a b) : Tc R' a b := by
  induction h with
  | one h => exact .one (hr _ _ h)
  | step h _ ih => exact .step (hr _ _ h) ih
/-- All numbers of the relation lie between 0 and n. -/
def Inn (R : Int → Int → Prop) (n : Int) : Prop := ∀ a b, R a b → (0 ≤ a ∧ a < n) ∧ (0 ≤ b ∧ b < n)
theorem Tc.inn (hr : Inn R n) (h : Tc R a b) : (0 ≤ a ∧ a < n) ∧ (0 ≤ b ∧ b < n) := by
  induction h with
  | one h => exact hr _ _ h
  | step h _ ih => exact ⟨(hr _ _ h).1, ih.2⟩
theorem Tc.head (h : Tc R a b) : ∃ c, R a c ∧ (c = b ∨ Tc R c b) := by
  cases h with
  | one h => exact ⟨_, h, .inl rfl⟩
  | step h k => exact ⟨_, h, .inr k⟩
/-! ### Chains whose inner numbers lie below k -/
inductive Pk (R : Int → Int → Prop) (k : Int) : Int → Int → Prop
  | one {a b : Int} : R a b → Pk R k a b
  | step {a c b : Int} : R a c → c < k → Pk R k c b → Pk R k a b
variable {k : Int}
theorem Pk.tc (h : Pk R k a b) : Tc R a b := by
  induction h with
  | one h => exact .one h
  | step h _ _ ih => exact .step h ih
theorem Pk.mono {k' : Int} (hk : k ≤ k') (h : Pk R k a b) : Pk R k' a b := by
  induction h with
  | one h => exact .one h
  | step h hc _ ih => exact .step h (by omega) ih
theorem Pk.of_tc (hr : Inn R n) (h : Tc R a b) : Pk R n a b := by
  induction h with
  | one h => exact .one h
  | step h _ ih => exact .step h (hr _ _ h).2.2 ih
theorem Pk.split (h : Pk R (k + 1) a b) : Pk R k a b ∨ (Pk R k a k ∧ Pk R k k b) := by
  induction h with
  | one h => exact .inl (.one h)
  | @step a c b h hc _ ih =>
    by_cases e : c = k
    · subst e
      rcases ih with ih | ih
      · exact .inr ⟨.one h, ih⟩
      · exact .inr ⟨.one h, ih.2⟩
    · have hc' : c < k := by omega
      rcases ih with ih | ih
      · exact .inl (.step h hc' ih)
      · exact .inr ⟨.step h hc' ih.1, ih.2⟩
theorem Pk.zero (hr : Inn R n) (h : Pk R 0 a b) : R a b := by
  cases h with
  | one h => exact h
  | step h hc _ => have := (hr _ _ h).2.1; omega
end

/-! ### Numbers below n -/
theorem pig (n : Nat) : ∀ o : List Int, o.Nodup → (∀ x ∈ o, 0 ≤ x ∧ x < (n : Int)) → o.length ≤ n := by
  induction n with
  | zero =>
    intro o _ h
    cases o with
    | nil => exact Nat.le_refl _
    | cons x o => have := h x List.mem_cons_self; omega
  | succ n ih =>
    intro o hd h
    by_cases hm : (n : Int) ∈ o
    · have h1 := ih (o.erase (n : Int)) (hd.erase _) (fun x hx => by
        have h2 := (hd.mem_erase_iff).1 hx
        have h3 := h x h2.2
        have : x ≠ (n : Int) := h2.1
        omega)
      rw [List.length_erase_of_mem hm] at h1
      omega
    · have h1 := ih o hd (fun x hx => by
        have h3 := h x hx
        have : x ≠ (n : Int) := fun e => hm (e ▸ hx)
        omega)
      omega
theorem all_in (n : Nat) : ∀ o : List Int, (∀ i : Int, 0 ≤ i → i < (n : Int) → i ∈ o) → n ≤ o.length := by
  induction n with
  | zero => intro o _; omega
  | succ n ih =>
    intro o h
    have hm := h n (by omega) (by omega)
    have h1 := ih (o.erase (n : Int)) (fun i h0 hi => (List.mem_erase_of_ne (by omega)).2 (h i h0 (by omega)))
    rw [List.length_erase_of_mem hm] at h1
    have := List.length_pos_of_mem hm
    omega
theorem some_out {n : Int} {o : List Int} (h : (o.length : Int) < n) : ∃ i : Int, (0 ≤ i ∧ i < n) ∧ ¬ i ∈ o := by
  by_cases hx : ∃ i : Int, (0 ≤ i ∧ i < n) ∧ ¬ i ∈ o
  · exact hx
  · have := all_in n.toNat o (fun i h0 hi => by
      by_cases hm : i ∈ o
      · exact hm
      · exact absurd ⟨i, ⟨h0, by omega⟩, hm⟩ hx)
    omega
theorem full_in {n : Int} {o : List Int} (hd : o.Nodup) (h : ∀ x ∈ o, 0 ≤ x ∧ x < n) (hl : (o.length : Int) = n) (i : Int) (h0 : 0 ≤ i) (hi : i < n) : i ∈ o := by
  by_cases hm : i ∈ o
  · exact hm
  · have := pig n.toNat (i :: o) (List.nodup_cons.2 ⟨hm, hd⟩) (fun x hx => by
      rcases List.mem_cons.1 hx with rfl | hx
      · omega
      · have := h x hx; omega)
    simp only [List.length_cons] at this
    omega

/-! ### Orders -/
def Acyc (R : Int → Int → Prop) : Prop := ∀ a, ¬ Tc R a a
/-- Whatever must come before a number of o stands before it in o. -/
def Topo (R : Int → Int → Prop) (o : List Int) : Prop := ∀ (i : Nat) (x : Int), o[i]? = some x → ∀ j, R j x → j ∈ o.take i
theorem Topo.tc {R : Int → Int → Prop} {o : List Int} (ht : Topo R o) {a b : Int} (h : Tc R a b) : ∀ i : Nat, o[i]? = some b → a ∈ o.take i := by
  induction h with
  | one h => exact fun i hi => ht i _ hi _ h
  | @step a c b h _ ih =>
    intro i hi
    have hc := ih i hi
    obtain ⟨j, hj⟩ := List.getElem?_of_mem hc
    have hji : j < i := by
      rw [List.getElem?_take] at hj
      split at hj
      · assumption
      · cases hj
    have hj' : o[j]? = some c := by
      rw [List.getElem?_take, if_pos hji] at hj
      exact hj
    have := ht j c hj' a h
    exact (List.take_subset_take_left o (by omega)) this
theorem Topo.acyc {R : Int → Int → Prop} {o : List Int} {n : Int} (ht : Topo R o) (hd : o.Nodup) (hin : Inn R n) (hall : ∀ i, 0 ≤ i → i < n → i ∈ o) : Acyc R := by
  intro a h
  have ha := (h.inn hin).1
  obtain ⟨i, hi⟩ := List.getElem?_of_mem (hall a ha.1 ha.2)
  have h1 := ht.tc h i hi
  obtain ⟨j, hj⟩ := List.getElem?_of_mem h1
  have hji : j < i := by
    rw [List.getElem?_take] at hj
    split at hj
    · assumption
    · cases hj
  rw [List.getElem?_take, if_pos hji] at hj
  obtain ⟨hil, hi2⟩ := List.getElem?_eq_some_iff.1 hi
  obtain ⟨hjl, hj2⟩ := List.getElem?_eq_some_iff.1 hj
  have := (List.getElem_inj (xs := o) (h₀ := hjl) (h₁ := hil) hd).1 (hj2.trans hi2.symm)
  omega
/-- Where there is no cycle, something outside o waits for nothing outside o. -/
theorem source {R : Int → Int → Prop} {n : Int} (hin : Inn R n) (hac : Acyc R) (o : List Int) (hx : ∃ i : Int, (0 ≤ i ∧ i < n) ∧ ¬ i ∈ o) : ∃ i : Int, (0 ≤ i ∧ i < n) ∧ ¬ i ∈ o ∧ ∀ j, R j i → j ∈ o := by
  by_cases hz : ∃ i : Int, (0 ≤ i ∧ i < n) ∧ ¬ i ∈ o ∧ ∀ j, R j i → j ∈ o
  · exact hz
  · exfalso
    have step : ∀ i : Int, (0 ≤ i ∧ i < n) → ¬ i ∈ o → ∃ j, R j i ∧ ¬ j ∈ o := by
      intro i hi ho
      by_cases he : ∃ j, R j i ∧ ¬ j ∈ o
      · exact he
      · exact absurd ⟨i, hi, ho, fun j hj => by
          by_cases hm : j ∈ o
          · exact hm
          · exact absurd ⟨j, hj, hm⟩ he⟩ hz
    have chain : ∀ m : Nat, ∃ (h : Int) (L : List Int), (h :: L).length = m + 1 ∧ (h :: L).Nodup ∧ (∀ x ∈ h :: L, 0 ≤ x ∧ x < n) ∧ ¬ h ∈ o ∧ ∀ y ∈ L, Tc R h y := by
      intro m
      induction m with
      | zero =>
        obtain ⟨i, hi, ho⟩ := hx
        exact ⟨i, [], rfl, by simp, by simpa using hi, ho, by simp⟩
      | succ m ih =>
        obtain ⟨h, L, hl, hd, hb, ho, ht⟩ := ih
        obtain ⟨j, hj, hjo⟩ := step h (hb h List.mem_cons_self) ho
        refine ⟨j, h :: L, by simp only [List.length_cons] at hl ⊢; omega, List.nodup_cons.2 ⟨fun hm => ?_, hd⟩, fun x hx => ?_, hjo, fun y hy => ?_⟩
        · rcases List.mem_cons.1 hm with rfl | hm
          · exact hac _ (.one hj)
          · exact hac _ (.step hj (ht _ hm))
        · rcases List.mem_cons.1 hx with rfl | hx
          · exact (hin _ _ hj).1
          · exact hb x hx
        · rcases List.mem_cons.1 hy with rfl | hy
          · exact .one hj
          · exact .step hj (ht y hy)
    obtain ⟨h, L, hl, hd, hb, _, _⟩ := chain n.toNat
    have := pig n.toNat (h :: L) hd (fun x hx => by have := hb x hx; omega)
    omega

/-! ### The least relation with the same chains -/
end Go.Proofs.Ytbbkclcfmcjlgaa.Gr

/- What the reference's table of dependences comes to: chains. Plain numbers and lists. -/

namespace Go.Proofs.Ytbbkclcfmcjlgaa.B
open Go.RowKit Go.Proofs.Ytbbkclcfmcjlgaa.P Go.Proofs.Ytbbkclcfmcjlgaa.Gr Go.Proofs.YtbbkclcfmcjlgaaW.PrintWords Go.Proofs.YtbbkclcfmcjlgaaW.PrintLast Go.Proofs.YtbbkclcfmcjlgaaW.PrintMore
set_option linter.unusedVariables false
set_option linter.unusedSimpArgs false

def Rl (l : List S47) (a b : Int) : Prop := (⟨a, b⟩ : S47) ∈ l
theorem rl_inn {n : Int} {l : List S47} (h : ∀ p ∈ l, okp n p = true) : Inn (Rl l) n := fun a b hab => ((okp_iff _ _).1 (h _ hab)).2
/-! ### Tables -/
def mt (m : List (List Bool)) (a b : Int) : Bool := rdOf false (rd_L7 m a) b
def st (m : List (List Bool)) (a b : Int) (v : Bool) : List (List Bool) := m.set a.toNat ((rd_L7 m a).set b.toNat v)
def Sq (n : Int) (m : List (List Bool)) : Prop := (m.length : Int) = n ∧ ∀ a, 0 ≤ a → a < n → ((rd_L7 m a).length : Int) = n
theorem rd_set_self (m : List (List Bool)) (a : Int) (y : List Bool) (h0 : 0 ≤ a) (h1 : a < (m.length : Int)) : rd_L7 (m.set a.toNat y) a = y := by
  unfold rd_L7
  rw [List.getD_eq_getElem?_getD, List.getElem?_set_self (by omega)]; rfl
theorem rd_set_ne (m : List (List Bool)) (a b : Int) (y : List Bool) (h0 : 0 ≤ a) (hb : 0 ≤ b) (h : b ≠ a) : rd_L7 (m.set a.toNat y) b = rd_L7 m b := by
  unfold rd_L7
  rw [List.getD_eq_getElem?_getD, List.getElem?_set_ne (by omega), List.getD_eq_getElem?_getD]
theorem of_set_self (r : List Bool) (b : Int) (v : Bool) (h0 : 0 ≤ b) (h1 : b < (r.length : Int)) : rdOf false (r.set b.toNat v) b = v := by
  unfold rdOf
  rw [List.getD_eq_getElem?_getD, List.getElem?_set_self (by omega)]; rfl
theorem of_set_ne (r : List Bool) (b c : Int) (v : Bool) (h0 : 0 ≤ b) (hc : 0 ≤ c) (h : c ≠ b) : rdOf false (r.set b.toNat v) c = rdOf false r c := by
  unfold rdOf
  rw [List.getD_eq_getElem?_getD, List.getElem?_set_ne (by omega), List.getD_eq_getElem?_getD]
theorem Sq.st {n : Int} {m : List (List Bool)} (h : Sq n m) {a b : Int} (a0 : 0 ≤ a) (a1 : a < n) (v : Bool) : Sq n (B.st m a b v) := by
  refine ⟨by unfold B.st; rw [List.length_set]; exact h.1, fun c c0 c1 => ?_⟩
  unfold B.st
  by_cases e : c = a
  · subst e
    rw [rd_set_self _ _ _ a0 (by rw [h.1]; exact a1), List.length_set]
    exact h.2 c c0 c1
  · rw [rd_set_ne _ _ _ _ a0 c0 e]
    exact h.2 c c0 c1
theorem mt_st {n : Int} {m : List (List Bool)} (h : Sq n m) {a b : Int} (a0 : 0 ≤ a) (a1 : a < n) (b0 : 0 ≤ b) (b1 : b < n) (v : Bool) {c d : Int} (c0 : 0 ≤ c) (d0 : 0 ≤ d) : mt (st m a b v) c d = if c = a ∧ d = b then v else mt m c d := by
  unfold mt st
  by_cases e : c = a
  · subst e
    rw [rd_set_self _ _ _ a0 (by rw [h.1]; exact a1)]
    by_cases e2 : d = b
    · subst e2
      rw [if_pos ⟨rfl, rfl⟩, of_set_self _ _ _ b0 (by rw [h.2 c a0 a1]; exact b1)]
    · rw [if_neg (fun h => e2 h.2), of_set_ne _ _ _ _ b0 d0 e2]
  · rw [if_neg (fun h => e h.1), rd_set_ne _ _ _ _ a0 c0 e]

/-! ### Warshall's rounds -/
def Inv2 (n : Int) (l : List S47) (k : Int) (m : List (List Bool)) : Prop :=
  Sq n m ∧ (∀ a b, 0 ≤ a → 0 ≤ b → mt m a b = true → Tc (Rl l) a b) ∧ (∀ a b, Pk (Rl l) k a b → mt m a b = true)
def Inv4 (n : Int) (l : List S47) (k a b : Int) (m : List (List Bool)) : Prop :=
  Inv2 n l k m ∧ ∀ a' b', (a' < a ∨ (a' = a ∧ b' < b)) → Pk (Rl l) (k + 1) a' b' → mt m a' b' = true
theorem inv4_set {n : Int} {l : List S47} (hin : Inn (Rl l) n) {k a b : Int} {m : List (List Bool)} (h : Inv4 n l k a b m) (a0 : 0 ≤ a) (a1 : a < n) (b0 : 0 ≤ b) (b1 : b < n) (k0 : 0 ≤ k) (v : Bool) (hv : v = (mt m a b || (mt m a k && mt m k b))) : Inv4 n l k a (b + 1) (st m a b v) := by
  obtain ⟨⟨hs, hd, hc⟩, hx⟩ := h
  have hm := fun {c d : Int} (c0 : 0 ≤ c) (d0 : 0 ≤ d) => mt_st hs a0 a1 b0 b1 v c0 d0
  refine ⟨⟨hs.st a0 a1 v, fun c d c0 d0 hcd => ?_, fun c d hcd => ?_⟩, fun c d hlt hcd => ?_⟩
  · rw [hm c0 d0] at hcd
    split at hcd
    · rename_i e
      obtain ⟨rfl, rfl⟩ := e
      rw [hv, Bool.or_eq_true, Bool.and_eq_true] at hcd
      rcases hcd with h1 | ⟨h1, h2⟩
      · exact hd _ _ a0 b0 h1
      · exact (hd _ _ a0 k0 h1).trans (hd _ _ k0 b0 h2)
    · exact hd c d c0 d0 hcd
  · have hr := (hcd.tc.inn hin)
    rw [hm hr.1.1 hr.2.1]
    split
    · rename_i e
      obtain ⟨rfl, rfl⟩ := e
      rw [hv, hc _ _ hcd]; rfl
    · exact hc c d hcd
  · have hr := (hcd.tc.inn hin)
    rw [hm hr.1.1 hr.2.1]
    split
    · rename_i e
      obtain ⟨rfl, rfl⟩ := e
      rw [hv]
      rcases hcd.split with h1 | ⟨h1, h2⟩
      · rw [hc _ _ h1]; rfl
      · rw [hc _ _ h1, hc _ _ h2]; simp
    · rename_i e
      exact hx c d (by omega) hcd
theorem dep_l4 {n : Int} {l : List S47} (hn : 0 ≤ n ∧ n ≤ 200) (hin : Inn (Rl l) n) (k a : Int) (k0 : 0 ≤ k) (k1 : k < n) (a0 : 0 ≤ a) (a1 : a < n) (Post : List (List Bool) → Prop)
    (hk : ∀ m, Inv4 n l k (a + 1) 0 m → EvP (fun f => swarfref29_Depends.l3 f n m k (a + 1)) Post) (d : Nat) : ∀ (b : Int) (m : List (List Bool)), 0 ≤ b → b + d = n → Inv4 n l k a b m → EvP (fun f => swarfref29_Depends.l4 f n m k a b) Post := by
  induction d with
  | zero =>
    intro b m b0 hb h
    refine EvP.step (fun f => ?_) (hk m ⟨h.1, fun c e hlt hp => h.2 c e ?_ hp⟩)
    · simp only [swarfref29_Depends.l4]
      rw [if_neg (by omega), wrap_succ a a0 (by omega)]
    · have := hp.tc.inn hin
      omega
  | succ d ih =>
    intro b m b0 hb h
    have hw := wrap_succ b b0 (by omega)
    have hs := h.1.1
    have la := hs.2 a a0 a1
    have lk := hs.2 k k0 k1
    have lm := hs.1
    by_cases c1 : mt m a b = true
    · refine EvP.step (fun f => ?_) (ih (b + 1) _ (by omega) (by omega) (inv4_set hin h a0 a1 b0 (by omega) k0 true (by rw [c1]; rfl)))
      simp only [swarfref29_Depends.l4]
      rw [if_pos (by omega), if_pos a0, if_pos (by omega), if_pos b0, if_pos (by omega), if_pos (show rdOf false (rd_L7 m a) b = true from c1), hw]
      rfl
    · have c1' : mt m a b = false := by simpa using c1
      by_cases c2 : mt m a k = true
      · refine EvP.step (fun f => ?_) (ih (b + 1) _ (by omega) (by omega) (inv4_set hin h a0 a1 b0 (by omega) k0 (mt m k b) (by rw [c1', c2]; simp)))
        simp only [swarfref29_Depends.l4]
        rw [if_pos (by omega), if_pos a0, if_pos (by omega), if_pos b0, if_pos (by omega), if_neg (show ¬ rdOf false (rd_L7 m a) b = true from c1), if_pos k0, if_pos (by omega), if_pos (show rdOf false (rd_L7 m a) k = true from c2), if_pos (by omega), if_pos (by omega), hw]
        rfl
      · have c2' : mt m a k = false := by simpa using c2
        refine EvP.step (fun f => ?_) (ih (b + 1) _ (by omega) (by omega) (inv4_set hin h a0 a1 b0 (by omega) k0 false (by rw [c1', c2']; simp)))
        simp only [swarfref29_Depends.l4]
        rw [if_pos (by omega), if_pos a0, if_pos (by omega), if_pos b0, if_pos (by omega), if_neg (show ¬ rdOf false (rd_L7 m a) b = true from c1), if_pos k0, if_pos (by omega), if_neg (show ¬ rdOf false (rd_L7 m a) k = true from c2), hw]
        rfl
theorem dep_l3 {n : Int} {l : List S47} (hn : 0 ≤ n ∧ n ≤ 200) (hin : Inn (Rl l) n) (k : Int) (k0 : 0 ≤ k) (k1 : k < n) (Post : List (List Bool) → Prop)
    (hk : ∀ m, Inv2 n l (k + 1) m → EvP (fun f => swarfref29_Depends.l2 f n m (k + 1)) Post) (d : Nat) : ∀ (a : Int) (m : List (List Bool)), 0 ≤ a → a + d = n → Inv4 n l k a 0 m → EvP (fun f => swarfref29_Depends.l3 f n m k a) Post := by
  induction d with
  | zero =>
    intro a m a0 ha h
    refine EvP.step (fun f => ?_) (hk m ⟨h.1.1, h.1.2.1, fun c e hp => h.2 c e ?_ hp⟩)
    · simp only [swarfref29_Depends.l3]
      rw [if_neg (by omega), wrap_succ k k0 (by omega)]
    · have := hp.tc.inn hin
      omega
  | succ d ih =>
    intro a m a0 ha h
    refine EvP.step (fun f => ?_) (dep_l4 hn hin k a k0 k1 a0 (by omega) Post (fun m' h' => ih (a + 1) m' (by omega) (by omega) h') n.toNat 0 m (by omega) (by omega) h)
    simp only [swarfref29_Depends.l3]
    rw [if_pos (by omega)]
/-- The table tells the chains. -/
def Tab (n : Int) (R : Int → Int → Prop) (m : List (List Bool)) : Prop := Sq n m ∧ ∀ a b, 0 ≤ a → 0 ≤ b → (mt m a b = true ↔ Tc R a b)
theorem dep_l2 {n : Int} {l : List S47} (hn : 0 ≤ n ∧ n ≤ 200) (hin : Inn (Rl l) n) (d : Nat) : ∀ (k : Int) (m : List (List Bool)), 0 ≤ k → k + d = n → Inv2 n l k m → EvP (fun f => swarfref29_Depends.l2 f n m k) (Tab n (Rl l)) := by
  induction d with
  | zero =>
    intro k m k0 hk h
    refine EvP.stop m (fun f => ?_) ⟨h.1, fun a b a0 b0 => ⟨h.2.1 a b a0 b0, fun ht => h.2.2 a b ?_⟩⟩
    · simp only [swarfref29_Depends.l2]
      rw [if_neg (by omega)]
    · have : k = n := by omega
      rw [this]
      exact Pk.of_tc hin ht
  | succ d ih =>
    intro k m k0 hk h
    refine EvP.step (fun f => ?_) (dep_l3 hn hin k k0 (by omega) _ (fun m' h' => ih (k + 1) m' (by omega) (by omega) h') n.toNat 0 m (by omega) (by omega) ⟨h, fun c e hlt hp => ?_⟩)
    · simp only [swarfref29_Depends.l2]
      rw [if_pos (by omega)]
    · have := hp.tc.inn hin
      omega
theorem dep_l1 {n : Int} {l : List S47} (hn : 0 ≤ n ∧ n ≤ 200) (hl : l.length ≤ 2000) (hok : ∀ p ∈ l, okp n p = true) (d : Nat) : ∀ (j : Int) (m : List (List Bool)), 0 ≤ j → j + d = l.length → Sq n m → (∀ a b, 0 ≤ a → 0 ≤ b → (mt m a b = true ↔ (⟨a, b⟩ : S47) ∈ l.take j.toNat)) → EvP (fun f => swarfref29_Depends.l1 f n l m j) (Tab n (Rl l)) := by
  induction d with
  | zero =>
    intro j m j0 hj hs h
    have hin := rl_inn hok
    rw [show l.take j.toNat = l from List.take_of_length_le (by omega)] at h
    refine EvP.step (fun f => ?_) (dep_l2 hn hin n.toNat 0 m (by omega) (by omega) ⟨hs, fun a b a0 b0 hab => .one ((h a b a0 b0).1 hab), fun a b hab => ?_⟩)
    · simp only [swarfref29_Depends.l1]
      rw [if_neg (by omega)]
    · have hr := hab.tc.inn hin
      exact (h a b hr.1.1 hr.2.1).2 (Pk.zero hin hab)
  | succ d ih =>
    intro j m j0 hj hs h
    have hw := wrap_succ j j0 (by omega)
    have hmem : rd_T47 l j ∈ l := by
      have := drop_T47 l j j0 (by omega)
      exact List.mem_of_mem_drop (by rw [this]; exact List.mem_cons_self)
    have ho := (okp_iff _ _).1 (hok _ hmem)
    have htake : l.take (j + 1).toNat = l.take j.toNat ++ [rd_T47 l j] := by
      rw [show (j + 1).toNat = j.toNat + 1 by omega, List.take_succ_eq_append_getElem (by omega)]
      congr 2
      unfold rd_T47
      rw [List.getD_eq_getElem?_getD, List.getElem?_eq_getElem (by omega)]
      rfl
    generalize hp : rd_T47 l j = p at hmem ho htake
    have lm := hs.1
    have lp := hs.2 p.f0 ho.2.1.1 ho.2.1.2
    refine EvP.step (fun f => ?_) (ih (j + 1) (st m p.f0 p.f1 true) (by omega) (by omega) (hs.st ho.2.1.1 ho.2.1.2 true) (fun a b a0 b0 => ?_))
    · simp only [swarfref29_Depends.l1]
      rw [hp, if_pos (by omega), if_pos j0, if_pos ho.2.1.1, if_pos (by omega), if_pos ho.2.2.1, if_pos (by omega), hw]
      rfl
    · rw [mt_st hs ho.2.1.1 ho.2.1.2 ho.2.2.1 ho.2.2.2 true a0 b0, htake, List.mem_append, List.mem_singleton, ← h a b a0 b0]
      have e : (⟨a, b⟩ : S47) = p ↔ a = p.f0 ∧ b = p.f1 := S47.eta _ _
      rw [e]
      split
      · rename_i hc; simp [hc]
      · rename_i hc; simp [hc]
theorem dep_l0 {n : Int} {l : List S47} (hn : 0 ≤ n ∧ n ≤ 200) (hl : l.length ≤ 2000) (hok : ∀ p ∈ l, okp n p = true) (d : Nat) : ∀ (j : Int) (m : List (List Bool)), 0 ≤ j → j + d = n → (m.length : Int) = n → (∀ a, 0 ≤ a → a < j → rd_L7 m a = List.replicate n.toNat false) → EvP (fun f => swarfref29_Depends.l0 f n l m j) (Tab n (Rl l)) := by
  induction d with
  | zero =>
    intro j m j0 hj hm h
    refine EvP.step (fun f => ?_) (dep_l1 hn hl hok l.length 0 m (by omega) (by omega) ⟨hm, fun a a0 a1 => ?_⟩ (fun a b a0 b0 => ?_))
    · simp only [swarfref29_Depends.l0]
      rw [if_neg (by omega)]
    · rw [h a a0 (by omega), List.length_replicate]; omega
    · have : mt m a b = false := by
        unfold mt
        by_cases ha : a < n
        · rw [h a a0 (by omega)]
          unfold rdOf
          rw [List.getD_eq_getElem?_getD, List.getElem?_replicate]
          split <;> rfl
        · have : rd_L7 m a = [] := by
            unfold rd_L7
            rw [List.getD_eq_getElem?_getD, List.getElem?_eq_none (by omega)]; rfl
          rw [this]; unfold rdOf; simp
      simp [this]
  | succ d ih =>
    intro j m j0 hj hm h
    have hw := wrap_succ j j0 (by omega)
    refine EvP.step (fun f => ?_) (ih (j + 1) (m.set j.toNat (List.replicate n.toNat false)) (by omega) (by omega) (by rw [List.length_set]; exact hm) (fun a a0 a1 => ?_))
    · simp only [swarfref29_Depends.l0]
      rw [if_pos (by omega), if_pos (by omega), if_pos (by omega), if_pos (by omega), if_pos (by omega), hw]
    · by_cases e : a = j
      · subst e
        exact rd_set_self _ _ _ a0 (by omega)
      · rw [rd_set_ne _ _ _ _ j0 a0 e]
        exact h a a0 (by omega)
theorem depends_ev {n : Int} {l : List S47} (h : vErr n l = 0) : EvP (fun f => swarfref29_Depends.f f n l) (Tab n (Rl l)) := by
  obtain ⟨h1, h2, h3, h4⟩ := vErr_zero h
  unfold swarfref29_Depends.f
  simp only [if_pos h1, if_pos (show n.toNat ≤ 11728124029610 by omega)]
  exact dep_l0 ⟨h1, h2⟩ h3 h4 n.toNat 0 _ (by omega) (by omega) (by simp; omega) (fun a a0 a1 => by omega)
theorem cyclic_l0 {n : Int} {R : Int → Int → Prop} {m : List (List Bool)} (hn : 0 ≤ n ∧ n ≤ 200) (hin : Inn R n) (ht : Tab n R m) (d : Nat) : ∀ j : Int, 0 ≤ j → j + d = n → (∀ a, a < j → ¬ Tc R a a) → EvP (fun f => swarfref29_Cyclic.l0 f n m j) (fun r => r = true ↔ ¬ Acyc R) := by
  induction d with
  | zero =>
    intro j j0 hj h
    refine EvP.stop false (fun f => ?_) ⟨(fun h => by cases h), (fun hx => absurd (fun a ha => ?_) hx)⟩
    · simp only [swarfref29_Cyclic.l0]
      rw [if_neg (by omega)]
    · exact h a (by have := (ha.inn hin).1; omega) ha
  | succ d ih =>
    intro j j0 hj h
    have hw := wrap_succ j j0 (by omega)
    have lm := ht.1.1
    have lj := ht.1.2 j j0 (by omega)
    by_cases c : mt m j j = true
    · refine EvP.stop true (fun f => ?_) ⟨fun _ hx => hx j ((ht.2 j j j0 j0).1 c), fun _ => rfl⟩
      simp only [swarfref29_Cyclic.l0]
      rw [if_pos (by omega), if_pos j0, if_pos (by omega), if_pos (by omega)]
      exact if_pos c
    · refine EvP.step (fun f => ?_) (ih (j + 1) (by omega) (by omega) (fun a ha => ?_))
      · simp only [swarfref29_Cyclic.l0]
        rw [if_pos (by omega), if_pos j0, if_pos (by omega), if_pos (by omega), hw]
        exact if_neg c
      · by_cases e : a = j
        · subst e
          exact fun hx => c ((ht.2 a a j0 j0).2 hx)
        · exact h a (by omega)
theorem cyclic_ev {n : Int} {l : List S47} (h : vErr n l = 0) : EvP (fun f => swarfref29_Cyclic.f f n l) (fun r => r = true ↔ ¬ Acyc (Rl l)) := by
  obtain ⟨h1, h2, h3, h4⟩ := vErr_zero h
  unfold swarfref29_Cyclic.f
  exact EvP.bindP (depends_ev h) (fun m hm => cyclic_l0 ⟨h1, h2⟩ (rl_inn h4) hm n.toNat 0 (by omega) (by omega) (fun a ha hx => by have := (hx.inn (rl_inn h4)).1; omega))
def Fault (n : Int) (l : List S47) (e : Int) : Prop := (vErr n l ≠ 0 ∧ e = vErr n l) ∨ (vErr n l = 0 ∧ ¬ Acyc (Rl l) ∧ e = 12) ∨ (vErr n l = 0 ∧ Acyc (Rl l) ∧ e = 0)
theorem fault_ev (n : Int) (l : List S47) (hl : l.length ≤ 100000000000000) : EvP (fun f => swarfref29_fault.f f n l) (Fault n l) := by
  unfold swarfref29_fault.f
  refine EvP.bind (rvalid_ev n l hl) ?_
  by_cases z : vErr n l = 0
  · simp only [if_pos z]
    refine EvP.bindP (cyclic_ev z) (fun r hr => ?_)
    cases r with
    | true => exact ⟨12, by simp only [if_true]; exact Ev.now _, .inr (.inl ⟨z, hr.1 rfl, rfl⟩)⟩
    | false => exact ⟨0, by simp only [Bool.false_eq_true, if_false]; exact Ev.now _, .inr (.inr ⟨z, by
        by_cases ha : Acyc (Rl l)
        · exact ha
        · exact absurd (hr.2 ha) (by decide), rfl⟩)⟩
  · simp only [if_neg z]
    exact ⟨_, Ev.now _, .inl ⟨z, rfl⟩⟩
end Go.Proofs.Ytbbkclcfmcjlgaa.B

/- What read and the two functions Order come to. Plain numbers and lists. -/

namespace Go.Proofs.Ytbbkclcfmcjlgaa.B
open Go.RowKit Go.Proofs.Ytbbkclcfmcjlgaa.P Go.Proofs.Ytbbkclcfmcjlgaa.Gr Go.Proofs.YtbbkclcfmcjlgaaW.PrintWords Go.Proofs.YtbbkclcfmcjlgaaW.PrintLast Go.Proofs.YtbbkclcfmcjlgaaW.PrintMore
set_option linter.unusedVariables false
set_option linter.unusedSimpArgs false

/-! ### What must come directly before and behind a number -/
def bef (l : List S47) (i : Int) : List Int := (l.filter fun p => p.f1 == i).map fun p => p.f0
def beh (l : List S47) (i : Int) : List Int := (l.filter fun p => p.f0 == i).map fun p => p.f1
theorem mem_beh (l : List S47) (i k : Int) : k ∈ beh l i ↔ Rl l i k := by
  unfold beh Rl
  simp only [List.mem_map, List.mem_filter, beq_iff_eq]
  constructor
  · rintro ⟨p, ⟨hp, rfl⟩, rfl⟩; exact hp
  · intro h; exact ⟨_, ⟨h, rfl⟩, rfl⟩
theorem bef_snoc (l : List S47) (p : S47) (i : Int) : bef (l ++ [p]) i = if p.f1 = i then bef l i ++ [p.f0] else bef l i := by
  unfold bef
  rw [List.filter_append, List.map_append]
  by_cases h : p.f1 = i <;> simp [h]
theorem beh_snoc (l : List S47) (p : S47) (i : Int) : beh (l ++ [p]) i = if p.f0 = i then beh l i ++ [p.f1] else beh l i := by
  unfold beh
  rw [List.filter_append, List.map_append]
  by_cases h : p.f0 = i <;> simp [h]
theorem bef_len (l : List S47) (i : Int) : (bef l i).length ≤ l.length := by unfold bef; rw [List.length_map]; exact List.length_filter_le _ _
theorem beh_len (l : List S47) (i : Int) : (beh l i).length ≤ l.length := by unfold beh; rw [List.length_map]; exact List.length_filter_le _ _
theorem rd3_set_self (m : List (List Int)) (a : Int) (y : List Int) (h0 : 0 ≤ a) (h1 : a < (m.length : Int)) : rd_L3 (m.set a.toNat y) a = y := by
  unfold rd_L3
  rw [List.getD_eq_getElem?_getD, List.getElem?_set_self (by omega)]; rfl
theorem rd3_set_ne (m : List (List Int)) (a b : Int) (y : List Int) (h0 : 0 ≤ a) (hb : 0 ≤ b) (h : b ≠ a) : rd_L3 (m.set a.toNat y) b = rd_L3 m b := by
  unfold rd_L3
  rw [List.getD_eq_getElem?_getD, List.getElem?_set_ne (by omega), List.getD_eq_getElem?_getD]
theorem rd_set (m : List Int) (a b x : Int) (h0 : 0 ≤ a) (h1 : a < (m.length : Int)) (hb : 0 ≤ b) : rd (m.set a.toNat x) b = if b = a then x else rd m b := by
  unfold rd
  by_cases e : b = a
  · subst e
    rw [if_pos rfl, List.getD_eq_getElem?_getD, List.getElem?_set_self (by omega)]; rfl
  · rw [if_neg e, List.getD_eq_getElem?_getD, List.getElem?_set_ne (by omega), List.getD_eq_getElem?_getD]
theorem T47_mem (l : List S47) (j : Int) (h0 : 0 ≤ j) (h : j < (l.length : Int)) : rd_T47 l j ∈ l := List.mem_of_mem_drop (by rw [drop_T47 l j h0 h]; exact List.mem_cons_self)
theorem rd_mem (l : List Int) (j : Int) (h0 : 0 ≤ j) (h : j < (l.length : Int)) : rd l j ∈ l := List.mem_of_mem_drop (by rw [drop_rd l j h0 h]; exact List.mem_cons_self)
theorem take_T47 (l : List S47) (j : Int) (h0 : 0 ≤ j) (h : j < (l.length : Int)) : l.take (j + 1).toNat = l.take j.toNat ++ [rd_T47 l j] := by
  rw [show (j + 1).toNat = j.toNat + 1 by omega, List.take_succ_eq_append_getElem (by omega)]
  congr 2
  unfold rd_T47
  rw [List.getD_eq_getElem?_getD, List.getElem?_eq_getElem (by omega)]
  rfl
theorem take_rd (l : List Int) (j : Int) (h0 : 0 ≤ j) (h : j < (l.length : Int)) : l.take (j + 1).toNat = l.take j.toNat ++ [rd l j] := by
  rw [show (j + 1).toNat = j.toNat + 1 by omega, List.take_succ_eq_append_getElem (by omega)]
  congr 2
  unfold rd
  rw [List.getD_eq_getElem?_getD, List.getElem?_eq_getElem (by omega)]
  rfl
def RdOk (n : Int) (l : List S47) (u : List (List Int) × List (List Int)) : Prop :=
  (u.1.length : Int) = n ∧ (u.2.length : Int) = n ∧ ∀ i, 0 ≤ i → i < n → rd_L3 u.1 i = bef l i ∧ rd_L3 u.2 i = beh l i
theorem read_l0 {n : Int} {l : List S47} (hn : 0 ≤ n ∧ n ≤ 200) (hl : l.length ≤ 2000) (hok : ∀ p ∈ l, okp n p = true) (d : Nat) : ∀ (j : Int) (x y : List (List Int)), 0 ≤ j → j + d = l.length → RdOk n (l.take j.toNat) (x, y) → EvP (fun f => precedence_read.l0 f l (l.length : Int) j x y) (RdOk n l) := by
  induction d with
  | zero =>
    intro j x y j0 hj h
    rw [show l.take j.toNat = l from List.take_of_length_le (by omega)] at h
    exact EvP.stop (x, y) (fun f => by simp only [precedence_read.l0]; rw [if_neg (by omega)]) h
  | succ d ih =>
    intro j x y j0 hj h
    have hw := wrap_succ j j0 (by omega)
    have ho := (okp_iff _ _).1 (hok _ (T47_mem l j j0 (by omega)))
    have ht := take_T47 l j j0 (by omega)
    generalize hp : rd_T47 l j = p at ho ht
    obtain ⟨h1, h2, h3⟩ := h
    have h4 := h3 p.f0 ho.2.1.1 ho.2.1.2
    have h5 := h3 p.f1 ho.2.2.1 ho.2.2.2
    simp only at h1 h2 h3 h4 h5
    have l1 := bef_len (l.take j.toNat) p.f1
    have l2 := beh_len (l.take j.toNat) p.f0
    have l3 : (l.take j.toNat).length ≤ 2000 := by rw [List.length_take]; omega
    refine EvP.step (fun f => ?_) (ih (j + 1) (x.set p.f1.toNat (rd_L3 x p.f1 ++ [p.f0])) (y.set p.f0.toNat (rd_L3 y p.f0 ++ [p.f1])) (by omega) (by omega) ⟨by rw [List.length_set]; exact h1, by rw [List.length_set]; exact h2, fun i i0 i1 => ?_⟩)
    · simp only [precedence_read.l0]
      rw [hp, if_pos (by omega), if_pos j0, if_pos (by omega), if_pos ho.2.1.1, if_pos (by omega), if_pos (by rw [h4.2]; omega), if_pos ho.2.2.1, if_pos (by omega), if_pos (by rw [h5.1]; omega), hw]
    · rw [ht, bef_snoc, beh_snoc]
      refine ⟨?_, ?_⟩
      · by_cases e : i = p.f1
        · subst e
          rw [if_pos rfl]
          exact (rd3_set_self _ _ _ i0 (by omega)).trans (by rw [h5.1])
        · rw [if_neg (Ne.symm e)]
          exact (rd3_set_ne _ _ _ _ ho.2.2.1 i0 e).trans (h3 i i0 i1).1
      · by_cases e : i = p.f0
        · subst e
          rw [if_pos rfl]
          exact (rd3_set_self _ _ _ i0 (by omega)).trans (by rw [h4.2])
        · rw [if_neg (Ne.symm e)]
          exact (rd3_set_ne _ _ _ _ ho.2.1.1 i0 e).trans (h3 i i0 i1).2
theorem rd3_rep (n : Nat) (i : Int) : rd_L3 (List.replicate n []) i = [] := by
  unfold rd_L3
  rw [List.getD_eq_getElem?_getD, List.getElem?_replicate]
  split <;> rfl
theorem read_ev {n : Int} {l : List S47} (h : vErr n l = 0) : EvP (fun f => precedence_read.f f n l) (RdOk n l) := by
  obtain ⟨h1, h2, h3, h4⟩ := vErr_zero h
  unfold precedence_read.f
  simp only [if_pos h1, if_pos (show n.toNat ≤ 11728124029610 by omega)]
  refine read_l0 ⟨h1, h2⟩ h3 h4 l.length 0 _ _ (by omega) (by omega) ⟨by simp; omega, by simp; omega, fun i i0 i1 => ?_⟩
  rw [show (0 : Int).toNat = 0 from rfl, List.take_zero]
  exact ⟨rd3_rep _ _, rd3_rep _ _⟩

/-! ### The next number -/
def Can (n : Int) (l : List S47) (o : List Int) (i : Int) : Prop := (0 ≤ i ∧ i < n) ∧ ¬ i ∈ o ∧ rdy l o i = true
def Nxt (n : Int) (l : List S47) (o : List Int) (i : Int) : Prop := Can n l o i ∧ ∀ j, j < i → ¬ Can n l o j
theorem least (P : Int → Prop) (h : ∃ i, 0 ≤ i ∧ P i) : ∃ i, (0 ≤ i ∧ P i) ∧ ∀ j, 0 ≤ j → j < i → ¬ P j := by
  obtain ⟨i, i0, hi⟩ := h
  have key : ∀ (m : Nat) (i : Int), 0 ≤ i → i.toNat ≤ m → P i → ∃ i, (0 ≤ i ∧ P i) ∧ ∀ j, 0 ≤ j → j < i → ¬ P j := by
    intro m
    induction m with
    | zero => intro i i0 hm hi; exact ⟨i, ⟨i0, hi⟩, fun j j0 hj => by omega⟩
    | succ m ih =>
      intro i i0 hm hi
      by_cases hx : ∃ j, 0 ≤ j ∧ j < i ∧ P j
      · obtain ⟨j, j0, hj, hp⟩ := hx
        exact ih j j0 (by omega) hp
      · exact ⟨i, ⟨i0, hi⟩, fun j j0 hj hp => hx ⟨j, j0, hj, hp⟩⟩
  exact key i.toNat i i0 (Nat.le_refl _) hi
theorem Nxt.of {n : Int} {l : List S47} {o : List Int} (h : ∃ i, Can n l o i) : ∃ i, Nxt n l o i := by
  obtain ⟨i, hi⟩ := h
  obtain ⟨k, hk, hm⟩ := least (Can n l o) ⟨i, hi.1.1, hi⟩
  exact ⟨k, hk.2, fun j hj hc => hm j hc.1.1 hj hc⟩
theorem Nxt.uniq {n : Int} {l : List S47} {o : List Int} {i j : Int} (hi : Nxt n l o i) (hj : Nxt n l o j) : i = j := by
  rcases Int.lt_trichotomy i j with h | h | h
  · exact absurd hi.1 (hj.2 i h)
  · exact h
  · exact absurd hj.1 (hi.2 j h)
inductive Greedy (n : Int) (l : List S47) : List Int → Prop
  | nil : Greedy n l []
  | snoc {o : List Int} {i : Int} : Greedy n l o → Nxt n l o i → Greedy n l (o ++ [i])
theorem Greedy.uniq {n : Int} {l : List S47} : ∀ {o o' : List Int}, Greedy n l o → Greedy n l o' → o.length = o'.length → o = o' := by
  intro o o' h
  induction h generalizing o' with
  | nil => intro h' hl; exact (List.eq_nil_of_length_eq_zero hl.symm).symm
  | @snoc o i h1 h2 ih =>
    intro h' hl
    cases h' with
    | nil => simp at hl
    | @snoc o2 j h3 h4 =>
      have e := ih h3 (by simpa using hl)
      subst e
      rw [h2.uniq h4]
/-- A list of numbers of the right kind: each once, and what must come before them stands before them. -/
def Lst (n : Int) (l : List S47) (o : List Int) : Prop := o.Nodup ∧ (∀ x ∈ o, 0 ≤ x ∧ x < n) ∧ Topo (Rl l) o
theorem Lst.snoc {n : Int} {l : List S47} {o : List Int} {i : Int} (h : Lst n l o) (hc : Can n l o i) : Lst n l (o ++ [i]) := by
  obtain ⟨h1, h2, h3⟩ := h
  refine ⟨?_, fun x hx => ?_, fun k x hx j hj => ?_⟩
  · rw [List.nodup_append]
    exact ⟨h1, by simp, fun a ha b hb => by
      rw [List.mem_singleton] at hb
      subst hb
      exact fun e => hc.2.1 (e ▸ ha)⟩
  · rcases List.mem_append.1 hx with hx | hx
    · exact h2 x hx
    · rw [List.mem_singleton] at hx; subst hx; exact hc.1
  · by_cases hk : k < o.length
    · rw [List.getElem?_append_left hk] at hx
      rw [List.take_append_of_le_length (by omega)]
      exact h3 k x hx j hj
    · rw [List.getElem?_append_right (by omega)] at hx
      have hk0 : k - o.length = 0 := by
        rcases Nat.eq_zero_or_pos (k - o.length) with h0 | h0
        · exact h0
        · rw [List.getElem?_eq_none (by simp; omega)] at hx; cases hx
      rw [hk0] at hx
      have hxi : i = x := by simpa using hx
      subst hxi
      rw [show k = o.length by omega, List.take_append_of_le_length (Nat.le_refl _), List.take_length]
      exact (rdy_iff _ _ _).1 hc.2.2 j hj
theorem Lst.nil (n : Int) (l : List S47) : Lst n l [] := ⟨by simp, by simp, fun i x hx => by simp at hx⟩
theorem Greedy.lst {n : Int} {l : List S47} {o : List Int} (h : Greedy n l o) : Lst n l o := by
  induction h with
  | nil => exact Lst.nil n l
  | snoc _ h2 ih => exact ih.snoc h2.1
theorem Lst.len {n : Int} {l : List S47} {o : List Int} (h : Lst n l o) (hn : 0 ≤ n) : (o.length : Int) ≤ n := by
  have := pig n.toNat o h.1 (fun x hx => by have := h.2.1 x hx; omega)
  omega
theorem Lst.acyc {n : Int} {l : List S47} {o : List Int} (h : Lst n l o) (hok : ∀ p ∈ l, okp n p = true) (hl : (o.length : Int) = n) : Acyc (Rl l) :=
  h.2.2.acyc h.1 (rl_inn hok) (fun i i0 i1 => full_in h.1 h.2.1 hl i i0 i1)
theorem can_of_acyc {n : Int} {l : List S47} {o : List Int} (hok : ∀ p ∈ l, okp n p = true) (ha : Acyc (Rl l)) (hl : (o.length : Int) < n) : ∃ i, Nxt n l o i := by
  obtain ⟨i, hi, ho, hr⟩ := source (rl_inn hok) ha o (some_out hl)
  exact Nxt.of ⟨i, hi, ho, (rdy_iff _ _ _).2 hr⟩

/-! ### The reference's order -/
theorem rorder_l1 {n : Int} {l : List S47} (hn : 0 ≤ n ∧ n ≤ 200) (hl : l.length ≤ 2000) (o : List Int) (ho : o.length ≤ 200) (i : Int) (hi : Nxt n l o i) (Post : List Int × Int → Prop) (hk : EvP (fun f => swarfref29_Order.l0 f n l (o ++ [i])) Post) (d : Nat) : ∀ j : Int, 0 ≤ j → j + d = i → EvP (fun f => swarfref29_Order.l1 f n l o j) Post := by
  induction d with
  | zero =>
    intro j j0 hj
    obtain rfl : j = i := by omega
    refine EvP.step (f := fun f => (swarfref29_in.f f o j).bind fun t328 => (if t328 = true then (swarfref29_Order.l1 f n l o (wrap64 (j + 1))) else ((swarfref29_ready.f f l o j).bind fun t329 => (if t329 = true then (if o.length < 17592186044416 then (swarfref29_Order.l0 f n l (o ++ [j])) else (none)) else (swarfref29_Order.l1 f n l o (wrap64 (j + 1))))))) (fun f => by simp only [swarfref29_Order.l1]) ?_
    refine EvP.bind (in_ev o (by omega) j) ?_
    simp only [decide_eq_false hi.1.2.1, Bool.false_eq_true, if_false]
    refine EvP.bind (ready_ev l (by omega) o (by omega) j) ?_
    simp only [hi.1.2.2, if_true, if_pos (show o.length < 17592186044416 by omega)]
    exact hk
  | succ d ih =>
    intro j j0 hj
    have hw := wrap_succ j j0 (by have := hi.1.1; omega)
    have h2 := ih (j + 1) (by omega) (by omega)
    have hc := hi.2 j (by omega)
    refine EvP.step (f := fun f => (swarfref29_in.f f o j).bind fun t328 => (if t328 = true then (swarfref29_Order.l1 f n l o (wrap64 (j + 1))) else ((swarfref29_ready.f f l o j).bind fun t329 => (if t329 = true then (if o.length < 17592186044416 then (swarfref29_Order.l0 f n l (o ++ [j])) else (none)) else (swarfref29_Order.l1 f n l o (wrap64 (j + 1))))))) (fun f => by simp only [swarfref29_Order.l1]) ?_
    refine EvP.bind (in_ev o (by omega) j) ?_
    by_cases hm : j ∈ o
    · simp only [decide_eq_true hm, if_true, hw]
      exact h2
    · simp only [decide_eq_false hm, Bool.false_eq_true, if_false]
      refine EvP.bind (ready_ev l (by omega) o (by omega) j) ?_
      have hr : rdy l o j = false := by
        by_cases hr : rdy l o j = true
        · exact absurd ⟨⟨j0, by have := hi.1.1; omega⟩, hm, hr⟩ hc
        · simpa using hr
      simp only [hr, Bool.false_eq_true, if_false, hw]
      exact h2
theorem rorder_l0 {n : Int} {l : List S47} (hn : 0 ≤ n ∧ n ≤ 200) (hl : l.length ≤ 2000) (hok : ∀ p ∈ l, okp n p = true) (ha : Acyc (Rl l)) (d : Nat) : ∀ o : List Int, Greedy n l o → (o.length : Int) + d = n → EvP (fun f => swarfref29_Order.l0 f n l o) (fun t => t.2 = 0 ∧ Greedy n l t.1 ∧ (t.1.length : Int) = n) := by
  induction d with
  | zero =>
    intro o hg hd
    exact EvP.stop (o, 0) (fun f => by simp only [swarfref29_Order.l0]; rw [if_neg (by omega)]) ⟨rfl, hg, by simpa using hd⟩
  | succ d ih =>
    intro o hg hd
    obtain ⟨i, hi⟩ := can_of_acyc hok ha (show (o.length : Int) < n by omega)
    refine EvP.step (fun f => ?_) (rorder_l1 hn hl o (by omega) i hi _ (ih (o ++ [i]) (hg.snoc hi) (by rw [List.length_append]; simp; omega)) i.toNat 0 (by omega) (by have := hi.1.1; omega))
    simp only [swarfref29_Order.l0]
    rw [if_pos (by omega)]
def OrdOk (n : Int) (l : List S47) (t : List Int × Int) : Prop :=
  (vErr n l ≠ 0 ∧ t = ([], vErr n l)) ∨ (vErr n l = 0 ∧ ¬ Acyc (Rl l) ∧ t = ([], 12)) ∨ (vErr n l = 0 ∧ Acyc (Rl l) ∧ t.2 = 0 ∧ Greedy n l t.1 ∧ (t.1.length : Int) = n)
theorem rorder_ev (n : Int) (l : List S47) (hl : l.length ≤ 100000000000000) : EvP (fun f => swarfref29_Order.f f n l) (OrdOk n l) := by
  unfold swarfref29_Order.f
  refine EvP.bindP (fault_ev n l hl) (fun e he => ?_)
  rcases he with ⟨h1, rfl⟩ | ⟨h1, h2, rfl⟩ | ⟨h1, h2, rfl⟩
  · simp only [if_neg h1]
    exact ⟨_, Ev.now _, .inl ⟨h1, rfl⟩⟩
  · exact ⟨_, Ev.now _, .inr (.inl ⟨h1, h2, rfl⟩)⟩
  · simp only [if_true]
    obtain ⟨k1, k2, k3, k4⟩ := vErr_zero h1
    refine (rorder_l0 ⟨k1, k2⟩ k3 k4 h2 n.toNat [] .nil (by simp; omega)).mono (fun t ht => .inr (.inr ⟨h1, h2, ht⟩))
theorem OrdOk.uniq {n : Int} {l : List S47} {t u : List Int × Int} (ht : OrdOk n l t) (hu : OrdOk n l u) : t = u := by
  rcases ht with ⟨h1, rfl⟩ | ⟨h1, h2, rfl⟩ | ⟨h1, h2, h3, h4, h5⟩ <;> rcases hu with ⟨k1, rfl⟩ | ⟨k1, k2, rfl⟩ | ⟨k1, k2, k3, k4, k5⟩
  · rfl
  · exact absurd k1 h1
  · exact absurd k1 h1
  · exact absurd h1 k1
  · rfl
  · exact absurd k2 h2
  · exact absurd h1 k1
  · exact absurd h2 k2
  · exact Prod.ext (h4.uniq k4 (by omega)) (h3.trans k3.symm)
end Go.Proofs.Ytbbkclcfmcjlgaa.B

/- What precedence.Order comes to. Plain numbers and lists. -/

namespace Go.Proofs.Ytbbkclcfmcjlgaa.B
open Go.RowKit Go.Proofs.Ytbbkclcfmcjlgaa.P Go.Proofs.Ytbbkclcfmcjlgaa.Gr Go.Proofs.YtbbkclcfmcjlgaaW.PrintWords Go.Proofs.YtbbkclcfmcjlgaaW.PrintLast Go.Proofs.YtbbkclcfmcjlgaaW.PrintMore
set_option linter.unusedVariables false
set_option linter.unusedSimpArgs false

theorem index_l0 (m : List Int) (hm : m.length ≤ 100000000) (x : Int) (d : Nat) : ∀ j : Int, 0 ≤ j → j + d = m.length → (∀ i, 0 ≤ i → i < j → rd m i ≠ x) → EvP (fun f => slices_Index_int_int.l0 f m x (m.length : Int) j) (fun r => (r = -1 ∧ ∀ i, 0 ≤ i → i < (m.length : Int) → rd m i ≠ x) ∨ ((0 ≤ r ∧ r < (m.length : Int)) ∧ rd m r = x ∧ ∀ i, 0 ≤ i → i < r → rd m i ≠ x)) := by
  induction d with
  | zero =>
    intro j j0 hj h
    exact EvP.stop (-1) (fun f => by simp only [slices_Index_int_int.l0]; rw [if_neg (by omega)]) (.inl ⟨rfl, fun i i0 i1 => h i i0 (by omega)⟩)
  | succ d ih =>
    intro j j0 hj h
    have hw := wrap_succ j j0 (by omega)
    by_cases e : x = rd m j
    · refine EvP.stop j (fun f => ?_) (.inr ⟨⟨j0, by omega⟩, e.symm, h⟩)
      simp only [slices_Index_int_int.l0]
      rw [if_pos (by omega), if_pos j0, if_pos (by omega), if_pos e]
    · refine EvP.step (fun f => ?_) (ih (j + 1) (by omega) (by omega) (fun i i0 i1 => ?_))
      · simp only [slices_Index_int_int.l0]
        rw [if_pos (by omega), if_pos j0, if_pos (by omega), if_neg e, hw]
      · by_cases e2 : i = j
        · subst e2; exact Ne.symm e
        · exact h i i0 (by omega)
theorem index_ev (m : List Int) (hm : m.length ≤ 100000000) (x : Int) : EvP (fun f => slices_Index_int_int.f f m x) (fun r => (r = -1 ∧ ∀ i, 0 ≤ i → i < (m.length : Int) → rd m i ≠ x) ∨ ((0 ≤ r ∧ r < (m.length : Int)) ∧ rd m r = x ∧ ∀ i, 0 ≤ i → i < r → rd m i ≠ x)) := by
  unfold slices_Index_int_int.f
  exact index_l0 m hm x m.length 0 (by omega) (by omega) (fun i i0 i1 => by omega)

/-- How many pairs lead to k from numbers that are not in o. -/
def cnt (l : List S47) (o : List Int) (k : Int) : Nat := l.countP fun p => p.f1 == k && !(decide (p.f0 ∈ o))
theorem cnt_nil (l : List S47) (k : Int) : cnt l [] k = (bef l k).length := by
  unfold cnt bef
  rw [List.length_map, List.countP_eq_length_filter]
  congr 1
  apply List.filter_congr
  intro p _
  simp
theorem cnt_zero (l : List S47) (o : List Int) (k : Int) : cnt l o k = 0 ↔ rdy l o k = true := by
  unfold cnt rdy
  rw [List.countP_eq_zero, List.all_eq_true]
  constructor
  · intro h p hp
    have := h p hp
    simp only [Bool.and_eq_true, beq_iff_eq, Bool.not_eq_true', decide_eq_false_iff_not, not_and, Classical.not_not] at this
    exact decide_eq_true this
  · intro h p hp
    have := of_decide_eq_true (h p hp)
    simp only [Bool.and_eq_true, beq_iff_eq, Bool.not_eq_true', decide_eq_false_iff_not, not_and, Classical.not_not]
    exact this
theorem cnt_cons (p : S47) (l : List S47) (o : List Int) (k : Int) : cnt (p :: l) o k = cnt l o k + if p.f1 = k ∧ ¬ p.f0 ∈ o then 1 else 0 := by
  unfold cnt
  rw [List.countP_cons]
  congr 1
  by_cases h1 : p.f1 = k <;> by_cases h2 : p.f0 ∈ o <;> simp [h1, h2]
theorem beh_cons (p : S47) (l : List S47) (i k : Int) : (beh (p :: l) i).count k = (beh l i).count k + if p.f0 = i ∧ p.f1 = k then 1 else 0 := by
  unfold beh
  rw [List.filter_cons]
  by_cases h0 : p.f0 = i
  · rw [if_pos (show (p.f0 == i) = true by simpa using h0), List.map_cons, List.count_cons]
    by_cases h1 : p.f1 = k <;> simp [h0, h1]
  · rw [if_neg (show ¬ (p.f0 == i) = true by simpa using h0), if_neg (fun h => h0 h.1)]; rfl
theorem cnt_snoc (l : List S47) (o : List Int) (i k : Int) (hi : ¬ i ∈ o) : cnt l o k = cnt l (o ++ [i]) k + (beh l i).count k := by
  induction l with
  | nil => rfl
  | cons p l ih =>
    rw [cnt_cons, cnt_cons, beh_cons, ih]
    by_cases h1 : p.f1 = k
    · by_cases h0 : p.f0 = i
      · have h2 : ¬ p.f0 ∈ o := by rw [h0]; exact hi
        have h3 : p.f0 ∈ o ++ [i] := by rw [h0]; simp
        rw [if_pos ⟨h1, h2⟩, if_neg (fun h => h.2 h3), if_pos ⟨h0, h1⟩]
        omega
      · rw [if_neg (show ¬ (p.f0 = i ∧ p.f1 = k) from fun h => h0 h.1)]
        by_cases h2 : p.f0 ∈ o
        · rw [if_neg (fun h => h.2 h2), if_neg (fun h => h.2 (List.mem_append_left _ h2))]
          omega
        · rw [if_pos ⟨h1, h2⟩, if_pos ⟨h1, fun h => by simp [h2, h0] at h⟩]
          omega
    · rw [if_neg (fun h => h1 h.1), if_neg (fun h => h1 h.1), if_neg (fun h => h1 h.2)]
      omega
theorem cnt_le (l : List S47) (o : List Int) (k : Int) : cnt l o k ≤ l.length := List.countP_le_length
def Mis (n : Int) (l : List S47) (o ms : List Int) : Prop := (ms.length : Int) = n ∧ ∀ k, 0 ≤ k → k < n → rd ms k = if k ∈ o then -1 else (cnt l o k : Int)
/-- While the numbers behind i are looked at: those of t have been. -/
def Mid (n : Int) (l : List S47) (o : List Int) (i : Int) (t ms : List Int) : Prop := (ms.length : Int) = n ∧ ∀ k, 0 ≤ k → k < n → rd ms k = if k ∈ o ++ [i] then -1 else (cnt l o k : Int) - (t.count k : Int)
theorem order_l2 {n : Int} {l : List S47} (hn : 0 ≤ n ∧ n ≤ 200) (hl : l.length ≤ 2000) (hok : ∀ p ∈ l, okp n p = true) (o : List Int) (hlst : Lst n l o) (i : Int) (hi : Can n l o i) (x1 x2 : List (List Int)) (Post : List Int × Int → Prop)
    (hk : ∀ ms, Mis n l (o ++ [i]) ms → EvP (fun f => precedence_Order.l1 f n ms (o ++ [i]) x1 x2) Post) (d : Nat) : ∀ (j : Int) (ms : List Int), 0 ≤ j → j + d = (beh l i).length → Mid n l o i ((beh l i).take j.toNat) ms → EvP (fun f => precedence_Order.l2 f n ms o i (beh l i) ((beh l i).length : Int) j x1 x2) Post := by
  have hln := hlst.len hn.1
  induction d with
  | zero =>
    intro j ms j0 hj h
    rw [show (beh l i).take j.toNat = beh l i from List.take_of_length_le (by omega)] at h
    refine EvP.step (fun f => ?_) (hk ms ⟨h.1, fun k k0 k1 => ?_⟩)
    · simp only [precedence_Order.l2]
      rw [if_neg (by omega), if_pos (by omega)]
    · rw [h.2 k k0 k1, cnt_snoc l o i k hi.2.1]
      split
      · rfl
      · omega
  | succ d ih =>
    intro j ms j0 hj h
    have hlb := beh_len l i
    have hw := wrap_succ j j0 (by omega)
    have hmem := rd_mem (beh l i) j j0 (by omega)
    have ht := take_rd (beh l i) j j0 (by omega)
    have hdr := drop_rd (beh l i) j j0 (by omega)
    have hcount : ((beh l i).take (j + 1).toNat).count (rd (beh l i) j) ≤ (beh l i).count (rd (beh l i) j) := (List.take_sublist _ _).count_le _
    generalize hc : rd (beh l i) j = c at hmem ht hdr hcount
    have hR := (mem_beh l i c).1 hmem
    have hok2 := (okp_iff _ _).1 (hok _ hR)
    simp only at hok2
    have hco : ¬ c ∈ o := fun hm => by
      obtain ⟨q, hq⟩ := List.getElem?_of_mem hm
      exact hi.2.1 (List.mem_of_mem_take (hlst.2.2 q c hq i hR))
    have hci : ¬ c = i := fun e => hok2.1 e.symm
    have hv := h.2 c hok2.2.2.1 hok2.2.2.2
    rw [if_neg (by simp [hco, hci])] at hv
    have h1 := cnt_snoc l o i c hi.2.1
    have h2 := cnt_le l o c
    rw [ht, List.count_append, List.count_singleton, if_pos (by simp)] at hcount
    have hwm : wrap64 (rd ms c - 1) = rd ms c - 1 := wrap_mid _ (by omega) (by omega)
    have hlm := h.1
    refine EvP.step (fun f => ?_) (ih (j + 1) (ms.set c.toNat (rd ms c - 1)) (by omega) (by omega) ⟨by rw [List.length_set]; exact h.1, fun k k0 k1 => ?_⟩)
    · simp only [precedence_Order.l2]
      rw [hc, if_pos (by omega), if_pos j0, if_pos (by omega), if_pos hok2.2.2.1, if_pos (by omega), hwm, hw]
    · rw [rd_set ms c k _ hok2.2.2.1 (by omega) k0, ht, List.count_append, List.count_singleton]
      by_cases e : k = c
      · subst e
        rw [if_pos rfl, hv, if_neg (by simp [hco, hci]), if_pos (by simp)]
        omega
      · rw [if_neg e, h.2 k k0 k1, if_neg (show ¬ (c == k) = true by simpa using Ne.symm e)]
        rfl
theorem Mis.idx {n : Int} {l : List S47} {o ms : List Int} (h : Mis n l o ms) (k : Int) (k0 : 0 ≤ k) (k1 : k < n) : rd ms k = 0 ↔ Can n l o k := by
  rw [h.2 k k0 k1]
  by_cases hm : k ∈ o
  · rw [if_pos hm]
    exact ⟨fun e => by omega, fun hc => absurd hm hc.2.1⟩
  · rw [if_neg hm]
    constructor
    · intro e
      exact ⟨⟨k0, k1⟩, hm, (cnt_zero l o k).1 (by omega)⟩
    · intro hc
      have := (cnt_zero l o k).2 hc.2.2
      omega
theorem order_l1 {n : Int} {l : List S47} (hn : 0 ≤ n ∧ n ≤ 200) (hl : l.length ≤ 2000) (hok : ∀ p ∈ l, okp n p = true) (hz : vErr n l = 0) (x1 x2 : List (List Int)) (hx : RdOk n l (x1, x2)) (d : Nat) : ∀ (o ms : List Int), Greedy n l o → (o.length : Int) + d = n → Mis n l o ms → EvP (fun f => precedence_Order.l1 f n ms o x1 x2) (OrdOk n l) := by
  induction d with
  | zero =>
    intro o ms hg hd hm
    exact EvP.stop (o, 0) (fun f => by simp only [precedence_Order.l1]; rw [if_neg (by omega)]) (.inr (.inr ⟨hz, hg.lst.acyc hok (by simpa using hd), rfl, hg, by simpa using hd⟩))
  | succ d ih =>
    intro o ms hg hd hm
    refine EvP.step (f := fun f => (slices_Index_int_int.f f ms 0).bind fun t117 => (if t117 < 0 then (some (([] : List Int), 12)) else (if 0 ≤ t117 then (if t117 < (ms.length : Int) then (if t117 < (x2.length : Int) then (precedence_Order.l2 f n (ms.set (t117 : Int).toNat (-1)) o t117 (rd_L3 x2 t117) ((rd_L3 x2 t117).length : Int) 0 x1 x2) else (none)) else (none)) else (none)))) (fun f => ?_) ?_
    · simp only [precedence_Order.l1]
      rw [if_pos (by omega)]
    · have hml := hm.1
      have hx2 := hx.2.1
      simp only at hx2
      refine EvP.bindP (index_ev ms (by omega) 0) (fun r hr => ?_)
      rcases hr with ⟨rfl, hr⟩ | ⟨hr1, hr2, hr3⟩
      · simp only [if_pos (show (-1 : Int) < 0 by omega)]
        refine ⟨_, Ev.now _, .inr (.inl ⟨hz, fun ha => ?_, rfl⟩)⟩
        obtain ⟨i, hi⟩ := can_of_acyc hok ha (show (o.length : Int) < n by omega)
        exact hr i hi.1.1.1 (by have := hi.1.1; omega) ((hm.idx i hi.1.1.1 hi.1.1.2).2 hi.1)
      · have hc : Can n l o r := (hm.idx r hr1.1 (by omega)).1 hr2
        have hnx : Nxt n l o r := ⟨hc, fun j hj hcj => hr3 j hcj.1.1 hj ((hm.idx j hcj.1.1 hcj.1.2).2 hcj)⟩
        simp only [if_neg (show ¬ r < 0 by omega), if_pos hr1.1, if_pos hr1.2, if_pos (show r < (x2.length : Int) by omega)]
        rw [(hx.2.2 r hr1.1 (by omega)).2]
        refine order_l2 hn hl hok o hg.lst r hc x1 x2 _ (fun ms' h' => ih (o ++ [r]) ms' (hg.snoc hnx) (by rw [List.length_append]; simp; omega) h') (beh l r).length 0 _ (by omega) (by omega) ⟨by rw [List.length_set]; exact hm.1, fun k k0 k1 => ?_⟩
        rw [rd_set ms r k (-1) hr1.1 hr1.2 k0, show (0 : Int).toNat = 0 from rfl, List.take_zero, List.count_nil]
        by_cases e : k = r
        · subst e
          rw [if_pos rfl, if_pos (by simp)]
        · rw [if_neg e, hm.2 k k0 k1]
          by_cases hmo : k ∈ o
          · rw [if_pos hmo, if_pos (List.mem_append_left _ hmo)]
          · rw [if_neg hmo, if_neg (by simp [hmo, e])]
            omega
theorem order_l0 {n : Int} {l : List S47} (hn : 0 ≤ n ∧ n ≤ 200) (hl : l.length ≤ 2000) (hok : ∀ p ∈ l, okp n p = true) (hz : vErr n l = 0) (x1 x2 : List (List Int)) (hx : RdOk n l (x1, x2)) (d : Nat) : ∀ (j : Int) (ms : List Int), 0 ≤ j → j + d = n → (ms.length : Int) = n → (∀ k, 0 ≤ k → k < j → rd ms k = ((bef l k).length : Int)) → EvP (fun f => precedence_Order.l0 f n ms x1 n j x1 x2) (OrdOk n l) := by
  induction d with
  | zero =>
    intro j ms j0 hj hm h
    refine EvP.step (fun f => ?_) (order_l1 hn hl hok hz x1 x2 hx n.toNat [] ms .nil (by simp; omega) ⟨hm, fun k k0 k1 => ?_⟩)
    · simp only [precedence_Order.l0]
      rw [if_neg (by omega)]
    · rw [if_neg (by simp), cnt_nil]
      exact h k k0 (by omega)
  | succ d ih =>
    intro j ms j0 hj hm h
    have hw := wrap_succ j j0 (by omega)
    have hx1 := hx.1
    simp only at hx1
    refine EvP.step (fun f => ?_) (ih (j + 1) (ms.set j.toNat ((rd_L3 x1 j).length : Int)) (by omega) (by omega) (by rw [List.length_set]; exact hm) (fun k k0 k1 => ?_))
    · simp only [precedence_Order.l0]
      rw [if_pos (by omega), if_pos j0, if_pos (by omega), if_pos (by omega), hw]
    · rw [rd_set ms j k _ j0 (by omega) k0]
      by_cases e : k = j
      · subst e
        rw [if_pos rfl, (hx.2.2 k k0 (by omega)).1]
      · rw [if_neg e]
        exact h k k0 (by omega)
theorem order_ev (n : Int) (l : List S47) (hl : l.length ≤ 100000000000000) : EvP (fun f => precedence_Order.f f n l) (OrdOk n l) := by
  unfold precedence_Order.f
  refine EvP.bind (valid_ev n l hl) ?_
  by_cases z : vErr n l = 0
  · simp only [if_pos z]
    obtain ⟨k1, k2, k3, k4⟩ := vErr_zero z
    refine EvP.bindP (read_ev z) (fun u hu => ?_)
    obtain ⟨x1, x2⟩ := u
    have hx1 := hu.1
    simp only at hx1
    simp only [if_pos k1, if_pos (show n.toNat ≤ 35184372088832 by omega), hx1]
    exact order_l0 ⟨k1, k2⟩ k3 k4 z x1 x2 hu n.toNat 0 _ (by omega) (by omega) (by simp; omega) (fun k k0 k1 => by omega)
  · simp only [if_neg z]
    exact ⟨_, Ev.now _, .inl ⟨z, rfl⟩⟩
end Go.Proofs.Ytbbkclcfmcjlgaa.B

/- The closure of precedence.Linear (function 39): it compares two captured places. -/

namespace Go.Proofs.Ytbbkclcfmcjlgaa.P
open Go.RowKit Go.Proofs.YtbbkclcfmcjlgaaW.PrintWords Go.Proofs.YtbbkclcfmcjlgaaW.PrintLast Go.Proofs.YtbbkclcfmcjlgaaW.PrintMore
set_option linter.unusedVariables false
set_option linter.unusedSimpArgs false

set_option maxHeartbeats 1000000 in
set_option maxRecDepth 100000 in
theorem clo39 (x y : Int) (g : Nat) (A : Option Addr) (c : Nat) (m : List Int) (w : World) (hg : w.heap[g]? = some (.cells #[.slice A m.length c] 31 (0, 0))) (hr : Kd.C (Kd.int .i64) w A m.length m)
  (a0 : 0 ≤ x) (a1 : x < m.length) (b0 : 0 ≤ y) (b1 : y < m.length) :
  Calls Try.prog 39 #[.agg #[.int .i64 x, .int .i64 y], .pointer (some ⟨g, 0, none⟩)] w fun e w' => e = .returned (.bool (decide (rd m x > rd m y))) ∧ Below w.heap.size w w' := by
 obtain ⟨ad, e, hx⟩ := Kd.at_int hr x a0 a1
 cases e
 obtain ⟨ad2, e2, hy⟩ := Kd.at_int hr y b0 b1
 obtain rfl : ad = ad2 := by injection e2
 have HR := Aside0.mk hr
 have HG := Aside0.mk hg
 have HX := Aside0.mk hx
 have HY := Aside0.mk hy
 have HB := Aside0.mk (Below.refl w.heap.size w)
 clear hr hg hx hy
 have a0' := eq_true a0
 have a1' := eq_true a1
 have b0' := eq_true b0
 have b1' := eq_true b1
 go_enter Try.func39, Try.ntmps39
 go_wp2_with (first | ((with_reducible refine gate_dst (N := 2) rfl ?_); go_must (refine box_event ?hg (N := 2) ?hd (cs := #[.int .i64 x, .int .i64 y]) (t := 47) ?hr ?_; (case hd => rfl); (case hg => rfl); (case hr => first | (go_simp; done) | (go_simp; rfl)); intro gb hg w2 hbox hb; have HB2 := Aside0.mk hb; clear HB; have HB := HB2; clear HB2; have hz0 : w2.cell? ⟨gb, 0, none⟩ = some (.int .i64 x) := (blk_cell hbox 0).trans rfl; have hz1 : w2.cell? ⟨gb, 1, none⟩ = some (.int .i64 y) := (blk_cell hbox 1).trans rfl; have hc : w2.cell? ⟨g, 0, none⟩ = some (.slice (some ad) m.length c) := (HB.out.cell (World.block_lt_of_cell? w _ ((blk_cell HG.out 0).trans rfl))).trans ((blk_cell HG.out 0).trans rfl); have hx : w2.cell? (ad.add x.toNat) = some (.int .i64 (rd m x)) := (HB.out.cell (World.block_lt_of_cell? w _ HX.out)).trans HX.out; have hy : w2.cell? (ad.add y.toNat) = some (.int .i64 (rd m y)) := (HB.out.cell (World.block_lt_of_cell? w _ HY.out)).trans HY.out; clear hbox hb hg)))
 repeat (go_quiet (fail); try go_wp2)
 go_ret
 exact ⟨by first | rfl | (simp; done), by repeat (first | (with_reducible first | exact HB.out | apply below_alloc | apply pw_below_drewN | apply below_drew1) | exact HB.out)⟩

def idx.l0 (gf : Int → Int → Option Bool) (l : List S47) : Nat → Int → Option Int
 | 0, _ => none
 | k + 1, i => if i < (l.length : Int) then (if 0 ≤ i then ((gf (rd_T47 l i).f0 (rd_T47 l i).f1).bind fun t => if t = true then some i else idx.l0 gf l k (wrap64 (i + 1))) else none) else some (-1)
set_option maxHeartbeats 4000000 in
set_option maxRecDepth 100000 in
theorem index39 (gf : Int → Int → Option Bool) (cap : Value) (k : Nat) (A : Option Addr) (c : Nat) (l : List S47) (r : Int) (w : World) (hr : Kd.C k47 w A l.length l)
  (hclo : ∀ (a b : Int) (t : Bool) (W : World), Below w.heap.size w W → gf a b = some t → Calls Try.prog 39 #[.agg #[.int .i64 a, .int .i64 b], cap] W fun e w' => e = .returned (.bool t) ∧ Below W.heap.size W w')
  (h : idx.l0 gf l k 0 = some r) :
  Calls Try.prog 52 #[.slice A l.length c, .func (.func 39) #[] #[cap]] w fun e w' => e = .returned (.int .i64 r) ∧ Below w.heap.size w w' := by
 have HCL := Aside0.mk hclo
 have HR := Aside0.mk hr
 clear hclo hr
 have HB := Aside0.mk (Below.refl w.heap.size w)
 have H' := Aside0.mk h
 clear h
 go_enter Try.func52, Try.ntmps52
 go_wp2
 go_loopg [8] k (fun kq v8 w' => ∃ (i : Int), v8 = .int .i64 i ∧ Aside0 (idx.l0 gf l kq i = some r) ∧ Aside0 (kq ≤ k) ∧ Aside0 (Below w.heap.size w w'))
 case atStart => exact ⟨0, rfl, H', ⟨Nat.le_refl _⟩, ⟨(by repeat (first | (with_reducible first | exact HB.out | apply below_alloc | apply pw_below_drewN | apply below_drew1) | exact HB.out))⟩⟩
 case round =>
  clear H' HB
  obtain ⟨i, rfl, HA, HK1, HB⟩ := hrel
  cases gk with
  | zero => exact absurd HA.out (by simp [idx.l0])
  | succ k1 =>
   have H := HA.out
   clear HA
   simp only [idx.l0] at H
   by_cases c1 : i < (l.length : Int)
   ·rw [if_pos c1] at H
    by_cases c2 : 0 ≤ i
    ·rw [if_pos c2] at H
     obtain ⟨t, ht, H⟩ := Option.bind_eq_some_iff.mp H
     obtain ⟨ad, e, hx0, hx1⟩ := at_T47 HR.out i c2 c1
     cases e; have HT := Aside0.mk ht
     have c1b := decide_eq_true c1
     have c1' := eq_true c1
     have c2' := eq_true c2
     replace hx0 := (HB.out.cell (World.block_lt_of_cell? w _ hx0)).trans hx0
     replace hx1 := (HB.out.cell (World.block_lt_of_cell? w _ hx1)).trans hx1
     clear ht c1 c2
     cases t with
     | true =>
      rw [if_pos rfl] at H; obtain rfl := Option.some.inj H
      go_wp2_with (go_at_call 39; go_must ((with_reducible refine (HCL.out _ _ true _ ?sB HT.out).mono ?_); (case sB => exact (by repeat (first | (with_reducible first | exact HB.out | apply below_alloc | apply pw_below_drewN | apply below_drew1) | exact HB.out))); rintro e w' ⟨rfl, hb⟩; have n_ := Aside0.mk (below_step (by repeat (first | (with_reducible first | exact HB.out | apply below_alloc | apply pw_below_drewN | apply below_drew1) | exact HB.out)) hb); clear HB hb; have HB := n_; clear n_))
      go_ret
      exact ⟨by first | rfl | (simp; done), (by repeat (first | (with_reducible first | exact HB.out | apply below_alloc | apply pw_below_drewN | apply below_drew1) | exact HB.out))⟩
     | false =>
      rw [if_neg (by decide)] at H; have H' := Aside0.mk H; clear H
      go_wp2_with (go_at_call 39; go_must ((with_reducible refine (HCL.out _ _ false _ ?sB HT.out).mono ?_); (case sB => exact (by repeat (first | (with_reducible first | exact HB.out | apply below_alloc | apply pw_below_drewN | apply below_drew1) | exact HB.out))); rintro e w' ⟨rfl, hb⟩; have n_ := Aside0.mk (below_step (by repeat (first | (with_reducible first | exact HB.out | apply below_alloc | apply pw_below_drewN | apply below_drew1) | exact HB.out)) hb); clear HB hb; have HB := n_; clear n_))
      go_roundg k1
      case measure => have := HK1.out; omega
      case rel => exact ⟨wrap64 (i + 1), (by first | rfl | (simp; done)), H', ⟨by have := HK1.out; omega⟩, ⟨(by repeat (first | (with_reducible first | exact HB.out | apply below_alloc | apply pw_below_drewN | apply below_drew1) | exact HB.out))⟩⟩
    ·rw [if_neg c2] at H
     exact absurd H (by simp)
   ·rw [if_neg c1] at H
    have c1b := decide_eq_false c1
    clear c1; obtain rfl := Option.some.inj H; go_wp2; go_ret
    exact ⟨by first | rfl | (simp; done), (by repeat (first | (with_reducible first | exact HB.out | apply below_alloc | apply pw_below_drewN | apply below_drew1) | exact HB.out))⟩
set_option maxHeartbeats 1000000 in
set_option maxRecDepth 100000 in
theorem contains39 (gf : Int → Int → Option Bool) (cap : Value) (k : Nat) (A : Option Addr) (c : Nat) (l : List S47) (r : Int) (w : World) (hr : Kd.C k47 w A l.length l)
  (hclo : ∀ (a b : Int) (t : Bool) (W : World), Below w.heap.size w W → gf a b = some t → Calls Try.prog 39 #[.agg #[.int .i64 a, .int .i64 b], cap] W fun e w' => e = .returned (.bool t) ∧ Below W.heap.size W w')
  (h : idx.l0 gf l k 0 = some r) :
  Calls Try.prog 38 #[.slice A l.length c, .func (.func 39) #[] #[cap]] w fun e w' => e = .returned (.bool (decide (r ≥ 0))) ∧ Below w.heap.size w w' := by
 have HI := Aside0.mk (index39 gf cap k A c l r w hr hclo h)
 clear hclo hr h
 go_enter Try.func38, Try.ntmps38
 go_wp2_with (go_at_call 52; go_must (refine HI.out.mono ?_; rintro e w' ⟨rfl, hb⟩; have HB := Aside0.mk hb; clear hb))
 go_ret
 exact ⟨by first | rfl | (simp; done), (by repeat (first | (with_reducible first | exact HB.out | apply below_alloc | apply pw_below_drewN | apply below_drew1) | exact HB.out))⟩
end Go.Proofs.Ytbbkclcfmcjlgaa.P
