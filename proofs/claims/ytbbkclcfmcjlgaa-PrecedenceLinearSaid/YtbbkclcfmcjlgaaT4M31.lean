import Derived.Test.YtbbkclcfmcjlgaaT4M21
import Derived.Test.YtbbkclcfmcjlgaaT4Px35
import Derived.Test.YtbbkclcfmcjlgaaT4M27
import Derived.Test.YtbbkclcfmcjlgaaT4M29
import Derived.Test.YtbbkclcfmcjlgaaT4M23
import Derived.Test.YtbbkclcfmcjlgaaT4GRead
import Derived.Test.YtbbkclcfmcjlgaaT4M28
-- PRINTED by print.py (a twelfth state) out of the translation. Not trusted: Lean checks it.

namespace Go.Proofs.Ytbbkclcfmcjlgaa.P
open Go.RowKit Go.Proofs.YtbbkclcfmcjlgaaW.PrintWords Go.Proofs.YtbbkclcfmcjlgaaW.PrintLast Go.Proofs.YtbbkclcfmcjlgaaW.PrintMore
attribute [local go_sem] max2_int min2_int max_two min_two max_three min_three max_four min_four   -- for this text's walks alone
set_option linter.unusedVariables false
set_option linter.unusedSimpArgs false

/-! ### swarfref29_Cyclic: function 23 -/
def swarfref29_Cyclic.l0 : Nat → Int → List (List Bool) → Int → Option (Bool)
 | 0, _, _, _ => none
 | k + 1, x0, x5, x6 => if x6 < x0 then (if 0 ≤ x6 then (if x6 < (x5.length : Int) then (if x6 < ((rd_L7 x5 x6).length : Int) then (if rdOf false (rd_L7 x5 x6) x6 = true then (some true) else (swarfref29_Cyclic.l0 k x0 x5 (wrap64 (x6 + 1)))) else (none)) else (none)) else (none)) else (some false)
def swarfref29_Cyclic.f (k : Nat) (a0 : Int) (l1 : List (S47)) : Option (Bool) := (swarfref29_Depends.f k a0 l1).bind fun t307 => (swarfref29_Cyclic.l0 k a0 t307 0)
theorem swarfref29_Cyclic.mono_l : ∀ k, (∀ y0 y1 y2, LeO (swarfref29_Cyclic.l0 k y0 y1 y2) (swarfref29_Cyclic.l0 (k + 1) y0 y1 y2))
 | 0 => fun _ _ _ r h => by simp [swarfref29_Cyclic.l0] at h
 | k + 1 => by
  have ih0 := swarfref29_Cyclic.mono_l k
  ·intro y0 y1 y2
   unfold swarfref29_Cyclic.l0
   repeat' first
   | (with_reducible exact ih0 _ _ _)
   | (with_reducible exact swarfref29_Depends.mono _ _ _)
   | (with_reducible exact LeO.refl _)
   | (with_reducible exact LeO.none _)
   | (with_reducible refine LeO.ite ?_ ?_)
   | (with_reducible refine LeO.bind ?_ (fun _ => ?_))
   | exact ih0 _ _ _
   | exact swarfref29_Depends.mono _ _ _
   | exact LeO.none _
   | refine LeO.ite ?_ ?_
   | refine LeO.bind ?_ (fun _ => ?_)
theorem swarfref29_Cyclic.mono : ∀ a0 a1 k, LeO (swarfref29_Cyclic.f k a0 a1) (swarfref29_Cyclic.f (k + 1) a0 a1) := by
 intro a0 a1 k
 have ih0 := swarfref29_Cyclic.mono_l k
 unfold swarfref29_Cyclic.f
 repeat' first
   | (with_reducible exact ih0 _ _ _)
   | (with_reducible exact swarfref29_Depends.mono _ _ _)
   | (with_reducible exact LeO.refl _)
   | (with_reducible exact LeO.none _)
   | (with_reducible refine LeO.ite ?_ ?_)
   | (with_reducible refine LeO.bind ?_ (fun _ => ?_))
   | exact ih0 _ _ _
   | exact swarfref29_Depends.mono _ _ _
   | exact LeO.none _
   | refine LeO.ite ?_ ?_
   | refine LeO.bind ?_ (fun _ => ?_)
set_option maxHeartbeats 8000000 in
set_option maxRecDepth 100000 in
theorem swarfref29_Cyclic.calls (k : Nat) (a0 : Int) (A1 : Option Addr) (c1 : Nat) (l1 : List (S47)) (r : Bool) (w : World) (hr1 : Kd.C k47 w A1 l1.length l1) (hc1 : l1.length ≤ c1) (h : swarfref29_Cyclic.f k a0 l1 = some r) :
  Calls Try.prog 23 #[.int .i64 a0, .slice A1 l1.length c1] w fun e w' => e = .returned (.bool r) ∧ Below w.heap.size w w' := by
 have HR1 := Aside0.mk hr1
 have HC1 := Aside0.mk hc1
 clear hr1 hc1
 have HB := Aside0.mk (Below.refl w.heap.size w)
 have H : ((swarfref29_Depends.f k a0 l1).bind fun t307 => (swarfref29_Cyclic.l0 k a0 t307 0)) = some r := h
 clear h
 replace H := Option.bind_eq_some_iff.mp H
 obtain ⟨t307, A30, H⟩ := H
 replace H : (swarfref29_Cyclic.l0 k a0 t307 0) = some r := H
 have A3 := Aside0.mk A30
 clear A30
 have H' := Aside0.mk H
 clear H
 go_enter Try.func23, Try.ntmps23
 go_wp2_with (first | ((with_reducible refine gate_callee (f := 44) rfl ?_); refine goesL_ (some 9) rfl rfl Try.func44 (by kernel_rfl) rfl #[.int .i64 a0, .slice A1 l1.length c1] rfl (by (try simp only [List.map_toArray, List.map_cons, List.map_nil]); first | done | rfl | (simp only [List.length_drop, List.length_take]; rfl)) ?_; (with_reducible refine (swarfref29_Depends.calls k a0 _ _ l1 t307 _ ?side1 ?side2 A3.out).mono ?_); (case side1 => repeat (first | exact HR1.out | (with_reducible refine Kd.C_alloc ?_ _) | (with_reducible refine Kd.C_drewN ?_ _) | (with_reducible refine Kd.C_drew ?_))); (case side2 => exact HC1.out); rintro e w4 ⟨v308, rfl, ho0, hb⟩; refine ⟨_, rfl, ?_⟩; have n0_ := Aside0.mk (Kd.S_lower ho0 (below_size (by repeat (first | (with_reducible first | exact HB.out | apply below_alloc | apply pw_below_drewN | apply below_drew1) | exact HB.out)))); have n1_ := Aside0.mk (below_step (by repeat (first | (with_reducible first | exact HB.out | apply below_alloc | apply pw_below_drewN | apply below_drew1) | exact HB.out)) hb); clear HB; have HO309 := n0_; have HB := n1_; clear n0_ n1_; (try clear hb); (try clear hb2); (try clear hk); (try clear hi); (try clear ho0)))
 go_loopg [6] k (fun kq v6 w' => ∃ (x6_1 : Int), v6 = .int .i64 x6_1 ∧ Aside0 (swarfref29_Cyclic.l0 kq a0 t307 x6_1 = some r) ∧ Aside0 (kq ≤ k) ∧ Aside0 (Kd.S (Kd.slice 4 Kd.bool) 52 w' w.heap.size (fun _ => True) v308 t307) ∧ Aside0 (Below w.heap.size w w'))
 case atStart => exact ⟨(0), (by first | rfl | (simp; done) | (simp [*]; done)), H', ⟨Nat.le_refl _⟩, ⟨by (with_reducible repeat (first | apply Kd.S_alloc | apply Kd.S_drewN | apply Kd.S_drew)); exact HO309.out⟩, ⟨by repeat (first | (with_reducible first | exact HB.out | apply below_alloc | apply pw_below_drewN | apply below_drew1) | exact HB.out)⟩⟩
 case round =>
  clear H'; try clear c1; try clear c2; try clear p2; try clear c4
  obtain ⟨x6_1, rfl, HA, HK1, HO_5, HB⟩ := hrel
  cases gk with
  | zero => exact absurd HA.out (by simp [swarfref29_Cyclic.l0])
  | succ k1 =>
   have H := HA.out
   clear HA
   simp only [swarfref29_Cyclic.l0] at H
   by_cases c5 : x6_1 < a0
   ·rw [if_pos c5] at H
    have c5b0 : decide (x6_1 < a0) = true := decide_eq_true c5
    clear c5
    by_cases c6 : 0 ≤ x6_1
    ·rw [if_pos c6] at H
     have c6b0 : decide (0 ≤ x6_1) = true := decide_eq_true c6
     clear c6
     by_cases c7 : x6_1 < (t307.length : Int)
     ·rw [if_pos c7] at H
      have c7b0 : decide (x6_1 < (t307.length : Int)) = true := decide_eq_true c7
      clear c7
      by_cases c8 : x6_1 < ((rd_L7 t307 x6_1).length : Int)
      ·rw [if_pos c8] at H
       have c8b0 : decide (x6_1 < ((rd_L7 t307 x6_1).length : Int)) = true := decide_eq_true c8
       clear c8
       obtain ⟨bq9, hbq9⟩ : ∃ b_ : Bool, b_ = (rdOf false (rd_L7 t307 x6_1) x6_1) := ⟨_, rfl⟩
       replace H : (if bq9 = true then (some true) else (swarfref29_Cyclic.l0 k1 a0 t307 (wrap64 (x6_1 + 1)))) = some r := by rw [← hbq9] at H; exact H
       have Nbq9 := Aside0.mk hbq9; clear hbq9
       by_cases c10 : bq9 = true
       ·subst c10
        have H1 : (some true) = some r := by rw [if_pos rfl] at H; exact H
        clear H; have H := H1; clear H1; obtain rfl := Option.some.inj H
        obtain ⟨Ao11, co11, eo11⟩ := Kd.S_slice HO_5.out
        subst eo11
        have p310 : 0 ≤ (x6_1 : Int) := of_decide_eq_true (by first | (with_reducible assumption) | assumption)
        have q310 : x6_1 < (t307.length : Int) := of_decide_eq_true (by first | (with_reducible assumption) | assumption)
        obtain ⟨ad310, A310_0, c310_0, e310, hx310_0, hl310_0, hi310_0⟩ := at_L7 (Kd.S_reads' HO_5.out).2.2 x6_1 p310 q310
        cases e310
        obtain ⟨ce310, hce310, hMe310, hcc310⟩ := Kd.S_get HO_5.out [] x6_1 p310 (by first | exact q310 | exact of_decide_eq_true (by first | (with_reducible assumption) | assumption) | (have e_ := (Kd.S_reads' HO_5.out).1; omega))
        obtain ⟨ve310_0, rfl, ge310_0⟩ := hMe310
        have hv310_0 := hcc310 0 _ rfl
        rw [Nat.add_zero, show ((Kd.slice 4 Kd.bool)).sz = 1 from rfl, Nat.mul_one] at hv310_0
        replace hv310_0 := Option.some.inj (hv310_0.symm.trans hx310_0)
        rw [hv310_0] at ge310_0
        have HL310_0 := Aside0.mk (show Kd.R Kd.bool 4 _ _ _ _ (rd_L7 t307 x6_1) from ge310_0)
        clear hv310_0 ge310_0; clear hcc310 hce310; have HR310_0 := Aside0.mk hi310_0; have HC310_0 := Aside0.mk hl310_0; clear hi310_0 hl310_0; replace p310 := eq_true p310; replace q310 := eq_true q310
        have p311 : 0 ≤ (x6_1 : Int) := of_decide_eq_true (by first | (with_reducible assumption) | assumption)
        have q311 : x6_1 < ((rd_L7 t307 x6_1).length : Int) := of_decide_eq_true (by first | (with_reducible assumption) | assumption)
        obtain ⟨ad311, e311, hx311_0⟩ := Kd.at_bool (by repeat (first | (with_reducible exact HR310_0.out) | (with_reducible refine Kd.C_alloc ?_ _) | (with_reducible refine Kd.C_drewN ?_ _) | (with_reducible refine Kd.C_drew ?_) | exact HR310_0.out)) x6_1 p311 q311
        (try rw [← Nbq9.out] at hx311_0)
        cases e311; replace p311 := eq_true p311; replace q311 := eq_true q311; go_wp2; go_ret
        exact ⟨by first | rfl | (simp [errW_none, errW_some] <;> rfl) | (simp [*, errW_none, errW_some] <;> rfl), by repeat (first | (with_reducible first | exact HB.out | apply below_alloc | apply pw_below_drewN | apply below_drew1) | exact HB.out)⟩
       ·replace c10 := Bool.eq_false_iff.mpr c10
        subst c10
        have H1 : (swarfref29_Cyclic.l0 k1 a0 t307 (wrap64 (x6_1 + 1))) = some r := by rw [if_neg (show ¬ (false = true) by decide)] at H; exact H
        clear H; have H := H1; clear H1; have H' := Aside0.mk H; clear H
        obtain ⟨Ao12, co12, eo12⟩ := Kd.S_slice HO_5.out
        subst eo12
        have p310 : 0 ≤ (x6_1 : Int) := of_decide_eq_true (by first | (with_reducible assumption) | assumption)
        have q310 : x6_1 < (t307.length : Int) := of_decide_eq_true (by first | (with_reducible assumption) | assumption)
        obtain ⟨ad310, A310_0, c310_0, e310, hx310_0, hl310_0, hi310_0⟩ := at_L7 (Kd.S_reads' HO_5.out).2.2 x6_1 p310 q310
        cases e310
        obtain ⟨ce310, hce310, hMe310, hcc310⟩ := Kd.S_get HO_5.out [] x6_1 p310 (by first | exact q310 | exact of_decide_eq_true (by first | (with_reducible assumption) | assumption) | (have e_ := (Kd.S_reads' HO_5.out).1; omega))
        obtain ⟨ve310_0, rfl, ge310_0⟩ := hMe310
        have hv310_0 := hcc310 0 _ rfl
        rw [Nat.add_zero, show ((Kd.slice 4 Kd.bool)).sz = 1 from rfl, Nat.mul_one] at hv310_0
        replace hv310_0 := Option.some.inj (hv310_0.symm.trans hx310_0)
        rw [hv310_0] at ge310_0
        have HL310_0 := Aside0.mk (show Kd.R Kd.bool 4 _ _ _ _ (rd_L7 t307 x6_1) from ge310_0)
        clear hv310_0 ge310_0; clear hcc310 hce310; have HR310_0 := Aside0.mk hi310_0; have HC310_0 := Aside0.mk hl310_0; clear hi310_0 hl310_0; replace p310 := eq_true p310; replace q310 := eq_true q310
        have p311 : 0 ≤ (x6_1 : Int) := of_decide_eq_true (by first | (with_reducible assumption) | assumption)
        have q311 : x6_1 < ((rd_L7 t307 x6_1).length : Int) := of_decide_eq_true (by first | (with_reducible assumption) | assumption)
        obtain ⟨ad311, e311, hx311_0⟩ := Kd.at_bool (by repeat (first | (with_reducible exact HR310_0.out) | (with_reducible refine Kd.C_alloc ?_ _) | (with_reducible refine Kd.C_drewN ?_ _) | (with_reducible refine Kd.C_drew ?_) | exact HR310_0.out)) x6_1 p311 q311
        (try rw [← Nbq9.out] at hx311_0)
        cases e311; replace p311 := eq_true p311; replace q311 := eq_true q311; go_wp2
        go_roundg k1
        case measure => have := HK1.out; omega
        case rel => exact ⟨(wrap64 (x6_1 + 1)), (by first | rfl | (simp; done) | (simp [*]; done)), H', ⟨by have := HK1.out; omega⟩, ⟨by (with_reducible repeat (first | apply Kd.S_alloc | apply Kd.S_drewN | apply Kd.S_drew)); exact HO_5.out⟩, ⟨by repeat (first | (with_reducible first | exact HB.out | apply below_alloc | apply pw_below_drewN | apply below_drew1) | exact HB.out)⟩⟩
      ·rw [if_neg c8] at H
       exact absurd H (by simp)
     ·rw [if_neg c7] at H
      exact absurd H (by simp)
    ·rw [if_neg c6] at H
     exact absurd H (by simp)
   ·rw [if_neg c5] at H
    have c5b0 : decide (x6_1 < a0) = false := decide_eq_false c5
    clear c5; obtain rfl := Option.some.inj H; go_wp2; go_ret
    exact ⟨by first | rfl | (simp [errW_none, errW_some] <;> rfl) | (simp [*, errW_none, errW_some] <;> rfl), by repeat (first | (with_reducible first | exact HB.out | apply below_alloc | apply pw_below_drewN | apply below_drew1) | exact HB.out)⟩

end Go.Proofs.Ytbbkclcfmcjlgaa.P

-- PRINTED by print.py (a twelfth state) out of the translation. Not trusted: Lean checks it.

namespace Go.Proofs.Ytbbkclcfmcjlgaa.P
open Go.RowKit Go.Proofs.YtbbkclcfmcjlgaaW.PrintWords Go.Proofs.YtbbkclcfmcjlgaaW.PrintLast Go.Proofs.YtbbkclcfmcjlgaaW.PrintMore
attribute [local go_sem] max2_int min2_int max_two min_two max_three min_three max_four min_four   -- for this text's walks alone
set_option linter.unusedVariables false
set_option linter.unusedSimpArgs false

/-! ### swarfref29_fault: function 47 -/
def swarfref29_fault.f (k : Nat) (a0 : Int) (l1 : List (S47)) : Option (Int) := (swarfref29_Valid.f k a0 l1).bind fun t325 => (if t325 = 0 then ((swarfref29_Cyclic.f k a0 l1).bind fun t326 => (if t326 = true then (some 12) else (some 0))) else (some t325))
theorem swarfref29_fault.mono : ∀ a0 a1 k, LeO (swarfref29_fault.f k a0 a1) (swarfref29_fault.f (k + 1) a0 a1) := by
 intro a0 a1 k
 unfold swarfref29_fault.f
 repeat' first
   | (with_reducible exact swarfref29_Cyclic.mono _ _ _)
   | (with_reducible exact swarfref29_Valid.mono _ _ _)
   | (with_reducible exact LeO.refl _)
   | (with_reducible exact LeO.none _)
   | (with_reducible refine LeO.ite ?_ ?_)
   | (with_reducible refine LeO.bind ?_ (fun _ => ?_))
   | exact swarfref29_Cyclic.mono _ _ _
   | exact swarfref29_Valid.mono _ _ _
   | exact LeO.none _
   | refine LeO.ite ?_ ?_
   | refine LeO.bind ?_ (fun _ => ?_)
set_option maxHeartbeats 8000000 in
set_option maxRecDepth 100000 in
theorem swarfref29_fault.calls (k : Nat) (a0 : Int) (A1 : Option Addr) (c1 : Nat) (l1 : List (S47)) (r : Int) (w : World) (hr1 : Kd.C k47 w A1 l1.length l1) (hc1 : l1.length ≤ c1) (h : swarfref29_fault.f k a0 l1 = some r) :
  Calls Try.prog 47 #[.int .i64 a0, .slice A1 l1.length c1] w fun e w' => e = .returned (.int .i64 r) ∧ Below w.heap.size w w' := by
 have HR1 := Aside0.mk hr1
 have HC1 := Aside0.mk hc1
 clear hr1 hc1
 have HB := Aside0.mk (Below.refl w.heap.size w)
 have H : ((swarfref29_Valid.f k a0 l1).bind fun t325 => (if t325 = 0 then ((swarfref29_Cyclic.f k a0 l1).bind fun t326 => (if t326 = true then (some 12) else (some 0))) else (some t325))) = some r := h
 clear h
 replace H := Option.bind_eq_some_iff.mp H
 obtain ⟨t325, A30, H⟩ := H
 replace H : (if t325 = 0 then ((swarfref29_Cyclic.f k a0 l1).bind fun t326 => (if t326 = true then (some 12) else (some 0))) else (some t325)) = some r := H
 have A3 := Aside0.mk A30
 clear A30
 by_cases c4 : t325 = 0
 ·rw [if_pos c4] at H
  have c4b0 : (t325 == 0) = true := beq_iff_eq.mpr c4
  have c4b1 : (t325 != 0) = false := bne_eq_false_iff_eq.mpr c4
  clear c4; replace H := Option.bind_eq_some_iff.mp H
  obtain ⟨t326, A50, H⟩ := H
  replace H : (if t326 = true then (some 12) else (some 0)) = some r := H
  have A5 := Aside0.mk A50; clear A50
  by_cases c6 : t326 = true
  ·subst c6
   have H1 : (some 12) = some r := by rw [if_pos rfl] at H; exact H
   clear H; have H := H1; clear H1; obtain rfl := Option.some.inj H
   go_enter Try.func47, Try.ntmps47
   go_wp2_with (first | ((with_reducible refine gate_callee (f := 21) rfl ?_); refine goesL_ (some 8) rfl rfl Try.func21 (by kernel_rfl) rfl #[.int .i64 a0, .slice A1 l1.length c1] rfl (by (try simp only [List.map_toArray, List.map_cons, List.map_nil]); first | done | rfl | (simp only [List.length_drop, List.length_take]; rfl)) ?_; (with_reducible refine (swarfref29_Valid.calls k a0 _ _ l1 t325 _ ?side1 ?side2 A3.out).mono ?_); (case side1 => repeat (first | exact HR1.out | (with_reducible refine Kd.C_alloc ?_ _) | (with_reducible refine Kd.C_drewN ?_ _) | (with_reducible refine Kd.C_drew ?_))); (case side2 => exact HC1.out); rintro e w' ⟨rfl, ⟨nd, rfl⟩⟩; refine ⟨_, rfl, ?_⟩) | ((with_reducible refine gate_callee (f := 23) rfl ?_); refine goesL_ (some 14) rfl rfl Try.func23 (by kernel_rfl) rfl #[.int .i64 a0, .slice A1 l1.length c1] rfl (by (try simp only [List.map_toArray, List.map_cons, List.map_nil]); first | done | rfl | (simp only [List.length_drop, List.length_take]; rfl)) ?_; (with_reducible refine (swarfref29_Cyclic.calls k a0 _ _ l1 true _ ?side1 ?side2 A5.out).mono ?_); (case side1 => repeat (first | exact HR1.out | (with_reducible refine Kd.C_alloc ?_ _) | (with_reducible refine Kd.C_drewN ?_ _) | (with_reducible refine Kd.C_drew ?_))); (case side2 => exact HC1.out); rintro e w7 ⟨rfl, hb⟩; refine ⟨_, rfl, ?_⟩; have n0_ := Aside0.mk (below_step (by repeat (first | (with_reducible first | exact HB.out | apply below_alloc | apply pw_below_drewN | apply below_drew1) | exact HB.out)) hb); clear HB; have HB := n0_; clear n0_; (try clear hb); (try clear hb2); (try clear hk); (try clear hi)))
   go_ret
   exact ⟨by first | rfl | (simp [errW_none, errW_some] <;> rfl) | (simp [*, errW_none, errW_some] <;> rfl), by repeat (first | (with_reducible first | exact HB.out | apply below_alloc | apply pw_below_drewN | apply below_drew1) | exact HB.out)⟩
  ·replace c6 := Bool.eq_false_iff.mpr c6
   subst c6
   have H1 : (some 0) = some r := by rw [if_neg (show ¬ (false = true) by decide)] at H; exact H
   clear H; have H := H1; clear H1; obtain rfl := Option.some.inj H
   go_enter Try.func47, Try.ntmps47
   go_wp2_with (first | ((with_reducible refine gate_callee (f := 21) rfl ?_); refine goesL_ (some 8) rfl rfl Try.func21 (by kernel_rfl) rfl #[.int .i64 a0, .slice A1 l1.length c1] rfl (by (try simp only [List.map_toArray, List.map_cons, List.map_nil]); first | done | rfl | (simp only [List.length_drop, List.length_take]; rfl)) ?_; (with_reducible refine (swarfref29_Valid.calls k a0 _ _ l1 t325 _ ?side1 ?side2 A3.out).mono ?_); (case side1 => repeat (first | exact HR1.out | (with_reducible refine Kd.C_alloc ?_ _) | (with_reducible refine Kd.C_drewN ?_ _) | (with_reducible refine Kd.C_drew ?_))); (case side2 => exact HC1.out); rintro e w' ⟨rfl, ⟨nd, rfl⟩⟩; refine ⟨_, rfl, ?_⟩) | ((with_reducible refine gate_callee (f := 23) rfl ?_); refine goesL_ (some 14) rfl rfl Try.func23 (by kernel_rfl) rfl #[.int .i64 a0, .slice A1 l1.length c1] rfl (by (try simp only [List.map_toArray, List.map_cons, List.map_nil]); first | done | rfl | (simp only [List.length_drop, List.length_take]; rfl)) ?_; (with_reducible refine (swarfref29_Cyclic.calls k a0 _ _ l1 false _ ?side1 ?side2 A5.out).mono ?_); (case side1 => repeat (first | exact HR1.out | (with_reducible refine Kd.C_alloc ?_ _) | (with_reducible refine Kd.C_drewN ?_ _) | (with_reducible refine Kd.C_drew ?_))); (case side2 => exact HC1.out); rintro e w8 ⟨rfl, hb⟩; refine ⟨_, rfl, ?_⟩; have n0_ := Aside0.mk (below_step (by repeat (first | (with_reducible first | exact HB.out | apply below_alloc | apply pw_below_drewN | apply below_drew1) | exact HB.out)) hb); clear HB; have HB := n0_; clear n0_; (try clear hb); (try clear hb2); (try clear hk); (try clear hi)))
   go_ret
   exact ⟨by first | rfl | (simp [errW_none, errW_some] <;> rfl) | (simp [*, errW_none, errW_some] <;> rfl), by repeat (first | (with_reducible first | exact HB.out | apply below_alloc | apply pw_below_drewN | apply below_drew1) | exact HB.out)⟩
 ·rw [if_neg c4] at H
  have c4b0 : (t325 == 0) = false := beq_eq_false_iff_ne.mpr c4
  have c4b1 : (t325 != 0) = true := bne_iff_ne.mpr c4
  obtain rfl := Option.some.inj H
  go_enter Try.func47, Try.ntmps47
  go_wp2_with (first | ((with_reducible refine gate_callee (f := 21) rfl ?_); refine goesL_ (some 8) rfl rfl Try.func21 (by kernel_rfl) rfl #[.int .i64 a0, .slice A1 l1.length c1] rfl (by (try simp only [List.map_toArray, List.map_cons, List.map_nil]); first | done | rfl | (simp only [List.length_drop, List.length_take]; rfl)) ?_; (with_reducible refine (swarfref29_Valid.calls k a0 _ _ l1 t325 _ ?side1 ?side2 A3.out).mono ?_); (case side1 => repeat (first | exact HR1.out | (with_reducible refine Kd.C_alloc ?_ _) | (with_reducible refine Kd.C_drewN ?_ _) | (with_reducible refine Kd.C_drew ?_))); (case side2 => exact HC1.out); rintro e w' ⟨rfl, ⟨nd, rfl⟩⟩; refine ⟨_, rfl, ?_⟩))
  go_ret
  exact ⟨by first | rfl | (simp [errW_none, errW_some] <;> rfl) | (simp [*, errW_none, errW_some] <;> rfl), by repeat (first | (with_reducible first | exact HB.out | apply below_alloc | apply pw_below_drewN | apply below_drew1) | exact HB.out)⟩

end Go.Proofs.Ytbbkclcfmcjlgaa.P

/- What the reference's table of dependences comes to: chains. Plain numbers and lists. -/

namespace Go.Proofs.Ytbbkclcfmcjlgaa.B
open Go.RowKit Go.Proofs.Ytbbkclcfmcjlgaa.P Go.Proofs.Ytbbkclcfmcjlgaa.Gr Go.Proofs.YtbbkclcfmcjlgaaW.PrintWords Go.Proofs.YtbbkclcfmcjlgaaW.PrintLast Go.Proofs.YtbbkclcfmcjlgaaW.PrintMore
set_option linter.unusedVariables false
set_option linter.unusedSimpArgs false

def Rl (l : List S47) (a b : Int) : Prop := (⟨a, b⟩ : S47) ∈ l
/-! ### Tables -/
/-! ### Warshall's rounds -/
end Go.Proofs.Ytbbkclcfmcjlgaa.B

-- PRINTED by print.py (a twelfth state) out of the translation. Not trusted: Lean checks it.

namespace Go.Proofs.Ytbbkclcfmcjlgaa.P
open Go.RowKit Go.Proofs.YtbbkclcfmcjlgaaW.PrintWords Go.Proofs.YtbbkclcfmcjlgaaW.PrintLast Go.Proofs.YtbbkclcfmcjlgaaW.PrintMore
attribute [local go_sem] max2_int min2_int max_two min_two max_three min_three max_four min_four   -- for this text's walks alone
set_option linter.unusedVariables false
set_option linter.unusedSimpArgs false

/-! ### swarfref29_Order: function 26 -/
mutual
def swarfref29_Order.l0 : Nat → Int → List (S47) → List Int → Option (List Int × Int)
 | 0, _, _, _ => none
 | k + 1, x0, x1, x7 => if (x7.length : Int) < x0 then (swarfref29_Order.l1 k x0 x1 x7 0) else (some (x7, 0))
def swarfref29_Order.l1 : Nat → Int → List (S47) → List Int → Int → Option (List Int × Int)
 | 0, _, _, _, _ => none
 | k + 1, x0, x1, x7, x8 => (swarfref29_in.f k x7 x8).bind fun t328 => (if t328 = true then (swarfref29_Order.l1 k x0 x1 x7 (wrap64 (x8 + 1))) else ((swarfref29_ready.f k x1 x7 x8).bind fun t329 => (if t329 = true then (if x7.length < 17592186044416 then (swarfref29_Order.l0 k x0 x1 (x7 ++ [x8])) else (none)) else (swarfref29_Order.l1 k x0 x1 x7 (wrap64 (x8 + 1))))))
end
def swarfref29_Order.f (k : Nat) (a0 : Int) (l1 : List (S47)) : Option (List Int × Int) := (swarfref29_fault.f k a0 l1).bind fun t327 => (if t327 = 0 then (swarfref29_Order.l0 k a0 l1 ([] : List Int)) else (some (([] : List Int), t327)))
theorem swarfref29_Order.mono_l : ∀ k, (∀ y0 y1 y2, LeO (swarfref29_Order.l0 k y0 y1 y2) (swarfref29_Order.l0 (k + 1) y0 y1 y2)) ∧ (∀ y0 y1 y2 y3, LeO (swarfref29_Order.l1 k y0 y1 y2 y3) (swarfref29_Order.l1 (k + 1) y0 y1 y2 y3))
 | 0 => ⟨fun _ _ _ r h => by simp [swarfref29_Order.l0] at h, fun _ _ _ _ r h => by simp [swarfref29_Order.l1] at h⟩
 | k + 1 => by
  obtain ⟨ih0, ih1⟩ := swarfref29_Order.mono_l k
  refine ⟨?_, ?_⟩
  ·intro y0 y1 y2
   unfold swarfref29_Order.l0
   repeat' first
   | (with_reducible exact ih0 _ _ _)
   | (with_reducible exact ih1 _ _ _ _)
   | (with_reducible exact swarfref29_fault.mono _ _ _)
   | (with_reducible exact swarfref29_in.mono _ _ _)
   | (with_reducible exact swarfref29_ready.mono _ _ _ _)
   | (with_reducible exact LeO.refl _)
   | (with_reducible exact LeO.none _)
   | (with_reducible refine LeO.ite ?_ ?_)
   | (with_reducible refine LeO.bind ?_ (fun _ => ?_))
   | exact ih0 _ _ _
   | exact ih1 _ _ _ _
   | exact swarfref29_fault.mono _ _ _
   | exact swarfref29_in.mono _ _ _
   | exact swarfref29_ready.mono _ _ _ _
   | exact LeO.none _
   | refine LeO.ite ?_ ?_
   | refine LeO.bind ?_ (fun _ => ?_)
  ·intro y0 y1 y2 y3
   unfold swarfref29_Order.l1
   repeat' first
   | (with_reducible exact ih0 _ _ _)
   | (with_reducible exact ih1 _ _ _ _)
   | (with_reducible exact swarfref29_fault.mono _ _ _)
   | (with_reducible exact swarfref29_in.mono _ _ _)
   | (with_reducible exact swarfref29_ready.mono _ _ _ _)
   | (with_reducible exact LeO.refl _)
   | (with_reducible exact LeO.none _)
   | (with_reducible refine LeO.ite ?_ ?_)
   | (with_reducible refine LeO.bind ?_ (fun _ => ?_))
   | exact ih0 _ _ _
   | exact ih1 _ _ _ _
   | exact swarfref29_fault.mono _ _ _
   | exact swarfref29_in.mono _ _ _
   | exact swarfref29_ready.mono _ _ _ _
   | exact LeO.none _
   | refine LeO.ite ?_ ?_
   | refine LeO.bind ?_ (fun _ => ?_)
theorem swarfref29_Order.mono : ∀ a0 a1 k, LeO (swarfref29_Order.f k a0 a1) (swarfref29_Order.f (k + 1) a0 a1) := by
 intro a0 a1 k
 obtain ⟨ih0, ih1⟩ := swarfref29_Order.mono_l k
 unfold swarfref29_Order.f
 repeat' first
   | (with_reducible exact ih0 _ _ _)
   | (with_reducible exact ih1 _ _ _ _)
   | (with_reducible exact swarfref29_fault.mono _ _ _)
   | (with_reducible exact swarfref29_in.mono _ _ _)
   | (with_reducible exact swarfref29_ready.mono _ _ _ _)
   | (with_reducible exact LeO.refl _)
   | (with_reducible exact LeO.none _)
   | (with_reducible refine LeO.ite ?_ ?_)
   | (with_reducible refine LeO.bind ?_ (fun _ => ?_))
   | exact ih0 _ _ _
   | exact ih1 _ _ _ _
   | exact swarfref29_fault.mono _ _ _
   | exact swarfref29_in.mono _ _ _
   | exact swarfref29_ready.mono _ _ _ _
   | exact LeO.none _
   | refine LeO.ite ?_ ?_
   | refine LeO.bind ?_ (fun _ => ?_)
set_option maxHeartbeats 8000000 in
set_option maxRecDepth 100000 in
theorem swarfref29_Order.calls (k : Nat) (a0 : Int) (A1 : Option Addr) (c1 : Nat) (l1 : List (S47)) (r1 : List Int) (r2 : Int) (w : World) (hr1 : Kd.C k47 w A1 l1.length l1) (hc1 : l1.length ≤ c1) (h : swarfref29_Order.f k a0 l1 = some (r1, r2)) :
  Calls Try.prog 26 #[.int .i64 a0, .slice A1 l1.length c1] w fun e w' => ∃ v0_ : Value, e = .returned (.tuple #[v0_, .int .i64 r2]) ∧ Kd.R (Kd.int .i64) 3 w' w.heap.size (fun _ => True) v0_ r1 ∧ Below w.heap.size w w' := by
 have HR1 := Aside0.mk hr1
 have HC1 := Aside0.mk hc1
 clear hr1 hc1
 have HB := Aside0.mk (Below.refl w.heap.size w)
 have H : ((swarfref29_fault.f k a0 l1).bind fun t327 => (if t327 = 0 then (swarfref29_Order.l0 k a0 l1 ([] : List Int)) else (some (([] : List Int), t327)))) = some (r1, r2) := h
 clear h
 replace H := Option.bind_eq_some_iff.mp H
 obtain ⟨t327, A30, H⟩ := H
 replace H : (if t327 = 0 then (swarfref29_Order.l0 k a0 l1 ([] : List Int)) else (some (([] : List Int), t327))) = some (r1, r2) := H
 have A3 := Aside0.mk A30
 clear A30
 by_cases c4 : t327 = 0
 ·rw [if_pos c4] at H
  have c4b0 : (t327 == 0) = true := beq_iff_eq.mpr c4
  have c4b1 : (t327 != 0) = false := bne_eq_false_iff_eq.mpr c4
  clear c4; have H' := Aside0.mk H; clear H
  go_enter Try.func26, Try.ntmps26
  go_wp2_with (first | ((with_reducible refine gate_callee (f := 47) rfl ?_); refine goesL_ (some 11) rfl rfl Try.func47 (by kernel_rfl) rfl #[.int .i64 a0, .slice A1 l1.length c1] rfl (by (try simp only [List.map_toArray, List.map_cons, List.map_nil]); first | done | rfl | (simp only [List.length_drop, List.length_take]; rfl)) ?_; (with_reducible refine (swarfref29_fault.calls k a0 _ _ l1 t327 _ ?side1 ?side2 A3.out).mono ?_); (case side1 => repeat (first | exact HR1.out | (with_reducible refine Kd.C_alloc ?_ _) | (with_reducible refine Kd.C_drewN ?_ _) | (with_reducible refine Kd.C_drew ?_))); (case side2 => exact HC1.out); rintro e w5 ⟨rfl, hb⟩; refine ⟨_, rfl, ?_⟩; have n0_ := Aside0.mk (below_step (by repeat (first | (with_reducible first | exact HB.out | apply below_alloc | apply pw_below_drewN | apply below_drew1) | exact HB.out)) hb); clear HB; have HB := n0_; clear n0_; (try clear hb); (try clear hb2); (try clear hk); (try clear hi)))
  go_loopg [7] k (fun kq v7 w' => ∃ (x7_1 : List Int), Aside0 (swarfref29_Order.l0 kq a0 l1 x7_1 = some (r1, r2)) ∧ Aside0 (kq ≤ k) ∧ Aside0 (Kd.R (Kd.int .i64) 3 w' w.heap.size (fun _ => True) v7 x7_1) ∧ Aside0 (Below w.heap.size w w'))
  case atStart => exact ⟨(([] : List Int)), H', ⟨Nat.le_refl _⟩, ⟨by first | exact Kd.R_nil _ _ _ _ _ | exact Kd.N_nil _ _ _ _ _ | exact Kd.V_nil _ _ _ _ _ | exact Kd.Q_nil _ _ _ _ _ | exact Kd.S_nil _ _ _ _ _⟩, ⟨by repeat (first | (with_reducible first | exact HB.out | apply below_alloc | apply pw_below_drewN | apply below_drew1) | exact HB.out)⟩⟩
  case round =>
   clear H'; try clear c1; try clear c2; try clear p2; try clear c4; try clear c4b0; try clear c4b1
   obtain ⟨x7_1, HA, HK1, HO_7, HB⟩ := hrel
   cases gk with
   | zero => exact absurd HA.out (by simp [swarfref29_Order.l0])
   | succ k1 =>
    have H := HA.out
    clear HA
    simp only [swarfref29_Order.l0] at H
    by_cases c6 : (x7_1.length : Int) < a0
    ·rw [if_pos c6] at H
     have c6b0 : decide ((x7_1.length : Int) < a0) = true := decide_eq_true c6
     clear c6; have H' := Aside0.mk H; clear H
     obtain ⟨Ao7, co7, eo7⟩ := Kd.R_slice HO_7.out
     subst eo7; go_wp2
     go_loopg [8] k1 (fun kq v8 w' => ∃ (x8_2 : Int), v8 = .int .i64 x8_2 ∧ Aside0 (swarfref29_Order.l1 kq a0 l1 x7_1 x8_2 = some (r1, r2)) ∧ Aside0 (kq ≤ k1) ∧ Aside0 (Kd.R (Kd.int .i64) 3 w' w.heap.size (fun _ => True) (.slice Ao7 x7_1.length co7) x7_1) ∧ Aside0 (Below w.heap.size w w'))
     case atStart => exact ⟨(0), (by first | rfl | (simp; done) | (simp [*]; done)), H', ⟨Nat.le_refl _⟩, ⟨by (with_reducible repeat (first | apply Kd.R_alloc | apply Kd.R_drewN | apply Kd.R_drew)); exact HO_7.out⟩, ⟨by repeat (first | (with_reducible first | exact HB.out | apply below_alloc | apply pw_below_drewN | apply below_drew1) | exact HB.out)⟩⟩
     case round =>
      clear H'; try clear c1; try clear c2; try clear p2; try clear c4; try clear c4b0; try clear c4b1; try clear c6; try clear c6b0; try clear p2
      obtain ⟨x8_2, rfl, HA, HK2, HO_7, HB⟩ := hrel
      cases gk with
      | zero => exact absurd HA.out (by simp [swarfref29_Order.l1])
      | succ k2 =>
       have H := HA.out
       clear HA
       simp only [swarfref29_Order.l1] at H
       replace H := Option.bind_eq_some_iff.mp H
       obtain ⟨t328, A80, H⟩ := H
       replace H : (if t328 = true then (swarfref29_Order.l1 k2 a0 l1 x7_1 (wrap64 (x8_2 + 1))) else ((swarfref29_ready.f k2 l1 x7_1 x8_2).bind fun t329 => (if t329 = true then (if x7_1.length < 17592186044416 then (swarfref29_Order.l0 k2 a0 l1 (x7_1 ++ [x8_2])) else (none)) else (swarfref29_Order.l1 k2 a0 l1 x7_1 (wrap64 (x8_2 + 1)))))) = some (r1, r2) := H
       have A8 := Aside0.mk A80; clear A80
       by_cases c9 : t328 = true
       ·subst c9
        have H1 : (swarfref29_Order.l1 k2 a0 l1 x7_1 (wrap64 (x8_2 + 1))) = some (r1, r2) := by rw [if_pos rfl] at H; exact H
        clear H; have H := H1; clear H1; have H' := Aside0.mk H; clear H
        go_wp2_with (first | ((with_reducible refine gate_callee (f := 40) rfl ?_); refine goesL_ (some 21) rfl rfl Try.func40 (by kernel_rfl) rfl #[.slice Ao7 x7_1.length co7, .int .i64 x8_2] rfl (by (try simp only [List.map_toArray, List.map_cons, List.map_nil]); first | done | rfl | (simp only [List.length_drop, List.length_take]; rfl)) ?_; (with_reducible refine (swarfref29_in.calls k2 _ _ x7_1 x8_2 true _ ?side1 ?side2 A8.out).mono ?_); (case side1 => repeat (first | exact (Kd.R_reads' HO_7.out).2.2 | (with_reducible refine Kd.C_alloc ?_ _) | (with_reducible refine Kd.C_drewN ?_ _) | (with_reducible refine Kd.C_drew ?_))); (case side2 => exact (Kd.R_reads' HO_7.out).2.1); rintro e w' ⟨rfl, ⟨nd, rfl⟩⟩; refine ⟨_, rfl, ?_⟩))
        go_roundg k2
        case measure => have := HK1.out; have := HK2.out; omega
        case rel => exact ⟨(wrap64 (x8_2 + 1)), (by first | rfl | (simp; done) | (simp [*]; done)), H', ⟨by have := HK1.out; have := HK2.out; omega⟩, ⟨by (with_reducible repeat (first | apply Kd.R_alloc | apply Kd.R_drewN | apply Kd.R_drew)); exact HO_7.out⟩, ⟨by repeat (first | (with_reducible first | exact HB.out | apply below_alloc | apply pw_below_drewN | apply below_drew1) | exact HB.out)⟩⟩
       ·replace c9 := Bool.eq_false_iff.mpr c9
        subst c9
        have H1 : ((swarfref29_ready.f k2 l1 x7_1 x8_2).bind fun t329 => (if t329 = true then (if x7_1.length < 17592186044416 then (swarfref29_Order.l0 k2 a0 l1 (x7_1 ++ [x8_2])) else (none)) else (swarfref29_Order.l1 k2 a0 l1 x7_1 (wrap64 (x8_2 + 1))))) = some (r1, r2) := by rw [if_neg (show ¬ (false = true) by decide)] at H; exact H
        clear H; have H := H1; clear H1; replace H := Option.bind_eq_some_iff.mp H
        obtain ⟨t329, A100, H⟩ := H
        replace H : (if t329 = true then (if x7_1.length < 17592186044416 then (swarfref29_Order.l0 k2 a0 l1 (x7_1 ++ [x8_2])) else (none)) else (swarfref29_Order.l1 k2 a0 l1 x7_1 (wrap64 (x8_2 + 1)))) = some (r1, r2) := H
        have A10 := Aside0.mk A100; clear A100
        by_cases c11 : t329 = true
        ·subst c11
         have H1 : (if x7_1.length < 17592186044416 then (swarfref29_Order.l0 k2 a0 l1 (x7_1 ++ [x8_2])) else (none)) = some (r1, r2) := by rw [if_pos rfl] at H; exact H
         clear H; have H := H1; clear H1
         by_cases c12 : x7_1.length < 17592186044416
         ·rw [if_pos c12] at H; have LMc12 := Aside0.mk c12; clear c12
          obtain ⟨y330, hy330⟩ : ∃ y_ : List Int, y_ = (x7_1 ++ [x8_2]) := ⟨_, rfl⟩
          replace H : (swarfref29_Order.l0 k2 a0 l1 y330) = some (r1, r2) := by first | (rw [hy330]; with_reducible exact H) | (have H2_ := (Option.bind_some _ _).symm.trans H; rw [hy330]; with_reducible exact H2_) | (have H2_ := (Option.bind_some _ _).symm.trans H; with_reducible exact H2_) | with_reducible exact H | (rw [hy330]; exact H) | exact H
          have Ny330 := Aside0.mk hy330; clear hy330; have H' := Aside0.mk H; clear H
          go_wp2_with (first | ((with_reducible refine gate_callee (f := 40) rfl ?_); refine goesL_ (some 21) rfl rfl Try.func40 (by kernel_rfl) rfl #[.slice Ao7 x7_1.length co7, .int .i64 x8_2] rfl (by (try simp only [List.map_toArray, List.map_cons, List.map_nil]); first | done | rfl | (simp only [List.length_drop, List.length_take]; rfl)) ?_; (with_reducible refine (swarfref29_in.calls k2 _ _ x7_1 x8_2 false _ ?side1 ?side2 A8.out).mono ?_); (case side1 => repeat (first | exact (Kd.R_reads' HO_7.out).2.2 | (with_reducible refine Kd.C_alloc ?_ _) | (with_reducible refine Kd.C_drewN ?_ _) | (with_reducible refine Kd.C_drew ?_))); (case side2 => exact (Kd.R_reads' HO_7.out).2.1); rintro e w' ⟨rfl, ⟨nd, rfl⟩⟩; refine ⟨_, rfl, ?_⟩) | (go_at_call 41; (with_reducible refine (swarfref29_ready.calls k2 _ _ l1 _ _ x7_1 x8_2 true _ ?side1 ?side2 ?side3 ?side4 A10.out).mono ?_); (case side1 => repeat (first | exact (Kd.C_below HR1.out (by repeat (first | (with_reducible first | exact HB.out | apply below_alloc | apply pw_below_drewN | apply below_drew1) | exact HB.out))) | (with_reducible refine Kd.C_alloc ?_ _) | (with_reducible refine Kd.C_drewN ?_ _) | (with_reducible refine Kd.C_drew ?_))); (case side2 => exact HC1.out); (case side3 => repeat (first | exact (Kd.R_reads' HO_7.out).2.2 | (with_reducible refine Kd.C_alloc ?_ _) | (with_reducible refine Kd.C_drewN ?_ _) | (with_reducible refine Kd.C_drew ?_))); (case side4 => exact (Kd.R_reads' HO_7.out).2.1); rintro e w' ⟨rfl, ⟨nd, rfl⟩⟩) | ((with_reducible refine gate_builtin (b := .append) (xs := #[.tmp 31, .tmp 33]) rfl ?_); at_builtin; refine Kd.R_append (Kd.int .i64) (w0 := w) w.heap.size rfl (.tmp 31) (.tmp 33) 31 3 (.int .i64 0) 8 rfl Try.underlying31 info3 rfl (by decide) (by omega) (.slice Ao7 x7_1.length co7) x7_1 x8_2 [.int .i64 x8_2] (fun _ => True) (fun _ => False) rfl rfl ?aP (fun _ hk => hk.elim) ?aF ?aO ?aB ?aS ?aL ?_; (case aP => exact rfl); (case aB => exact (by repeat (first | (with_reducible first | exact HB.out | apply below_alloc | apply pw_below_drewN | apply below_drew1) | exact HB.out))); (case aF => exact (fun _ _ => trivial)); (case aO => exact (by (with_reducible repeat (first | apply Kd.R_alloc | apply Kd.R_drewN | apply Kd.R_drew)); exact HO_7.out)); (case aS => exact (below_size (by repeat (first | (with_reducible first | exact HB.out | apply below_alloc | apply pw_below_drewN | apply below_drew1) | exact HB.out)))); (case aL => have := LMc12.out; omega); intro v331 w13 ho hb hg hat; rw [← Ny330.out] at ho; have n0_ := Aside0.mk (hb); have n1_ := Aside0.mk (ho); clear HB; clear HO_7; have HB := n0_; have HO332 := n1_; clear n0_ n1_; clear ho hb hg hat))
          go_roundg k2
          case measure => have := HK1.out; have := HK2.out; omega
          case rel => exact ⟨(y330), H', ⟨by have := HK1.out; have := HK2.out; omega⟩, ⟨by (with_reducible repeat (first | apply Kd.R_alloc | apply Kd.R_drewN | apply Kd.R_drew)); exact HO332.out⟩, ⟨by repeat (first | (with_reducible first | exact HB.out | apply below_alloc | apply pw_below_drewN | apply below_drew1) | exact HB.out)⟩⟩
         ·rw [if_neg c12] at H
          exact absurd H (by simp)
        ·replace c11 := Bool.eq_false_iff.mpr c11
         subst c11
         have H1 : (swarfref29_Order.l1 k2 a0 l1 x7_1 (wrap64 (x8_2 + 1))) = some (r1, r2) := by rw [if_neg (show ¬ (false = true) by decide)] at H; exact H
         clear H; have H := H1; clear H1; have H' := Aside0.mk H; clear H
         go_wp2_with (first | ((with_reducible refine gate_callee (f := 40) rfl ?_); refine goesL_ (some 21) rfl rfl Try.func40 (by kernel_rfl) rfl #[.slice Ao7 x7_1.length co7, .int .i64 x8_2] rfl (by (try simp only [List.map_toArray, List.map_cons, List.map_nil]); first | done | rfl | (simp only [List.length_drop, List.length_take]; rfl)) ?_; (with_reducible refine (swarfref29_in.calls k2 _ _ x7_1 x8_2 false _ ?side1 ?side2 A8.out).mono ?_); (case side1 => repeat (first | exact (Kd.R_reads' HO_7.out).2.2 | (with_reducible refine Kd.C_alloc ?_ _) | (with_reducible refine Kd.C_drewN ?_ _) | (with_reducible refine Kd.C_drew ?_))); (case side2 => exact (Kd.R_reads' HO_7.out).2.1); rintro e w' ⟨rfl, ⟨nd, rfl⟩⟩; refine ⟨_, rfl, ?_⟩) | (go_at_call 41; (with_reducible refine (swarfref29_ready.calls k2 _ _ l1 _ _ x7_1 x8_2 false _ ?side1 ?side2 ?side3 ?side4 A10.out).mono ?_); (case side1 => repeat (first | exact (Kd.C_below HR1.out (by repeat (first | (with_reducible first | exact HB.out | apply below_alloc | apply pw_below_drewN | apply below_drew1) | exact HB.out))) | (with_reducible refine Kd.C_alloc ?_ _) | (with_reducible refine Kd.C_drewN ?_ _) | (with_reducible refine Kd.C_drew ?_))); (case side2 => exact HC1.out); (case side3 => repeat (first | exact (Kd.R_reads' HO_7.out).2.2 | (with_reducible refine Kd.C_alloc ?_ _) | (with_reducible refine Kd.C_drewN ?_ _) | (with_reducible refine Kd.C_drew ?_))); (case side4 => exact (Kd.R_reads' HO_7.out).2.1); rintro e w' ⟨rfl, ⟨nd, rfl⟩⟩))
         go_roundg k2
         case measure => have := HK1.out; have := HK2.out; omega
         case rel => exact ⟨(wrap64 (x8_2 + 1)), (by first | rfl | (simp; done) | (simp [*]; done)), H', ⟨by have := HK1.out; have := HK2.out; omega⟩, ⟨by (with_reducible repeat (first | apply Kd.R_alloc | apply Kd.R_drewN | apply Kd.R_drew)); exact HO_7.out⟩, ⟨by repeat (first | (with_reducible first | exact HB.out | apply below_alloc | apply pw_below_drewN | apply below_drew1) | exact HB.out)⟩⟩
    ·rw [if_neg c6] at H
     have c6b0 : decide ((x7_1.length : Int) < a0) = false := decide_eq_false c6
     clear c6
     simp only [Option.some.injEq, Prod.mk.injEq] at H
     obtain ⟨rfl, rfl⟩ := H
     obtain ⟨Ao14, co14, eo14⟩ := Kd.R_slice HO_7.out
     subst eo14; go_wp2
     go_ret2
     exact ⟨_, by first | rfl | (simp [errW_none, errW_some] <;> rfl) | (simp [*, errW_none, errW_some] <;> rfl), by (with_reducible repeat (first | apply Kd.R_alloc | apply Kd.R_drewN | apply Kd.R_drew)); exact HO_7.out, by repeat (first | (with_reducible first | exact HB.out | apply below_alloc | apply pw_below_drewN | apply below_drew1) | exact HB.out)⟩
 ·rw [if_neg c4] at H
  have c4b0 : (t327 == 0) = false := beq_eq_false_iff_ne.mpr c4
  have c4b1 : (t327 != 0) = true := bne_iff_ne.mpr c4
  simp only [Option.some.injEq, Prod.mk.injEq] at H
  obtain ⟨rfl, rfl⟩ := H
  go_enter Try.func26, Try.ntmps26
  go_wp2_with (first | ((with_reducible refine gate_callee (f := 47) rfl ?_); refine goesL_ (some 11) rfl rfl Try.func47 (by kernel_rfl) rfl #[.int .i64 a0, .slice A1 l1.length c1] rfl (by (try simp only [List.map_toArray, List.map_cons, List.map_nil]); first | done | rfl | (simp only [List.length_drop, List.length_take]; rfl)) ?_; (with_reducible refine (swarfref29_fault.calls k a0 _ _ l1 t327 _ ?side1 ?side2 A3.out).mono ?_); (case side1 => repeat (first | exact HR1.out | (with_reducible refine Kd.C_alloc ?_ _) | (with_reducible refine Kd.C_drewN ?_ _) | (with_reducible refine Kd.C_drew ?_))); (case side2 => exact HC1.out); rintro e w15 ⟨rfl, hb⟩; refine ⟨_, rfl, ?_⟩; have n0_ := Aside0.mk (below_step (by repeat (first | (with_reducible first | exact HB.out | apply below_alloc | apply pw_below_drewN | apply below_drew1) | exact HB.out)) hb); clear HB; have HB := n0_; clear n0_; (try clear hb); (try clear hb2); (try clear hk); (try clear hi)))
  go_ret2
  exact ⟨_, by first | rfl | (simp [errW_none, errW_some] <;> rfl) | (simp [*, errW_none, errW_some] <;> rfl), by first | exact Kd.R_nil _ _ _ _ _ | exact Kd.N_nil _ _ _ _ _ | exact Kd.V_nil _ _ _ _ _ | exact Kd.Q_nil _ _ _ _ _ | exact Kd.S_nil _ _ _ _ _, by repeat (first | (with_reducible first | exact HB.out | apply below_alloc | apply pw_below_drewN | apply below_drew1) | exact HB.out)⟩

end Go.Proofs.Ytbbkclcfmcjlgaa.P

/- What read and the two functions Order come to. Plain numbers and lists. -/

namespace Go.Proofs.Ytbbkclcfmcjlgaa.B
open Go.RowKit Go.Proofs.Ytbbkclcfmcjlgaa.P Go.Proofs.Ytbbkclcfmcjlgaa.Gr Go.Proofs.YtbbkclcfmcjlgaaW.PrintWords Go.Proofs.YtbbkclcfmcjlgaaW.PrintLast Go.Proofs.YtbbkclcfmcjlgaaW.PrintMore
set_option linter.unusedVariables false
set_option linter.unusedSimpArgs false

/-! ### What must come directly before and behind a number -/
theorem rd_set (m : List Int) (a b x : Int) (h0 : 0 ≤ a) (h1 : a < (m.length : Int)) (hb : 0 ≤ b) : rd (m.set a.toNat x) b = if b = a then x else rd m b := by
  unfold rd
  by_cases e : b = a
  · subst e
    rw [if_pos rfl, List.getD_eq_getElem?_getD, List.getElem?_set_self (by omega)]; rfl
  · rw [if_neg e, List.getD_eq_getElem?_getD, List.getElem?_set_ne (by omega), List.getD_eq_getElem?_getD]
theorem rd_take {l : List Int} {i : Nat} {j : Int} (h0 : 0 ≤ j) (h1 : j < i) : rd (l.take i) j = rd l j := by
  unfold rd
  rw [List.getD_eq_getElem?_getD, List.getElem?_take, if_pos (by omega), List.getD_eq_getElem?_getD]
theorem T47_mem (l : List S47) (j : Int) (h0 : 0 ≤ j) (h : j < (l.length : Int)) : rd_T47 l j ∈ l := List.mem_of_mem_drop (by rw [drop_T47 l j h0 h]; exact List.mem_cons_self)
theorem rd_mem (l : List Int) (j : Int) (h0 : 0 ≤ j) (h : j < (l.length : Int)) : rd l j ∈ l := List.mem_of_mem_drop (by rw [drop_rd l j h0 h]; exact List.mem_cons_self)
theorem take_T47 (l : List S47) (j : Int) (h0 : 0 ≤ j) (h : j < (l.length : Int)) : l.take (j + 1).toNat = l.take j.toNat ++ [rd_T47 l j] := by
  rw [show (j + 1).toNat = j.toNat + 1 by omega, List.take_succ_eq_append_getElem (by omega)]
  congr 2
  unfold rd_T47
  rw [List.getD_eq_getElem?_getD, List.getElem?_eq_getElem (by omega)]
  rfl
theorem take_rd (l : List Int) (j : Int) (h0 : 0 ≤ j) (h : j < (l.length : Int)) : l.take (j + 1).toNat = l.take j.toNat ++ [rd l j] := by
  rw [show (j + 1).toNat = j.toNat + 1 by omega, List.take_succ_eq_append_getElem (by omega)]
  congr 2
  unfold rd
  rw [List.getD_eq_getElem?_getD, List.getElem?_eq_getElem (by omega)]
  rfl
/-! ### The next number -/
def Can (n : Int) (l : List S47) (o : List Int) (i : Int) : Prop := (0 ≤ i ∧ i < n) ∧ ¬ i ∈ o ∧ rdy l o i = true
def Nxt (n : Int) (l : List S47) (o : List Int) (i : Int) : Prop := Can n l o i ∧ ∀ j, j < i → ¬ Can n l o j
theorem least (P : Int → Prop) (h : ∃ i, 0 ≤ i ∧ P i) : ∃ i, (0 ≤ i ∧ P i) ∧ ∀ j, 0 ≤ j → j < i → ¬ P j := by
  obtain ⟨i, i0, hi⟩ := h
  have key : ∀ (m : Nat) (i : Int), 0 ≤ i → i.toNat ≤ m → P i → ∃ i, (0 ≤ i ∧ P i) ∧ ∀ j, 0 ≤ j → j < i → ¬ P j := by
    intro m
    induction m with
    | zero => intro i i0 hm hi; exact ⟨i, ⟨i0, hi⟩, fun j j0 hj => by omega⟩
    | succ m ih =>
      intro i i0 hm hi
      by_cases hx : ∃ j, 0 ≤ j ∧ j < i ∧ P j
      · obtain ⟨j, j0, hj, hp⟩ := hx
        exact ih j j0 (by omega) hp
      · exact ⟨i, ⟨i0, hi⟩, fun j j0 hj hp => hx ⟨j, j0, hj, hp⟩⟩
  exact key i.toNat i i0 (Nat.le_refl _) hi
theorem Nxt.of {n : Int} {l : List S47} {o : List Int} (h : ∃ i, Can n l o i) : ∃ i, Nxt n l o i := by
  obtain ⟨i, hi⟩ := h
  obtain ⟨k, hk, hm⟩ := least (Can n l o) ⟨i, hi.1.1, hi⟩
  exact ⟨k, hk.2, fun j hj hc => hm j hc.1.1 hj hc⟩
/-- A list of numbers of the right kind: each once, and what must come before them stands before them. -/
def Lst (n : Int) (l : List S47) (o : List Int) : Prop := o.Nodup ∧ (∀ x ∈ o, 0 ≤ x ∧ x < n) ∧ Topo (Rl l) o
theorem Lst.snoc {n : Int} {l : List S47} {o : List Int} {i : Int} (h : Lst n l o) (hc : Can n l o i) : Lst n l (o ++ [i]) := by
  obtain ⟨h1, h2, h3⟩ := h
  refine ⟨?_, fun x hx => ?_, fun k x hx j hj => ?_⟩
  · rw [List.nodup_append]
    exact ⟨h1, by simp, fun a ha b hb => by
      rw [List.mem_singleton] at hb
      subst hb
      exact fun e => hc.2.1 (e ▸ ha)⟩
  · rcases List.mem_append.1 hx with hx | hx
    · exact h2 x hx
    · rw [List.mem_singleton] at hx; subst hx; exact hc.1
  · by_cases hk : k < o.length
    · rw [List.getElem?_append_left hk] at hx
      rw [List.take_append_of_le_length (by omega)]
      exact h3 k x hx j hj
    · rw [List.getElem?_append_right (by omega)] at hx
      have hk0 : k - o.length = 0 := by
        rcases Nat.eq_zero_or_pos (k - o.length) with h0 | h0
        · exact h0
        · rw [List.getElem?_eq_none (by simp; omega)] at hx; cases hx
      rw [hk0] at hx
      have hxi : i = x := by simpa using hx
      subst hxi
      rw [show k = o.length by omega, List.take_append_of_le_length (Nat.le_refl _), List.take_length]
      exact (rdy_iff _ _ _).1 hc.2.2 j hj
theorem Lst.nil (n : Int) (l : List S47) : Lst n l [] := ⟨by simp, by simp, fun i x hx => by simp at hx⟩
theorem Lst.len {n : Int} {l : List S47} {o : List Int} (h : Lst n l o) (hn : 0 ≤ n) : (o.length : Int) ≤ n := by
  have := pig n.toNat o h.1 (fun x hx => by have := h.2.1 x hx; omega)
  omega
/-! ### The reference's order -/
end Go.Proofs.Ytbbkclcfmcjlgaa.B

/- What the two functions Linear come to. Plain numbers and lists. -/

namespace Go.Proofs.Ytbbkclcfmcjlgaa.B
open Go.RowKit Go.Proofs.Ytbbkclcfmcjlgaa.P Go.Proofs.Ytbbkclcfmcjlgaa.Gr Go.Proofs.YtbbkclcfmcjlgaaW.PrintWords Go.Proofs.YtbbkclcfmcjlgaaW.PrintLast Go.Proofs.YtbbkclcfmcjlgaaW.PrintMore
set_option linter.unusedVariables false
set_option linter.unusedSimpArgs false

def LinP (n : Int) (l : List S47) (o : List Int) : Prop := vErr n l = 0 ∧ (o.length : Int) = n ∧ Lst n l o
theorem rd_get {o : List Int} {j : Int} (j0 : 0 ≤ j) (j1 : j < (o.length : Int)) : o[j.toNat]? = some (rd o j) := by
  unfold rd
  rw [List.getElem?_eq_getElem (by omega), List.getD_eq_getElem?_getD, List.getElem?_eq_getElem (by omega)]
  rfl
theorem mem_take_rd {o : List Int} {i : Nat} {x : Int} (h : x ∈ o.take i) : ∃ j : Int, 0 ≤ j ∧ j < i ∧ j < (o.length : Int) ∧ rd o j = x := by
  obtain ⟨q, hq⟩ := List.getElem?_of_mem h
  rw [List.getElem?_take] at hq
  split at hq
  · rename_i hqi
    obtain ⟨hl, he⟩ := List.getElem?_eq_some_iff.1 hq
    refine ⟨q, by omega, by omega, by omega, ?_⟩
    unfold rd
    rw [show (q : Int).toNat = q by omega, List.getD_eq_getElem?_getD, hq]; rfl
  · cases hq
theorem rd_mem_take {o : List Int} {i : Nat} {j : Int} (j0 : 0 ≤ j) (j1 : j < i) (j2 : j < (o.length : Int)) : rd o j ∈ o.take i := by
  rw [← rd_take j0 j1]
  exact rd_mem _ _ j0 (by rw [List.length_take]; omega)
theorem rd_inj {o : List Int} (hd : o.Nodup) {i j : Int} (i0 : 0 ≤ i) (i1 : i < (o.length : Int)) (j0 : 0 ≤ j) (j1 : j < (o.length : Int)) (e : rd o i = rd o j) : i = j := by
  have h1 := rd_get i0 i1
  have h2 := rd_get j0 j1
  rw [← e] at h2
  obtain ⟨a1, a2⟩ := List.getElem?_eq_some_iff.1 h1
  obtain ⟨b1, b2⟩ := List.getElem?_eq_some_iff.1 h2
  have := (List.getElem_inj (xs := o) (h₀ := a1) (h₁ := b1) hd).1 (a2.trans b2.symm)
  omega
theorem Lst.take {n : Int} {l : List S47} {o : List Int} (h : Lst n l o) (i : Nat) : Lst n l (o.take i) := by
  refine ⟨h.1.sublist (List.take_sublist _ _), fun x hx => h.2.1 x (List.mem_of_mem_take hx), fun k x hx j hj => ?_⟩
  rw [List.getElem?_take] at hx
  split at hx
  · rename_i hk
    rw [List.take_take, Nat.min_eq_left (by omega)]
    exact h.2.2 k x hx j hj
  · cases hx
theorem Lst.can {n : Int} {l : List S47} {o : List Int} (h : Lst n l o) (j : Int) (j0 : 0 ≤ j) (j1 : j < (o.length : Int)) : Can n l (o.take j.toNat) (rd o j) := by
  refine ⟨h.2.1 _ (rd_mem o j j0 j1), fun hm => ?_, (rdy_iff _ _ _).2 (fun a ha => h.2.2 j.toNat _ (rd_get j0 j1) a ha)⟩
  obtain ⟨q, q0, q1, q2, e⟩ := mem_take_rd hm
  have := rd_inj h.1 q0 q2 j0 j1 e
  omega
theorem rlinear_l0 {n : Int} {l : List S47} (hn : 0 ≤ n ∧ n ≤ 200) (hl : l.length ≤ 2000) (o : List Int) (ho : (o.length : Int) = n) (d : Nat) : ∀ j : Int, 0 ≤ j → j + d = n → Lst n l (o.take j.toNat) → EvP (fun f => swarfref29_Linear.l0 f n l o j) (fun r => r = true ↔ Lst n l o) := by
  induction d with
  | zero =>
    intro j j0 hj h
    rw [show o.take j.toNat = o from List.take_of_length_le (by omega)] at h
    exact EvP.stop true (fun f => by simp only [swarfref29_Linear.l0]; rw [if_neg (by omega)]) ⟨fun _ => h, fun _ => rfl⟩
  | succ d ih =>
    intro j j0 hj h
    have hw := wrap_succ j j0 (by omega)
    have htl : (o.take j.toNat).length ≤ 200 := by rw [List.length_take]; omega
    have hno : ∀ {P : Prop}, (Can n l (o.take j.toNat) (rd o j) → False) → (false = true ↔ Lst n l o) := fun hx => ⟨(fun e => by cases e), (fun hL => absurd (hL.can j j0 (by omega)) (fun hc => hx hc))⟩
    by_cases c1 : rd o j < 0
    · refine EvP.stop false (fun f => ?_) (hno (P := True) (fun hc => by have := hc.1.1; omega))
      simp only [swarfref29_Linear.l0]
      rw [if_pos (by omega), if_pos j0, if_pos (by omega), if_pos c1]
    · by_cases c2 : rd o j ≥ n
      · refine EvP.stop false (fun f => ?_) (hno (P := True) (fun hc => by have := hc.1.2; omega))
        simp only [swarfref29_Linear.l0]
        rw [if_pos (by omega), if_pos j0, if_pos (by omega), if_neg c1, if_pos c2]
      · refine EvP.step (f := fun f => (swarfref29_in.f f (o.take j.toNat) (rd o j)).bind fun t247 => (if t247 = true then (some false) else ((swarfref29_ready.f f l (o.take j.toNat) (rd o j)).bind fun t250 => (if t250 = true then (swarfref29_Linear.l0 f n l o (wrap64 (j + 1))) else (some false))))) (fun f => ?_) ?_
        · simp only [swarfref29_Linear.l0]
          rw [if_pos (by omega), if_pos j0, if_pos (by omega), if_neg c1, if_neg c2, if_pos (by omega)]
        · refine EvP.bind (in_ev _ (by omega) _) ?_
          by_cases hm : rd o j ∈ o.take j.toNat
          · simp only [decide_eq_true hm, if_true]
            exact ⟨_, Ev.now _, hno (P := True) (fun hc => hc.2.1 hm)⟩
          · simp only [decide_eq_false hm, Bool.false_eq_true, if_false]
            refine EvP.bind (ready_ev l (by omega) _ (by omega) _) ?_
            by_cases hr : rdy l (o.take j.toNat) (rd o j) = true
            · simp only [hr, if_true, hw]
              refine ih (j + 1) (by omega) (by omega) ?_
              rw [take_rd o j j0 (by omega)]
              exact h.snoc ⟨⟨by omega, by omega⟩, hm, hr⟩
            · simp only [show rdy l (o.take j.toNat) (rd o j) = false by simpa using hr, Bool.false_eq_true, if_false]
              exact ⟨_, Ev.now _, hno (P := True) (fun hc => hr hc.2.2)⟩
theorem rlinear_ev (n : Int) (l : List S47) (o : List Int) (hl : l.length ≤ 100000000000000) : EvP (fun f => swarfref29_Linear.f f n l o) (fun r => r = true ↔ LinP n l o) := by
  unfold swarfref29_Linear.f
  refine EvP.bind (rvalid_ev n l hl) ?_
  by_cases z : vErr n l = 0
  · simp only [if_pos z]
    obtain ⟨k1, k2, k3, k4⟩ := vErr_zero z
    by_cases e : (o.length : Int) = n
    · rw [show ((o.length : Int) != n) = false from bne_eq_false_iff_eq.2 e]
      refine EvP.step (f := fun f => swarfref29_Linear.l0 f n l o 0) (fun f => by simp only [swarfref29_Linear.j0]; rw [if_neg (by decide)]) ?_
      refine (rlinear_l0 ⟨k1, k2⟩ k3 o e n.toNat 0 (by omega) (by omega) (by rw [show (0 : Int).toNat = 0 from rfl, List.take_zero]; exact Lst.nil n l)).mono (fun r hr => ?_)
      rw [hr]
      exact ⟨fun h => ⟨z, e, h⟩, fun h => h.2.2⟩
    · rw [show ((o.length : Int) != n) = true from bne_iff_ne.2 e]
      exact EvP.stop false (fun f => by simp [swarfref29_Linear.j0]) ⟨(fun h => by cases h), (fun h => absurd h.2.1 e)⟩
  · simp only [if_neg z]
    exact EvP.stop false (fun f => by simp [swarfref29_Linear.j0]) ⟨(fun h => by cases h), (fun h => absurd h.1 z)⟩

/-! ### The program's -/
theorem idx_l0 (gf : Int → Int → Option Bool) (bad : S47 → Prop) (l : List S47) (hl : l.length ≤ 100000) (hg : ∀ p ∈ l, ∃ t, gf p.f0 p.f1 = some t ∧ (t = true ↔ bad p)) (d : Nat) : ∀ j : Int, 0 ≤ j → j + d = l.length → (∀ p ∈ l.take j.toNat, ¬ bad p) → EvP (fun f => idx.l0 gf l f j) (fun r => (r = -1 ∧ ∀ p ∈ l, ¬ bad p) ∨ (0 ≤ r ∧ ∃ p ∈ l, bad p)) := by
  induction d with
  | zero =>
    intro j j0 hj h
    rw [show l.take j.toNat = l from List.take_of_length_le (by omega)] at h
    exact EvP.stop (-1) (fun f => by simp only [idx.l0]; rw [if_neg (by omega)]) (.inl ⟨rfl, h⟩)
  | succ d ih =>
    intro j j0 hj h
    have hw := wrap_succ j j0 (by omega)
    have hm := T47_mem l j j0 (by omega)
    obtain ⟨t, ht, hb⟩ := hg _ hm
    cases t with
    | true =>
      refine EvP.stop j (fun f => ?_) (.inr ⟨j0, _, hm, hb.1 rfl⟩)
      simp only [idx.l0]
      rw [if_pos (by omega), if_pos j0, ht]
      rfl
    | false =>
      refine EvP.step (fun f => ?_) (ih (j + 1) (by omega) (by omega) (fun p hp => ?_))
      · simp only [idx.l0]
        rw [if_pos (by omega), if_pos j0, ht, hw]
        rfl
      · rw [take_T47 l j j0 (by omega)] at hp
        rcases List.mem_append.1 hp with hp | hp
        · exact h p hp
        · rw [List.mem_singleton] at hp
          subst hp
          exact fun hx => by have := hb.2 hx; cases this
def PosOk (n : Int) (o : List Int) (i : Int) (m : List Int) : Prop := (m.length : Int) = n ∧ ∀ x, 0 ≤ x → x < n → (¬ x ∈ o.take i.toNat → rd m x = 0) ∧ (∀ j, 0 ≤ j → j < i → rd o j = x → rd m x = j + 1)
theorem lin_l0 {n : Int} {l : List S47} (hn : 0 ≤ n ∧ n ≤ 200) (hl : l.length ≤ 2000) (hok : ∀ p ∈ l, okp n p = true) (o : List Int) (ho : (o.length : Int) = n) (d : Nat) : ∀ (j : Int) (m : List Int), 0 ≤ j → j + d = n → PosOk n o j m → (o.take j.toNat).Nodup → (∀ x ∈ o.take j.toNat, 0 ≤ x ∧ x < n) → EvP (fun f => lin.l0 n l o f j m) (fun r => r = true ↔ Lst n l o) := by
  induction d with
  | zero =>
    intro j m j0 hj hp hd hr
    have hj' : j = n := by omega
    subst hj'
    rw [show o.take j.toNat = o from List.take_of_length_le (by omega)] at hd hr
    have hlen := hp.1
    have hpos : ∀ x, x ∈ o → ∃ q, 0 ≤ q ∧ q < j ∧ rd o q = x ∧ rd m x = q + 1 := fun x hx => by
      rw [← show o.take o.length = o from List.take_length] at hx
      obtain ⟨q, q0, q1, q2, e⟩ := mem_take_rd hx
      have hxr := hr x (by rw [← e]; exact rd_mem o q q0 q2)
      exact ⟨q, q0, by omega, e, (hp.2 x hxr.1 hxr.2).2 q q0 (by omega) e⟩
    refine EvP.step (f := fun f => (idx.l0 (gfL m) l f 0).bind fun r => some (!(decide (r ≥ 0)))) (fun f => ?_) ?_
    · simp only [lin.l0]
      rw [if_neg (by omega)]
    · refine EvP.bindP (idx_l0 (gfL m) (fun p => rd m p.f0 > rd m p.f1) l (by omega) (fun p hpl => ?_) l.length 0 (by omega) (by omega) (by simp)) (fun r hr2 => ?_)
      · have := (okp_iff _ _).1 (hok p hpl)
        refine ⟨_, by unfold gfL; rw [if_pos (by omega)], by simp⟩
      · rcases hr2 with ⟨rfl, h⟩ | ⟨h0, p, hpl, hb⟩
        · refine ⟨true, by simp; exact Ev.now _, ⟨fun _ => ⟨hd, hr, fun i x hx y hy => ?_⟩, fun _ => rfl⟩⟩
          have hyx := (okp_iff _ _).1 (hok _ hy)
          simp only at hyx
          have hil := (List.getElem?_eq_some_iff.1 hx).1
          have hxi : rd o i = x := by
            have := rd_get (o := o) (j := (i : Int)) (by omega) (by omega)
            rw [show (i : Int).toNat = i by omega, hx] at this
            exact (Option.some.inj this).symm
          have hmx := (hp.2 x hyx.2.2.1 hyx.2.2.2).2 i (by omega) (by omega) hxi
          obtain ⟨q, q0, q1, e, hq⟩ := hpos y (full_in hd hr ho y hyx.2.1.1 hyx.2.1.2)
          have hle := h _ hy
          simp only at hle
          have hqi : q < i := by
            rcases Int.lt_trichotomy q i with hlt | heq | hgt
            · exact hlt
            · exact absurd (by rw [← e, ← hxi, heq]) hyx.1
            · omega
          rw [← e]
          exact rd_mem_take q0 hqi (by omega)
        · refine ⟨false, by simp only [decide_eq_true (show r ≥ 0 from h0)]; exact Ev.now _, ⟨(fun e => by cases e), (fun hL => ?_)⟩⟩
          exfalso
          have hyx := (okp_iff _ _).1 (hok _ hpl)
          obtain ⟨q, q0, q1, e, hq⟩ := hpos p.f1 (full_in hd hr ho _ hyx.2.2.1 hyx.2.2.2)
          have hin := hL.2.2 q.toNat p.f1 (by rw [rd_get q0 (by omega), e]) p.f0 hpl
          obtain ⟨q', q0', q1', q2', e'⟩ := mem_take_rd hin
          have := (hp.2 p.f0 hyx.2.1.1 hyx.2.1.2).2 q' q0' (by omega) e'
          omega
  | succ d ih =>
    intro j m j0 hj hp hd hr
    have hw := wrap_succ j j0 (by omega)
    have hlen := hp.1
    have htk := take_rd o j j0 (by omega)
    have hno : ∀ {P : Prop}, (Can n l (o.take j.toNat) (rd o j) → False) → (false = true ↔ Lst n l o) := fun hx => ⟨(fun e => by cases e), (fun hL => absurd (hL.can j j0 (by omega)) (fun hc => hx hc))⟩
    by_cases c1 : rd o j < 0
    · refine EvP.stop false (fun f => ?_) (hno (P := True) (fun hc => by have := hc.1.1; omega))
      simp only [lin.l0]
      rw [if_pos (by omega), if_pos j0, if_pos c1]
    · by_cases c2 : rd o j ≥ n
      · refine EvP.stop false (fun f => ?_) (hno (P := True) (fun hc => by have := hc.1.2; omega))
        simp only [lin.l0]
        rw [if_pos (by omega), if_pos j0, if_neg c1, if_pos c2]
      · by_cases hm : rd o j ∈ o.take j.toNat
        · obtain ⟨q, q0, q1, q2, e⟩ := mem_take_rd hm
          have hq := (hp.2 (rd o j) (by omega) (by omega)).2 q q0 (by omega) e
          refine EvP.stop false (fun f => ?_) (hno (P := True) (fun hc => hc.2.1 hm))
          simp only [lin.l0]
          rw [if_pos (by omega), if_pos j0, if_neg c1, if_neg c2, if_pos (by omega), if_pos (by omega)]
        · have hz := (hp.2 (rd o j) (by omega) (by omega)).1 hm
          refine EvP.step (fun f => ?_) (ih (j + 1) (m.set (rd o j).toNat (j + 1)) (by omega) (by omega) ⟨by rw [List.length_set]; exact hp.1, fun x x0 x1 => ⟨fun hx => ?_, fun q q0 q1 e => ?_⟩⟩ ?_ (fun x hx => ?_))
          · simp only [lin.l0]
            rw [if_pos (by omega), if_pos j0, if_neg c1, if_neg c2, if_pos (by omega), if_neg (by omega), hw]
          · rw [htk] at hx
            have hx2 : ¬ x ∈ o.take j.toNat := fun h => hx (List.mem_append_left _ h)
            have hx3 : ¬ x = rd o j := fun h => hx (by rw [h]; simp)
            rw [rd_set m (rd o j) x _ (by omega) (by omega) x0, if_neg hx3]
            exact (hp.2 x x0 x1).1 hx2
          · rw [rd_set m (rd o j) x _ (by omega) (by omega) x0]
            by_cases hqj : q = j
            · subst hqj
              rw [if_pos e.symm]
            · rw [if_neg (fun h => ?_)]
              · exact (hp.2 x x0 x1).2 q q0 (by omega) e
              · exact hm (by rw [← h, ← e]; exact rd_mem_take q0 (by omega) (by omega))
          · rw [htk, List.nodup_append]
            exact ⟨hd, by simp, fun a ha b hb => by
              rw [List.mem_singleton] at hb
              subst hb
              exact fun e => hm (e ▸ ha)⟩
          · rw [htk] at hx
            rcases List.mem_append.1 hx with hx | hx
            · exact hr x hx
            · rw [List.mem_singleton] at hx
              subst hx
              exact ⟨by omega, by omega⟩
theorem linear_ev (n : Int) (l : List S47) (o : List Int) (hl : l.length ≤ 100000000000000) : EvP (fun f => precedence_Linear.f f n l o) (fun r => r = true ↔ LinP n l o) := by
  unfold precedence_Linear.f
  refine EvP.bind (valid_ev n l hl) ?_
  by_cases z : vErr n l = 0
  · simp only [if_pos z]
    obtain ⟨k1, k2, k3, k4⟩ := vErr_zero z
    by_cases e : (o.length : Int) = n
    · simp only [if_pos e, if_pos k1, if_pos (show n.toNat ≤ 35184372088832 by omega)]
      refine (lin_l0 ⟨k1, k2⟩ k3 k4 o e n.toNat 0 _ (by omega) (by omega) ⟨by simp; omega, fun x x0 x1 => ⟨fun _ => ?_, fun j h0 h1 => by omega⟩⟩ (by simp) (by simp)).mono (fun r hr => ?_)
      · unfold rd
        rw [List.getD_eq_getElem?_getD, List.getElem?_replicate]
        split <;> rfl
      · rw [hr]
        exact ⟨fun h => ⟨z, e, h⟩, fun h => h.2.2⟩
    · simp only [if_neg e]
      exact ⟨_, Ev.now _, ⟨(fun h => by cases h), (fun h => absurd h.2.1 e)⟩⟩
  · simp only [if_neg z]
    exact ⟨_, Ev.now _, ⟨(fun h => by cases h), (fun h => absurd h.1 z)⟩⟩
end Go.Proofs.Ytbbkclcfmcjlgaa.B

/- PrecedenceLinear: the printed law answers true. -/

namespace Go.Proofs.Ytbbkclcfmcjlgaa.B
open Go.RowKit Go.Proofs.Ytbbkclcfmcjlgaa.P Go.Proofs.YtbbkclcfmcjlgaaW.PrintWords Go.Proofs.YtbbkclcfmcjlgaaW.PrintLast Go.Proofs.YtbbkclcfmcjlgaaW.PrintMore
set_option linter.unusedVariables false
set_option linter.unusedSimpArgs false
theorem llaw_j0 (n : Int) (l : List S47) (o : List Int) (b : Bool) (h : b = false → l.length ≤ 60 ∧ o.length ≤ 40) : EvP (fun k => swarflaw29_PrecedenceLinear.j0 k n l o b) (fun r => r = true) := by
  cases b with
  | true =>
    refine EvP.step (f := fun k => (swarflaw29_awake.f k).bind fun t => some t) (fun k => ?_) (EvP.bind awake_ev ⟨true, Ev.now _, rfl⟩)
    simp only [swarflaw29_PrecedenceLinear.j0]
    rw [if_pos trivial]
  | false =>
    obtain ⟨hl, ho⟩ := h rfl
    refine EvP.step (f := fun k => (precedence_Linear.f k n l o).bind fun t263 => ((swarfref29_Linear.f k n l o).bind fun t264 => (some (t263 == t264)))) (fun k => ?_) ?_
    · simp only [swarflaw29_PrecedenceLinear.j0]
      rw [if_neg (by decide), cp_eq l (by omega)]
      simp only [Option.bind_some, List.nil_append]
      rw [if_pos (by simp; omega)]
    · refine EvP.bindP (linear_ev n l o (by omega)) (fun r hr => EvP.bindP (rlinear_ev n l o (by omega)) (fun u hu => ?_))
      have e : r = u := by
        rw [Bool.eq_iff_iff, hr, hu]
      subst e
      exact ⟨_, Ev.now _, by simp⟩
theorem PrecedenceLinear (n : Int) (l : List S47) (o : List Int) : ∃ k, swarflaw29_PrecedenceLinear.f k n l o = some true := by
  have hev : ∀ {g : Nat → Option Bool}, EvP g (fun r => r = true) → Ev g true := fun h => by
    obtain ⟨r, h1, rfl⟩ := h
    exact h1
  refine Ev.rounds (g := fun k => swarflaw29_PrecedenceLinear.f k n l o) (hev ?_)
  unfold swarflaw29_PrecedenceLinear.f
  refine EvP.bind awake_ev ?_
  simp only [if_true]
  refine EvP.bind (few_ev n 30 l) ?_
  by_cases h2 : fewB n 30 l = true
  · simp only [h2, if_true]
    refine llaw_j0 n l o _ (fun h => ?_)
    simp only [decide_eq_false_iff_not] at h
    unfold fewB at h2
    by_cases c : (l.length : Int) ≤ 60
    · omega
    · rw [if_neg c] at h2; cases h2
  · simp only [show fewB n 30 l = false by simpa using h2, Bool.false_eq_true, if_false]
    exact llaw_j0 n l o _ (fun h => by cases h)
end Go.Proofs.Ytbbkclcfmcjlgaa.B
