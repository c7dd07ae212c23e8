import Derived.Test.YtbbkclcfmcjlgaaT6M21
import Derived.Test.YtbbkclcfmcjlgaaT6Px35
import Derived.Test.YtbbkclcfmcjlgaaT6M26
import Derived.Test.YtbbkclcfmcjlgaaT6M27
import Derived.Test.YtbbkclcfmcjlgaaT6M25
import Derived.Test.YtbbkclcfmcjlgaaT6M23


namespace Go.Proofs.Ytbbkclcfmcjlgaa.P
open Go.RowKit Go.Proofs.YtbbkclcfmcjlgaaW.PrintWords Go.Proofs.YtbbkclcfmcjlgaaW.PrintLast Go.Proofs.YtbbkclcfmcjlgaaW.PrintMore
attribute [local go_sem] max2_int min2_int max_two min_two max_three min_three max_four min_four
set_option linter.unusedVariables false
set_option linter.unusedSimpArgs false

def swarfref29_Cyclic.l0 : Nat → Int → List (List Bool) → Int → Option (Bool)
 | 0, _, _, _ => none
 | k + 1, x0, x5, x6 => if x6 < x0 then (if 0 ≤ x6 then (if x6 < (x5.length : Int) then (if x6 < ((rd_L7 x5 x6).length : Int) then (if rdOf false (rd_L7 x5 x6) x6 = true then (some true) else (swarfref29_Cyclic.l0 k x0 x5 (wrap64 (x6 + 1)))) else (none)) else (none)) else (none)) else (some false)
def swarfref29_Cyclic.f (k : Nat) (a0 : Int) (l1 : List (S47)) : Option (Bool) := (swarfref29_Depends.f k a0 l1).bind fun t307 => (swarfref29_Cyclic.l0 k a0 t307 0)
set_option maxHeartbeats 8000000 in
set_option maxRecDepth 100000 in
theorem swarfref29_Cyclic.calls (k : Nat) (a0 : Int) (A1 : Option Addr) (c1 : Nat) (l1 : List (S47)) (r : Bool) (w : World) (hr1 : Kd.C k47 w A1 l1.length l1) (hc1 : l1.length ≤ c1) (h : swarfref29_Cyclic.f k a0 l1 = some r) :
  Calls Try.prog 23 #[.int .i64 a0, .slice A1 l1.length c1] w fun e w' => e = .returned (.bool r) ∧ Below w.heap.size w w' := by
 have HR1 := aK hr1
 have HC1 := aK hc1
 clear hr1 hc1
 have HB := aK (Below.refl w.heap.size w)
 have H : ((swarfref29_Depends.f k a0 l1).bind fun t307 => (swarfref29_Cyclic.l0 k a0 t307 0)) = some r := h
 clear h
 replace H := oB_ H
 obtain ⟨t307, A30, H⟩ := H
 replace H : (swarfref29_Cyclic.l0 k a0 t307 0) = some r := H
 have A3 := aK A30
 clear A30
 have H' := aK H
 clear H
 go_enter Try.func23, Try.ntmps23
 go_wp2_with (first | ((with_reducible refine gate_callee (f := 44) rfl ?_); refine goesL_ (some 9) rfl rfl Try.func44 (by kernel_rfl) rfl #[.int .i64 a0, .slice A1 l1.length c1] rfl (by (try simp only [List.map_toArray, List.map_cons, List.map_nil]); first | done | rfl | (simp only [List.length_drop, List.length_take]; rfl)) ?_; (with_reducible refine (swarfref29_Depends.calls k a0 _ _ l1 t307 _ ?side1 ?side2 A3.out).mono ?_); (case side1 => repeat (first | exact HR1.out | (with_reducible refine Kd.C_alloc ?_ _) | (with_reducible refine Kd.C_drewN ?_ _) | (with_reducible refine Kd.C_drew ?_))); (case side2 => exact HC1.out); rintro e w4 ⟨v308, rfl, ho0, hb⟩; refine ⟨_, rfl, ?_⟩; have n0_ := aK (Kd.S_lower ho0 (bZ_ (by repeat (first | (with_reducible first | exact HB.out | apply bA_ | apply bN_ | apply bD_) | exact HB.out)))); have n1_ := aK (bT_ (by repeat (first | (with_reducible first | exact HB.out | apply bA_ | apply bN_ | apply bD_) | exact HB.out)) hb); clear HB; have HO309 := n0_; have HB := n1_; clear n0_ n1_; (try clear hb); (try clear hb2); (try clear hk); (try clear hi); (try clear ho0)))
 go_loopg [6] k (fun kq v6 w' => ∃ (x6_1 : Int), v6 = .int .i64 x6_1 ∧ Aside0 (swarfref29_Cyclic.l0 kq a0 t307 x6_1 = some r) ∧ Aside0 (kq ≤ k) ∧ Aside0 (Kd.S (Kd.slice 4 Kd.bool) 52 w' w.heap.size (fun _ => True) v308 t307) ∧ Aside0 (Below w.heap.size w w'))
 case atStart => exact ⟨(0), (by first | rfl | (simp; done) | (simp [*]; done)), H', ⟨Nat.le_refl _⟩, ⟨by (with_reducible repeat (first | apply Kd.S_alloc | apply Kd.S_drewN | apply Kd.S_drew)); exact HO309.out⟩, ⟨by repeat (first | (with_reducible first | exact HB.out | apply bA_ | apply bN_ | apply bD_) | exact HB.out)⟩⟩
 case round =>
  clear H'; try clear c1; try clear c2; try clear p2; try clear c4
  obtain ⟨x6_1, rfl, HA, HK1, HO_5, HB⟩ := hrel
  cases gk with
  | zero => exact absurd HA.out (by simp [swarfref29_Cyclic.l0])
  | succ k1 =>
   have H := HA.out
   clear HA
   simp only [swarfref29_Cyclic.l0] at H
   by_cases c5 : x6_1 < a0
   ·rw [if_pos c5] at H
    have c5b0 : decide (x6_1 < a0) = true := decide_eq_true c5
    clear c5
    by_cases c6 : 0 ≤ x6_1
    ·rw [if_pos c6] at H
     have c6b0 : decide (0 ≤ x6_1) = true := decide_eq_true c6
     clear c6
     by_cases c7 : x6_1 < (t307.length : Int)
     ·rw [if_pos c7] at H
      have c7b0 : decide (x6_1 < (t307.length : Int)) = true := decide_eq_true c7
      clear c7
      by_cases c8 : x6_1 < ((rd_L7 t307 x6_1).length : Int)
      ·rw [if_pos c8] at H
       have c8b0 : decide (x6_1 < ((rd_L7 t307 x6_1).length : Int)) = true := decide_eq_true c8
       clear c8
       obtain ⟨bq9, hbq9⟩ : ∃ b_ : Bool, b_ = (rdOf false (rd_L7 t307 x6_1) x6_1) := ⟨_, rfl⟩
       replace H : (if bq9 = true then (some true) else (swarfref29_Cyclic.l0 k1 a0 t307 (wrap64 (x6_1 + 1)))) = some r := by rw [← hbq9] at H; exact H
       have Nbq9 := aK hbq9; clear hbq9
       by_cases c10 : bq9 = true
       ·subst c10
        have H1 : (some true) = some r := by rw [if_pos rfl] at H; exact H
        clear H; have H := H1; clear H1; obtain rfl := Option.some.inj H
        obtain ⟨Ao11, co11, eo11⟩ := Kd.S_slice HO_5.out
        subst eo11
        have p310 : 0 ≤ (x6_1 : Int) := of_decide_eq_true (by first | (with_reducible assumption) | assumption)
        have q310 : x6_1 < (t307.length : Int) := of_decide_eq_true (by first | (with_reducible assumption) | assumption)
        obtain ⟨ad310, A310_0, c310_0, e310, hx310_0, hl310_0, hi310_0⟩ := at_L7 (Kd.S_reads' HO_5.out).2.2 x6_1 p310 q310
        cases e310
        obtain ⟨ce310, hce310, hMe310, hcc310⟩ := Kd.S_get HO_5.out [] x6_1 p310 (by first | exact q310 | exact of_decide_eq_true (by first | (with_reducible assumption) | assumption) | (have e_ := (Kd.S_reads' HO_5.out).1; omega))
        obtain ⟨ve310_0, rfl, ge310_0⟩ := hMe310
        have hv310_0 := hcc310 0 _ rfl
        rw [Nat.add_zero, show ((Kd.slice 4 Kd.bool)).sz = 1 from rfl, Nat.mul_one] at hv310_0
        replace hv310_0 := Option.some.inj (hv310_0.symm.trans hx310_0)
        rw [hv310_0] at ge310_0
        have HL310_0 := aK (show Kd.R Kd.bool 4 _ _ _ _ (rd_L7 t307 x6_1) from ge310_0)
        clear hv310_0 ge310_0; clear hcc310 hce310; have HR310_0 := aK hi310_0; have HC310_0 := aK hl310_0; clear hi310_0 hl310_0; replace p310 := eq_true p310; replace q310 := eq_true q310
        have p311 : 0 ≤ (x6_1 : Int) := of_decide_eq_true (by first | (with_reducible assumption) | assumption)
        have q311 : x6_1 < ((rd_L7 t307 x6_1).length : Int) := of_decide_eq_true (by first | (with_reducible assumption) | assumption)
        obtain ⟨ad311, e311, hx311_0⟩ := Kd.at_bool (by repeat (first | (with_reducible exact HR310_0.out) | (with_reducible refine Kd.C_alloc ?_ _) | (with_reducible refine Kd.C_drewN ?_ _) | (with_reducible refine Kd.C_drew ?_) | exact HR310_0.out)) x6_1 p311 q311
        (try rw [← Nbq9.out] at hx311_0)
        cases e311; replace p311 := eq_true p311; replace q311 := eq_true q311; go_wp2; go_ret
        exact ⟨by first | rfl | (simp [errW_none, errW_some] <;> rfl) | (simp [*, errW_none, errW_some] <;> rfl), by repeat (first | (with_reducible first | exact HB.out | apply bA_ | apply bN_ | apply bD_) | exact HB.out)⟩
       ·replace c10 := Bool.eq_false_iff.mpr c10
        subst c10
        have H1 : (swarfref29_Cyclic.l0 k1 a0 t307 (wrap64 (x6_1 + 1))) = some r := by rw [if_neg (show ¬ (false = true) by decide)] at H; exact H
        clear H; have H := H1; clear H1; have H' := aK H; clear H
        obtain ⟨Ao12, co12, eo12⟩ := Kd.S_slice HO_5.out
        subst eo12
        have p310 : 0 ≤ (x6_1 : Int) := of_decide_eq_true (by first | (with_reducible assumption) | assumption)
        have q310 : x6_1 < (t307.length : Int) := of_decide_eq_true (by first | (with_reducible assumption) | assumption)
        obtain ⟨ad310, A310_0, c310_0, e310, hx310_0, hl310_0, hi310_0⟩ := at_L7 (Kd.S_reads' HO_5.out).2.2 x6_1 p310 q310
        cases e310
        obtain ⟨ce310, hce310, hMe310, hcc310⟩ := Kd.S_get HO_5.out [] x6_1 p310 (by first | exact q310 | exact of_decide_eq_true (by first | (with_reducible assumption) | assumption) | (have e_ := (Kd.S_reads' HO_5.out).1; omega))
        obtain ⟨ve310_0, rfl, ge310_0⟩ := hMe310
        have hv310_0 := hcc310 0 _ rfl
        rw [Nat.add_zero, show ((Kd.slice 4 Kd.bool)).sz = 1 from rfl, Nat.mul_one] at hv310_0
        replace hv310_0 := Option.some.inj (hv310_0.symm.trans hx310_0)
        rw [hv310_0] at ge310_0
        have HL310_0 := aK (show Kd.R Kd.bool 4 _ _ _ _ (rd_L7 t307 x6_1) from ge310_0)
        clear hv310_0 ge310_0; clear hcc310 hce310; have HR310_0 := aK hi310_0; have HC310_0 := aK hl310_0; clear hi310_0 hl310_0; replace p310 := eq_true p310; replace q310 := eq_true q310
        have p311 : 0 ≤ (x6_1 : Int) := of_decide_eq_true (by first | (with_reducible assumption) | assumption)
        have q311 : x6_1 < ((rd_L7 t307 x6_1).length : Int) := of_decide_eq_true (by first | (with_reducible assumption) | assumption)
        obtain ⟨ad311, e311, hx311_0⟩ := Kd.at_bool (by repeat (first | (with_reducible exact HR310_0.out) | (with_reducible refine Kd.C_alloc ?_ _) | (with_reducible refine Kd.C_drewN ?_ _) | (with_reducible refine Kd.C_drew ?_) | exact HR310_0.out)) x6_1 p311 q311
        (try rw [← Nbq9.out] at hx311_0)
        cases e311; replace p311 := eq_true p311; replace q311 := eq_true q311; go_wp2
        go_roundg k1
        case measure => have := HK1.out; omega
        case rel => exact ⟨(wrap64 (x6_1 + 1)), (by first | rfl | (simp; done) | (simp [*]; done)), H', ⟨by have := HK1.out; omega⟩, ⟨by (with_reducible repeat (first | apply Kd.S_alloc | apply Kd.S_drewN | apply Kd.S_drew)); exact HO_5.out⟩, ⟨by repeat (first | (with_reducible first | exact HB.out | apply bA_ | apply bN_ | apply bD_) | exact HB.out)⟩⟩
      ·rw [if_neg c8] at H
       exact absurd H (by simp)
     ·rw [if_neg c7] at H
      exact absurd H (by simp)
    ·rw [if_neg c6] at H
     exact absurd H (by simp)
   ·rw [if_neg c5] at H
    have c5b0 : decide (x6_1 < a0) = false := decide_eq_false c5
    clear c5; obtain rfl := Option.some.inj H; go_wp2; go_ret
    exact ⟨by first | rfl | (simp [errW_none, errW_some] <;> rfl) | (simp [*, errW_none, errW_some] <;> rfl), by repeat (first | (with_reducible first | exact HB.out | apply bA_ | apply bN_ | apply bD_) | exact HB.out)⟩

end Go.Proofs.Ytbbkclcfmcjlgaa.P



namespace Go.Proofs.Ytbbkclcfmcjlgaa.P
open Go.RowKit Go.Proofs.YtbbkclcfmcjlgaaW.PrintWords Go.Proofs.YtbbkclcfmcjlgaaW.PrintLast Go.Proofs.YtbbkclcfmcjlgaaW.PrintMore
attribute [local go_sem] max2_int min2_int max_two min_two max_three min_three max_four min_four
set_option linter.unusedVariables false
set_option linter.unusedSimpArgs false

def swarfref29_fault.f (k : Nat) (a0 : Int) (l1 : List (S47)) : Option (Int) := (swarfref29_Valid.f k a0 l1).bind fun t325 => (if t325 = 0 then ((swarfref29_Cyclic.f k a0 l1).bind fun t326 => (if t326 = true then (some 12) else (some 0))) else (some t325))
set_option maxHeartbeats 8000000 in
set_option maxRecDepth 100000 in
theorem swarfref29_fault.calls (k : Nat) (a0 : Int) (A1 : Option Addr) (c1 : Nat) (l1 : List (S47)) (r : Int) (w : World) (hr1 : Kd.C k47 w A1 l1.length l1) (hc1 : l1.length ≤ c1) (h : swarfref29_fault.f k a0 l1 = some r) :
  Calls Try.prog 47 #[.int .i64 a0, .slice A1 l1.length c1] w fun e w' => e = .returned (.int .i64 r) ∧ Below w.heap.size w w' := by
 have HR1 := aK hr1
 have HC1 := aK hc1
 clear hr1 hc1
 have HB := aK (Below.refl w.heap.size w)
 have H : ((swarfref29_Valid.f k a0 l1).bind fun t325 => (if t325 = 0 then ((swarfref29_Cyclic.f k a0 l1).bind fun t326 => (if t326 = true then (some 12) else (some 0))) else (some t325))) = some r := h
 clear h
 replace H := oB_ H
 obtain ⟨t325, A30, H⟩ := H
 replace H : (if t325 = 0 then ((swarfref29_Cyclic.f k a0 l1).bind fun t326 => (if t326 = true then (some 12) else (some 0))) else (some t325)) = some r := H
 have A3 := aK A30
 clear A30
 by_cases c4 : t325 = 0
 ·rw [if_pos c4] at H
  have c4b0 : (t325 == 0) = true := beq_iff_eq.mpr c4
  have c4b1 : (t325 != 0) = false := bne_eq_false_iff_eq.mpr c4
  clear c4; replace H := oB_ H
  obtain ⟨t326, A50, H⟩ := H
  replace H : (if t326 = true then (some 12) else (some 0)) = some r := H
  have A5 := aK A50; clear A50
  by_cases c6 : t326 = true
  ·subst c6
   have H1 : (some 12) = some r := by rw [if_pos rfl] at H; exact H
   clear H; have H := H1; clear H1; obtain rfl := Option.some.inj H
   go_enter Try.func47, Try.ntmps47
   go_wp2_with (first | ((with_reducible refine gate_callee (f := 21) rfl ?_); refine goesL_ (some 8) rfl rfl Try.func21 (by kernel_rfl) rfl #[.int .i64 a0, .slice A1 l1.length c1] rfl (by (try simp only [List.map_toArray, List.map_cons, List.map_nil]); first | done | rfl | (simp only [List.length_drop, List.length_take]; rfl)) ?_; (with_reducible refine (swarfref29_Valid.calls k a0 _ _ l1 t325 _ ?side1 ?side2 A3.out).mono ?_); (case side1 => repeat (first | exact HR1.out | (with_reducible refine Kd.C_alloc ?_ _) | (with_reducible refine Kd.C_drewN ?_ _) | (with_reducible refine Kd.C_drew ?_))); (case side2 => exact HC1.out); rintro e w' ⟨rfl, ⟨nd, rfl⟩⟩; refine ⟨_, rfl, ?_⟩) | ((with_reducible refine gate_callee (f := 23) rfl ?_); refine goesL_ (some 14) rfl rfl Try.func23 (by kernel_rfl) rfl #[.int .i64 a0, .slice A1 l1.length c1] rfl (by (try simp only [List.map_toArray, List.map_cons, List.map_nil]); first | done | rfl | (simp only [List.length_drop, List.length_take]; rfl)) ?_; (with_reducible refine (swarfref29_Cyclic.calls k a0 _ _ l1 true _ ?side1 ?side2 A5.out).mono ?_); (case side1 => repeat (first | exact HR1.out | (with_reducible refine Kd.C_alloc ?_ _) | (with_reducible refine Kd.C_drewN ?_ _) | (with_reducible refine Kd.C_drew ?_))); (case side2 => exact HC1.out); rintro e w7 ⟨rfl, hb⟩; refine ⟨_, rfl, ?_⟩; have n0_ := aK (bT_ (by repeat (first | (with_reducible first | exact HB.out | apply bA_ | apply bN_ | apply bD_) | exact HB.out)) hb); clear HB; have HB := n0_; clear n0_; (try clear hb); (try clear hb2); (try clear hk); (try clear hi)))
   go_ret
   exact ⟨by first | rfl | (simp [errW_none, errW_some] <;> rfl) | (simp [*, errW_none, errW_some] <;> rfl), by repeat (first | (with_reducible first | exact HB.out | apply bA_ | apply bN_ | apply bD_) | exact HB.out)⟩
  ·replace c6 := Bool.eq_false_iff.mpr c6
   subst c6
   have H1 : (some 0) = some r := by rw [if_neg (show ¬ (false = true) by decide)] at H; exact H
   clear H; have H := H1; clear H1; obtain rfl := Option.some.inj H
   go_enter Try.func47, Try.ntmps47
   go_wp2_with (first | ((with_reducible refine gate_callee (f := 21) rfl ?_); refine goesL_ (some 8) rfl rfl Try.func21 (by kernel_rfl) rfl #[.int .i64 a0, .slice A1 l1.length c1] rfl (by (try simp only [List.map_toArray, List.map_cons, List.map_nil]); first | done | rfl | (simp only [List.length_drop, List.length_take]; rfl)) ?_; (with_reducible refine (swarfref29_Valid.calls k a0 _ _ l1 t325 _ ?side1 ?side2 A3.out).mono ?_); (case side1 => repeat (first | exact HR1.out | (with_reducible refine Kd.C_alloc ?_ _) | (with_reducible refine Kd.C_drewN ?_ _) | (with_reducible refine Kd.C_drew ?_))); (case side2 => exact HC1.out); rintro e w' ⟨rfl, ⟨nd, rfl⟩⟩; refine ⟨_, rfl, ?_⟩) | ((with_reducible refine gate_callee (f := 23) rfl ?_); refine goesL_ (some 14) rfl rfl Try.func23 (by kernel_rfl) rfl #[.int .i64 a0, .slice A1 l1.length c1] rfl (by (try simp only [List.map_toArray, List.map_cons, List.map_nil]); first | done | rfl | (simp only [List.length_drop, List.length_take]; rfl)) ?_; (with_reducible refine (swarfref29_Cyclic.calls k a0 _ _ l1 false _ ?side1 ?side2 A5.out).mono ?_); (case side1 => repeat (first | exact HR1.out | (with_reducible refine Kd.C_alloc ?_ _) | (with_reducible refine Kd.C_drewN ?_ _) | (with_reducible refine Kd.C_drew ?_))); (case side2 => exact HC1.out); rintro e w8 ⟨rfl, hb⟩; refine ⟨_, rfl, ?_⟩; have n0_ := aK (bT_ (by repeat (first | (with_reducible first | exact HB.out | apply bA_ | apply bN_ | apply bD_) | exact HB.out)) hb); clear HB; have HB := n0_; clear n0_; (try clear hb); (try clear hb2); (try clear hk); (try clear hi)))
   go_ret
   exact ⟨by first | rfl | (simp [errW_none, errW_some] <;> rfl) | (simp [*, errW_none, errW_some] <;> rfl), by repeat (first | (with_reducible first | exact HB.out | apply bA_ | apply bN_ | apply bD_) | exact HB.out)⟩
 ·rw [if_neg c4] at H
  have c4b0 : (t325 == 0) = false := beq_eq_false_iff_ne.mpr c4
  have c4b1 : (t325 != 0) = true := bne_iff_ne.mpr c4
  obtain rfl := Option.some.inj H
  go_enter Try.func47, Try.ntmps47
  go_wp2_with (first | ((with_reducible refine gate_callee (f := 21) rfl ?_); refine goesL_ (some 8) rfl rfl Try.func21 (by kernel_rfl) rfl #[.int .i64 a0, .slice A1 l1.length c1] rfl (by (try simp only [List.map_toArray, List.map_cons, List.map_nil]); first | done | rfl | (simp only [List.length_drop, List.length_take]; rfl)) ?_; (with_reducible refine (swarfref29_Valid.calls k a0 _ _ l1 t325 _ ?side1 ?side2 A3.out).mono ?_); (case side1 => repeat (first | exact HR1.out | (with_reducible refine Kd.C_alloc ?_ _) | (with_reducible refine Kd.C_drewN ?_ _) | (with_reducible refine Kd.C_drew ?_))); (case side2 => exact HC1.out); rintro e w' ⟨rfl, ⟨nd, rfl⟩⟩; refine ⟨_, rfl, ?_⟩))
  go_ret
  exact ⟨by first | rfl | (simp [errW_none, errW_some] <;> rfl) | (simp [*, errW_none, errW_some] <;> rfl), by repeat (first | (with_reducible first | exact HB.out | apply bA_ | apply bN_ | apply bD_) | exact HB.out)⟩

end Go.Proofs.Ytbbkclcfmcjlgaa.P



namespace Go.Proofs.Ytbbkclcfmcjlgaa.P
open Go.RowKit Go.Proofs.YtbbkclcfmcjlgaaW.PrintWords Go.Proofs.YtbbkclcfmcjlgaaW.PrintLast Go.Proofs.YtbbkclcfmcjlgaaW.PrintMore
attribute [local go_sem] max2_int min2_int max_two min_two max_three min_three max_four min_four
set_option linter.unusedVariables false
set_option linter.unusedSimpArgs false

mutual
def swarfref29_Closure.l0 : Nat → Int → List (List Bool) → List (S47) → Int → Option ((List (S47)) × Int)
 | 0, _, _, _, _ => none
 | k + 1, x0, x7, x8, x9 => if x9 < x0 then (swarfref29_Closure.l1 k x0 x7 x8 x9 0) else (some (x8, 0))
def swarfref29_Closure.l1 : Nat → Int → List (List Bool) → List (S47) → Int → Int → Option ((List (S47)) × Int)
 | 0, _, _, _, _, _ => none
 | k + 1, x0, x7, x8, x9, x10 => if x10 < x0 then (if 0 ≤ x9 then (if x9 < (x7.length : Int) then (if 0 ≤ x10 then (if x10 < ((rd_L7 x7 x9).length : Int) then (if rdOf false (rd_L7 x7 x9) x10 = true then (if x8.length < 8796093022208 then (swarfref29_Closure.l1 k x0 x7 (x8 ++ [(⟨x9, x10⟩ : S47)]) x9 (wrap64 (x10 + 1))) else (none)) else (swarfref29_Closure.l1 k x0 x7 x8 x9 (wrap64 (x10 + 1)))) else (none)) else (none)) else (none)) else (none)) else (swarfref29_Closure.l0 k x0 x7 x8 (wrap64 (x9 + 1)))
end
def swarfref29_Closure.f (k : Nat) (a0 : Int) (l1 : List (S47)) : Option ((List (S47)) × Int) := (swarfref29_fault.f k a0 l1).bind fun t403 => (if t403 = 0 then ((swarfref29_Depends.f k a0 l1).bind fun t404 => (swarfref29_Closure.l0 k a0 t404 ([] : List (S47)) 0)) else (some (([] : List (S47)), t403)))
set_option maxHeartbeats 8000000 in
set_option maxRecDepth 100000 in
theorem swarfref29_Closure.calls (k : Nat) (a0 : Int) (A1 : Option Addr) (c1 : Nat) (l1 : List (S47)) (r1 : List (S47)) (r2 : Int) (w : World) (hr1 : Kd.C k47 w A1 l1.length l1) (hc1 : l1.length ≤ c1) (h : swarfref29_Closure.f k a0 l1 = some (r1, r2)) :
  Calls Try.prog 32 #[.int .i64 a0, .slice A1 l1.length c1] w fun e w' => ∃ v0_ : Value, e = .returned (.tuple #[v0_, .int .i64 r2]) ∧ Kd.R k47 47 w' w.heap.size (fun _ => True) v0_ r1 ∧ Below w.heap.size w w' := by
 have hu47 := Try.underlying47
 have HR1 := aK hr1
 have HC1 := aK hc1
 clear hr1 hc1
 have HB := aK (Below.refl w.heap.size w)
 have H : ((swarfref29_fault.f k a0 l1).bind fun t403 => (if t403 = 0 then ((swarfref29_Depends.f k a0 l1).bind fun t404 => (swarfref29_Closure.l0 k a0 t404 ([] : List (S47)) 0)) else (some (([] : List (S47)), t403)))) = some (r1, r2) := h
 clear h
 replace H := oB_ H
 obtain ⟨t403, A30, H⟩ := H
 replace H : (if t403 = 0 then ((swarfref29_Depends.f k a0 l1).bind fun t404 => (swarfref29_Closure.l0 k a0 t404 ([] : List (S47)) 0)) else (some (([] : List (S47)), t403))) = some (r1, r2) := H
 have A3 := aK A30
 clear A30
 by_cases c4 : t403 = 0
 ·rw [if_pos c4] at H
  have c4b0 : (t403 == 0) = true := beq_iff_eq.mpr c4
  have c4b1 : (t403 != 0) = false := bne_eq_false_iff_eq.mpr c4
  clear c4; replace H := oB_ H
  obtain ⟨t404, A50, H⟩ := H
  replace H : (swarfref29_Closure.l0 k a0 t404 ([] : List (S47)) 0) = some (r1, r2) := H
  have A5 := aK A50; clear A50; have H' := aK H; clear H
  go_enter Try.func32, Try.ntmps32
  go_wp2_with (first | ((with_reducible refine gate_callee (f := 47) rfl ?_); refine goesL_ (some 13) rfl rfl Try.func47 (by kernel_rfl) rfl #[.int .i64 a0, .slice A1 l1.length c1] rfl (by (try simp only [List.map_toArray, List.map_cons, List.map_nil]); first | done | rfl | (simp only [List.length_drop, List.length_take]; rfl)) ?_; (with_reducible refine (swarfref29_fault.calls k a0 _ _ l1 t403 _ ?side1 ?side2 A3.out).mono ?_); (case side1 => repeat (first | exact HR1.out | (with_reducible refine Kd.C_alloc ?_ _) | (with_reducible refine Kd.C_drewN ?_ _) | (with_reducible refine Kd.C_drew ?_))); (case side2 => exact HC1.out); rintro e w6 ⟨rfl, hb⟩; refine ⟨_, rfl, ?_⟩; have n0_ := aK (bT_ (by repeat (first | (with_reducible first | exact HB.out | apply bA_ | apply bN_ | apply bD_) | exact HB.out)) hb); clear HB; have HB := n0_; clear n0_; (try clear hb); (try clear hb2); (try clear hk); (try clear hi)) | ((with_reducible refine gate_callee (f := 44) rfl ?_); refine goesL_ (some 19) rfl rfl Try.func44 (by kernel_rfl) rfl #[.int .i64 a0, .slice A1 l1.length c1] rfl (by (try simp only [List.map_toArray, List.map_cons, List.map_nil]); first | done | rfl | (simp only [List.length_drop, List.length_take]; rfl)) ?_; (with_reducible refine (swarfref29_Depends.calls k a0 _ _ l1 t404 _ ?side1 ?side2 A5.out).mono ?_); (case side1 => repeat (first | exact (Kd.C_below HR1.out HB.out) | (with_reducible refine Kd.C_alloc ?_ _) | (with_reducible refine Kd.C_drewN ?_ _) | (with_reducible refine Kd.C_drew ?_))); (case side2 => exact HC1.out); rintro e w7 ⟨v405, rfl, ho0, hb⟩; refine ⟨_, rfl, ?_⟩; have n0_ := aK (Kd.S_lower ho0 (bZ_ (by repeat (first | (with_reducible first | exact HB.out | apply bA_ | apply bN_ | apply bD_) | exact HB.out)))); have n1_ := aK (bT_ (by repeat (first | (with_reducible first | exact HB.out | apply bA_ | apply bN_ | apply bD_) | exact HB.out)) hb); clear HB; have HO406 := n0_; have HB := n1_; clear n0_ n1_; (try clear hb); (try clear hb2); (try clear hk); (try clear hi); (try clear ho0)))
  go_loopg [8, 9] k (fun kq v8 v9 w' => ∃ (x8_1 : List (S47)) (x9_1 : Int), v9 = .int .i64 x9_1 ∧ Aside0 (swarfref29_Closure.l0 kq a0 t404 x8_1 x9_1 = some (r1, r2)) ∧ Aside0 (kq ≤ k) ∧ Aside0 (Kd.S (Kd.slice 4 Kd.bool) 52 w' w.heap.size (fun _ => True) v405 t404) ∧ Aside0 (Kd.R k47 47 w' w.heap.size (fun _ => True) v8 x8_1) ∧ Aside0 (Below w.heap.size w w'))
  case atStart => exact ⟨(([] : List (S47))), (0), (by first | rfl | (simp; done) | (simp [*]; done)), H', ⟨Nat.le_refl _⟩, ⟨by (with_reducible repeat (first | apply Kd.S_alloc | apply Kd.S_drewN | apply Kd.S_drew)); exact HO406.out⟩, ⟨by first | exact Kd.R_nil _ _ _ _ _ | exact Kd.N_nil _ _ _ _ _ | exact Kd.V_nil _ _ _ _ _ | exact Kd.Q_nil _ _ _ _ _ | exact Kd.S_nil _ _ _ _ _⟩, ⟨by repeat (first | (with_reducible first | exact HB.out | apply bA_ | apply bN_ | apply bD_) | exact HB.out)⟩⟩
  case round =>
   clear H'; try clear c1; try clear p2; try clear c3; try clear c4; try clear c4b0; try clear c4b1
   obtain ⟨x8_1, x9_1, rfl, HA, HK1, HO_7, HO_8, HB⟩ := hrel
   cases gk with
   | zero => exact absurd HA.out (by simp [swarfref29_Closure.l0])
   | succ k1 =>
    have H := HA.out
    clear HA
    simp only [swarfref29_Closure.l0] at H
    by_cases c8 : x9_1 < a0
    ·rw [if_pos c8] at H
     have c8b0 : decide (x9_1 < a0) = true := decide_eq_true c8
     clear c8; have H' := aK H; clear H; go_wp2
     go_loopg [8, 10] k1 (fun kq v8 v10 w' => ∃ (x8_2 : List (S47)) (x10_2 : Int), v10 = .int .i64 x10_2 ∧ Aside0 (swarfref29_Closure.l1 kq a0 t404 x8_2 x9_1 x10_2 = some (r1, r2)) ∧ Aside0 (kq ≤ k1) ∧ Aside0 (Kd.S (Kd.slice 4 Kd.bool) 52 w' w.heap.size (fun _ => True) v405 t404) ∧ Aside0 (Kd.R k47 47 w' w.heap.size (fun _ => True) v8 x8_2) ∧ Aside0 (Below w.heap.size w w'))
     case atStart => exact ⟨(x8_1), (0), (by first | rfl | (simp; done) | (simp [*]; done)), H', ⟨Nat.le_refl _⟩, ⟨by (with_reducible repeat (first | apply Kd.S_alloc | apply Kd.S_drewN | apply Kd.S_drew)); exact HO_7.out⟩, ⟨by (with_reducible repeat (first | apply Kd.R_alloc | apply Kd.R_drewN | apply Kd.R_drew)); exact HO_8.out⟩, ⟨by repeat (first | (with_reducible first | exact HB.out | apply bA_ | apply bN_ | apply bD_) | exact HB.out)⟩⟩
     case round =>
      clear H'; try clear c1; try clear p2; try clear c3; try clear c4; try clear c4b0; try clear c4b1; try clear c8; try clear c8b0; try clear p2
      obtain ⟨x8_2, x10_2, rfl, HA, HK2, HO_7, HO_8, HB⟩ := hrel
      cases gk with
      | zero => exact absurd HA.out (by simp [swarfref29_Closure.l1])
      | succ k2 =>
       have H := HA.out
       clear HA
       simp only [swarfref29_Closure.l1] at H
       by_cases c9 : x10_2 < a0
       ·rw [if_pos c9] at H
        have c9b0 : decide (x10_2 < a0) = true := decide_eq_true c9
        clear c9
        by_cases c10 : 0 ≤ x9_1
        ·rw [if_pos c10] at H
         have c10b0 : decide (0 ≤ x9_1) = true := decide_eq_true c10
         clear c10
         by_cases c11 : x9_1 < (t404.length : Int)
         ·rw [if_pos c11] at H
          have c11b0 : decide (x9_1 < (t404.length : Int)) = true := decide_eq_true c11
          clear c11
          by_cases c12 : 0 ≤ x10_2
          ·rw [if_pos c12] at H
           have c12b0 : decide (0 ≤ x10_2) = true := decide_eq_true c12
           clear c12
           by_cases c13 : x10_2 < ((rd_L7 t404 x9_1).length : Int)
           ·rw [if_pos c13] at H
            have c13b0 : decide (x10_2 < ((rd_L7 t404 x9_1).length : Int)) = true := decide_eq_true c13
            clear c13
            obtain ⟨bq14, hbq14⟩ : ∃ b_ : Bool, b_ = (rdOf false (rd_L7 t404 x9_1) x10_2) := ⟨_, rfl⟩
            replace H : (if bq14 = true then (if x8_2.length < 8796093022208 then (swarfref29_Closure.l1 k2 a0 t404 (x8_2 ++ [(⟨x9_1, x10_2⟩ : S47)]) x9_1 (wrap64 (x10_2 + 1))) else (none)) else (swarfref29_Closure.l1 k2 a0 t404 x8_2 x9_1 (wrap64 (x10_2 + 1)))) = some (r1, r2) := by rw [← hbq14] at H; exact H
            have Nbq14 := aK hbq14; clear hbq14
            by_cases c15 : bq14 = true
            ·subst c15
             have H1 : (if x8_2.length < 8796093022208 then (swarfref29_Closure.l1 k2 a0 t404 (x8_2 ++ [(⟨x9_1, x10_2⟩ : S47)]) x9_1 (wrap64 (x10_2 + 1))) else (none)) = some (r1, r2) := by rw [if_pos rfl] at H; exact H
             clear H; have H := H1; clear H1
             by_cases c16 : x8_2.length < 8796093022208
             ·rw [if_pos c16] at H; have LMc16 := aK c16; clear c16
              obtain ⟨y409, hy409⟩ : ∃ y_ : List (S47), y_ = (x8_2 ++ [(⟨x9_1, x10_2⟩ : S47)]) := ⟨_, rfl⟩
              replace H : (swarfref29_Closure.l1 k2 a0 t404 y409 x9_1 (wrap64 (x10_2 + 1))) = some (r1, r2) := by first | (rw [hy409]; with_reducible exact H) | (have H2_ := (Option.bind_some _ _).symm.trans H; rw [hy409]; with_reducible exact H2_) | (have H2_ := (Option.bind_some _ _).symm.trans H; with_reducible exact H2_) | with_reducible exact H | (rw [hy409]; exact H) | exact H
              have Ny409 := aK hy409; clear hy409; have H' := aK H; clear H
              obtain ⟨Ao17, co17, eo17⟩ := Kd.S_slice HO_7.out
              subst eo17
              have p407 : 0 ≤ (x9_1 : Int) := of_decide_eq_true (by first | (with_reducible assumption) | assumption)
              have q407 : x9_1 < (t404.length : Int) := of_decide_eq_true (by first | (with_reducible assumption) | assumption)
              obtain ⟨ad407, A407_0, c407_0, e407, hx407_0, hl407_0, hi407_0⟩ := at_L7 (Kd.S_reads' HO_7.out).2.2 x9_1 p407 q407
              cases e407
              obtain ⟨ce407, hce407, hMe407, hcc407⟩ := Kd.S_get HO_7.out [] x9_1 p407 (by first | exact q407 | exact of_decide_eq_true (by first | (with_reducible assumption) | assumption) | (have e_ := (Kd.S_reads' HO_7.out).1; omega))
              obtain ⟨ve407_0, rfl, ge407_0⟩ := hMe407
              have hv407_0 := hcc407 0 _ rfl
              rw [Nat.add_zero, show ((Kd.slice 4 Kd.bool)).sz = 1 from rfl, Nat.mul_one] at hv407_0
              replace hv407_0 := Option.some.inj (hv407_0.symm.trans hx407_0)
              rw [hv407_0] at ge407_0
              have HL407_0 := aK (show Kd.R Kd.bool 4 _ _ _ _ (rd_L7 t404 x9_1) from ge407_0)
              clear hv407_0 ge407_0; clear hcc407 hce407; have HR407_0 := aK hi407_0; have HC407_0 := aK hl407_0; clear hi407_0 hl407_0; replace p407 := eq_true p407; replace q407 := eq_true q407
              have p408 : 0 ≤ (x10_2 : Int) := of_decide_eq_true (by first | (with_reducible assumption) | assumption)
              have q408 : x10_2 < ((rd_L7 t404 x9_1).length : Int) := of_decide_eq_true (by first | (with_reducible assumption) | assumption)
              obtain ⟨ad408, e408, hx408_0⟩ := Kd.at_bool (by repeat (first | (with_reducible exact HR407_0.out) | (with_reducible refine Kd.C_alloc ?_ _) | (with_reducible refine Kd.C_drewN ?_ _) | (with_reducible refine Kd.C_drew ?_) | exact HR407_0.out)) x10_2 p408 q408
              (try rw [← Nbq14.out] at hx408_0)
              cases e408; replace p408 := eq_true p408; replace q408 := eq_true q408
              go_wp2_with (first | ((with_reducible refine gate_builtin (b := .append) (xs := #[.tmp 37, .tmp 41]) rfl ?_); at_builtin; refine Kd.R_append k47 (w0 := w) w.heap.size rfl (.tmp 37) (.tmp 41) 22 47 (.agg #[(.int .i64 0), (.int .i64 0)]) 16 rfl Try.underlying22 info47 rfl (by decide) (by omega) u8 x8_2 (⟨x9_1, x10_2⟩ : S47) [.int .i64 x9_1, .int .i64 x10_2] (fun _ => True) (fun _ => False) rfl rfl ?aP (fun _ hk => hk.elim) ?aF ?aO ?aB ?aS ?aL ?_; (case aP => exact k47_mkM _ _ _ (⟨x9_1, x10_2⟩ : S47)); (case aB => exact (by repeat (first | (with_reducible first | exact HB.out | apply bA_ | apply bN_ | apply bD_) | exact HB.out))); (case aF => exact (fun _ _ => trivial)); (case aO => exact (by (with_reducible repeat (first | apply Kd.R_alloc | apply Kd.R_drewN | apply Kd.R_drew)); exact HO_8.out)); (case aS => exact (bZ_ (by repeat (first | (with_reducible first | exact HB.out | apply bA_ | apply bN_ | apply bD_) | exact HB.out)))); (case aL => have := LMc16.out; omega); intro v410 w18 ho hb hg hat; rw [← Ny409.out] at ho; have n0_ := aK (Kd.S_over' (by (with_reducible repeat (first | apply Kd.S_alloc | apply Kd.S_drewN | apply Kd.S_drew)); exact HO_7.out) (Kd.R_typed (by (with_reducible repeat (first | apply Kd.R_alloc | apply Kd.R_drewN | apply Kd.R_drew)); exact HO_8.out)) (by decide) hg); have n1_ := aK (Kd.R_over' (by (with_reducible repeat (first | apply Kd.R_alloc | apply Kd.R_drewN | apply Kd.R_drew)); exact HL407_0.out) (Kd.R_typed (by (with_reducible repeat (first | apply Kd.R_alloc | apply Kd.R_drewN | apply Kd.R_drew)); exact HO_8.out)) (by decide) hg); have n2_ := aK (hb); have n3_ := aK (ho); clear HO_7; clear HL407_0; clear HB; clear HO_8; have HO_7 := n0_; have HL407_0 := n1_; have HB := n2_; have HO411 := n3_; clear n0_ n1_ n2_ n3_; clear ho hb hg hat))
              go_roundg k2
              case measure => have := HK1.out; have := HK2.out; omega
              case rel => exact ⟨(y409), (wrap64 (x10_2 + 1)), (by first | rfl | (simp; done) | (simp [*]; done)), H', ⟨by have := HK1.out; have := HK2.out; omega⟩, ⟨by (with_reducible repeat (first | apply Kd.S_alloc | apply Kd.S_drewN | apply Kd.S_drew)); exact HO_7.out⟩, ⟨by (with_reducible repeat (first | apply Kd.R_alloc | apply Kd.R_drewN | apply Kd.R_drew)); exact HO411.out⟩, ⟨by repeat (first | (with_reducible first | exact HB.out | apply bA_ | apply bN_ | apply bD_) | exact HB.out)⟩⟩
             ·rw [if_neg c16] at H
              exact absurd H (by simp)
            ·replace c15 := Bool.eq_false_iff.mpr c15
             subst c15
             have H1 : (swarfref29_Closure.l1 k2 a0 t404 x8_2 x9_1 (wrap64 (x10_2 + 1))) = some (r1, r2) := by rw [if_neg (show ¬ (false = true) by decide)] at H; exact H
             clear H; have H := H1; clear H1; have H' := aK H; clear H
             obtain ⟨Ao19, co19, eo19⟩ := Kd.S_slice HO_7.out
             subst eo19
             have p407 : 0 ≤ (x9_1 : Int) := of_decide_eq_true (by first | (with_reducible assumption) | assumption)
             have q407 : x9_1 < (t404.length : Int) := of_decide_eq_true (by first | (with_reducible assumption) | assumption)
             obtain ⟨ad407, A407_0, c407_0, e407, hx407_0, hl407_0, hi407_0⟩ := at_L7 (Kd.S_reads' HO_7.out).2.2 x9_1 p407 q407
             cases e407
             obtain ⟨ce407, hce407, hMe407, hcc407⟩ := Kd.S_get HO_7.out [] x9_1 p407 (by first | exact q407 | exact of_decide_eq_true (by first | (with_reducible assumption) | assumption) | (have e_ := (Kd.S_reads' HO_7.out).1; omega))
             obtain ⟨ve407_0, rfl, ge407_0⟩ := hMe407
             have hv407_0 := hcc407 0 _ rfl
             rw [Nat.add_zero, show ((Kd.slice 4 Kd.bool)).sz = 1 from rfl, Nat.mul_one] at hv407_0
             replace hv407_0 := Option.some.inj (hv407_0.symm.trans hx407_0)
             rw [hv407_0] at ge407_0
             have HL407_0 := aK (show Kd.R Kd.bool 4 _ _ _ _ (rd_L7 t404 x9_1) from ge407_0)
             clear hv407_0 ge407_0; clear hcc407 hce407; have HR407_0 := aK hi407_0; have HC407_0 := aK hl407_0; clear hi407_0 hl407_0; replace p407 := eq_true p407; replace q407 := eq_true q407
             have p408 : 0 ≤ (x10_2 : Int) := of_decide_eq_true (by first | (with_reducible assumption) | assumption)
             have q408 : x10_2 < ((rd_L7 t404 x9_1).length : Int) := of_decide_eq_true (by first | (with_reducible assumption) | assumption)
             obtain ⟨ad408, e408, hx408_0⟩ := Kd.at_bool (by repeat (first | (with_reducible exact HR407_0.out) | (with_reducible refine Kd.C_alloc ?_ _) | (with_reducible refine Kd.C_drewN ?_ _) | (with_reducible refine Kd.C_drew ?_) | exact HR407_0.out)) x10_2 p408 q408
             (try rw [← Nbq14.out] at hx408_0)
             cases e408; replace p408 := eq_true p408; replace q408 := eq_true q408; go_wp2
             go_roundg k2
             case measure => have := HK1.out; have := HK2.out; omega
             case rel => exact ⟨(x8_2), (wrap64 (x10_2 + 1)), (by first | rfl | (simp; done) | (simp [*]; done)), H', ⟨by have := HK1.out; have := HK2.out; omega⟩, ⟨by (with_reducible repeat (first | apply Kd.S_alloc | apply Kd.S_drewN | apply Kd.S_drew)); exact HO_7.out⟩, ⟨by (with_reducible repeat (first | apply Kd.R_alloc | apply Kd.R_drewN | apply Kd.R_drew)); exact HO_8.out⟩, ⟨by repeat (first | (with_reducible first | exact HB.out | apply bA_ | apply bN_ | apply bD_) | exact HB.out)⟩⟩
           ·rw [if_neg c13] at H
            exact absurd H (by simp)
          ·rw [if_neg c12] at H
           exact absurd H (by simp)
         ·rw [if_neg c11] at H
          exact absurd H (by simp)
        ·rw [if_neg c10] at H
         exact absurd H (by simp)
       ·rw [if_neg c9] at H
        have c9b0 : decide (x10_2 < a0) = false := decide_eq_false c9
        clear c9; have H' := aK H; clear H; go_wp2
        go_roundg k2
        case measure => have := HK1.out; have := HK2.out; omega
        case rel => exact ⟨(x8_2), (wrap64 (x9_1 + 1)), (by first | rfl | (simp; done) | (simp [*]; done)), H', ⟨by have := HK1.out; have := HK2.out; omega⟩, ⟨by (with_reducible repeat (first | apply Kd.S_alloc | apply Kd.S_drewN | apply Kd.S_drew)); exact HO_7.out⟩, ⟨by (with_reducible repeat (first | apply Kd.R_alloc | apply Kd.R_drewN | apply Kd.R_drew)); exact HO_8.out⟩, ⟨by repeat (first | (with_reducible first | exact HB.out | apply bA_ | apply bN_ | apply bD_) | exact HB.out)⟩⟩
    ·rw [if_neg c8] at H
     have c8b0 : decide (x9_1 < a0) = false := decide_eq_false c8
     clear c8
     simp only [Option.some.injEq, Prod.mk.injEq] at H
     obtain ⟨rfl, rfl⟩ := H
     go_wp2
     go_ret2
     exact ⟨_, by first | rfl | (simp [errW_none, errW_some] <;> rfl) | (simp [*, errW_none, errW_some] <;> rfl), by (with_reducible repeat (first | apply Kd.R_alloc | apply Kd.R_drewN | apply Kd.R_drew)); exact HO_8.out, by repeat (first | (with_reducible first | exact HB.out | apply bA_ | apply bN_ | apply bD_) | exact HB.out)⟩
 ·rw [if_neg c4] at H
  have c4b0 : (t403 == 0) = false := beq_eq_false_iff_ne.mpr c4
  have c4b1 : (t403 != 0) = true := bne_iff_ne.mpr c4
  simp only [Option.some.injEq, Prod.mk.injEq] at H
  obtain ⟨rfl, rfl⟩ := H
  go_enter Try.func32, Try.ntmps32
  go_wp2_with (first | ((with_reducible refine gate_callee (f := 47) rfl ?_); refine goesL_ (some 13) rfl rfl Try.func47 (by kernel_rfl) rfl #[.int .i64 a0, .slice A1 l1.length c1] rfl (by (try simp only [List.map_toArray, List.map_cons, List.map_nil]); first | done | rfl | (simp only [List.length_drop, List.length_take]; rfl)) ?_; (with_reducible refine (swarfref29_fault.calls k a0 _ _ l1 t403 _ ?side1 ?side2 A3.out).mono ?_); (case side1 => repeat (first | exact HR1.out | (with_reducible refine Kd.C_alloc ?_ _) | (with_reducible refine Kd.C_drewN ?_ _) | (with_reducible refine Kd.C_drew ?_))); (case side2 => exact HC1.out); rintro e w20 ⟨rfl, hb⟩; refine ⟨_, rfl, ?_⟩; have n0_ := aK (bT_ (by repeat (first | (with_reducible first | exact HB.out | apply bA_ | apply bN_ | apply bD_) | exact HB.out)) hb); clear HB; have HB := n0_; clear n0_; (try clear hb); (try clear hb2); (try clear hk); (try clear hi)))
  go_ret2
  exact ⟨_, by first | rfl | (simp [errW_none, errW_some] <;> rfl) | (simp [*, errW_none, errW_some] <;> rfl), by first | exact Kd.R_nil _ _ _ _ _ | exact Kd.N_nil _ _ _ _ _ | exact Kd.V_nil _ _ _ _ _ | exact Kd.Q_nil _ _ _ _ _ | exact Kd.S_nil _ _ _ _ _, by repeat (first | (with_reducible first | exact HB.out | apply bA_ | apply bN_ | apply bD_) | exact HB.out)⟩

end Go.Proofs.Ytbbkclcfmcjlgaa.P



namespace Go.Proofs.Ytbbkclcfmcjlgaa.P
open Go.RowKit Go.Proofs.YtbbkclcfmcjlgaaW.PrintWords Go.Proofs.YtbbkclcfmcjlgaaW.PrintLast Go.Proofs.YtbbkclcfmcjlgaaW.PrintMore
attribute [local go_sem] max2_int min2_int max_two min_two max_three min_three max_four min_four
set_option linter.unusedVariables false
set_option linter.unusedSimpArgs false

mutual
def swarfref29_Reduce.l0 : Nat → Int → List (S47) → List (List Bool) → List (S47) → Int → Option ((List (S47)) × Int)
 | 0, _, _, _, _, _ => none
 | k + 1, x0, x6, x8, x9, x10 => if x10 < (x6.length : Int) then (swarfref29_Reduce.l1 k x0 x6 x8 x9 x10 false 0) else (some (x9, 0))
def swarfref29_Reduce.l1 : Nat → Int → List (S47) → List (List Bool) → List (S47) → Int → Bool → Int → Option ((List (S47)) × Int)
 | 0, _, _, _, _, _, _, _ => none
 | k + 1, x0, x6, x8, x9, x10, x11, x12 => if x12 < x0 then (if x11 = true then (swarfref29_Reduce.l1 k x0 x6 x8 x9 x10 true (wrap64 (x12 + 1))) else (if 0 ≤ x10 then (if x10 < (x6.length : Int) then (if 0 ≤ ((rd_T47 x6 x10).f0) then (if ((rd_T47 x6 x10).f0) < (x8.length : Int) then (if 0 ≤ x12 then (if x12 < ((rd_L7 x8 ((rd_T47 x6 x10).f0)).length : Int) then (if rdOf false (rd_L7 x8 ((rd_T47 x6 x10).f0)) x12 = true then (if x12 < (x8.length : Int) then (if 0 ≤ ((rd_T47 x6 x10).f1) then (if ((rd_T47 x6 x10).f1) < ((rd_L7 x8 x12).length : Int) then (swarfref29_Reduce.l1 k x0 x6 x8 x9 x10 (rdOf false (rd_L7 x8 x12) ((rd_T47 x6 x10).f1)) (wrap64 (x12 + 1))) else (none)) else (none)) else (none)) else (swarfref29_Reduce.l1 k x0 x6 x8 x9 x10 false (wrap64 (x12 + 1)))) else (none)) else (none)) else (none)) else (none)) else (none)) else (none))) else (if x11 = true then (swarfref29_Reduce.l0 k x0 x6 x8 x9 (wrap64 (x10 + 1))) else (if 0 ≤ x10 then (if x10 < (x6.length : Int) then (if x9.length < 8796093022208 then (swarfref29_Reduce.l0 k x0 x6 x8 (x9 ++ [(⟨(rd_T47 x6 x10).f0, (rd_T47 x6 x10).f1⟩ : S47)]) (wrap64 (x10 + 1))) else (none)) else (none)) else (none)))
end
def swarfref29_Reduce.f (k : Nat) (a0 : Int) (l1 : List (S47)) : Option ((List (S47)) × Int) := (swarfref29_Closure.f k a0 l1).bind fun bt412 => (if bt412.2 = 0 then ((swarfref29_Depends.f k a0 l1).bind fun t416 => (swarfref29_Reduce.l0 k a0 bt412.1 t416 ([] : List (S47)) 0)) else (some (([] : List (S47)), bt412.2)))
set_option maxHeartbeats 8000000 in
set_option maxRecDepth 100000 in
theorem swarfref29_Reduce.calls (k : Nat) (a0 : Int) (A1 : Option Addr) (c1 : Nat) (l1 : List (S47)) (r1 : List (S47)) (r2 : Int) (w : World) (hr1 : Kd.C k47 w A1 l1.length l1) (hc1 : l1.length ≤ c1) (h : swarfref29_Reduce.f k a0 l1 = some (r1, r2)) :
  Calls Try.prog 33 #[.int .i64 a0, .slice A1 l1.length c1] w fun e w' => ∃ v0_ : Value, e = .returned (.tuple #[v0_, .int .i64 r2]) ∧ Kd.R k47 47 w' w.heap.size (fun _ => True) v0_ r1 ∧ Below w.heap.size w w' := by
 have hu47 := Try.underlying47
 have HR1 := aK hr1
 have HC1 := aK hc1
 clear hr1 hc1
 have HB := aK (Below.refl w.heap.size w)
 have H : ((swarfref29_Closure.f k a0 l1).bind fun bt412 => (if bt412.2 = 0 then ((swarfref29_Depends.f k a0 l1).bind fun t416 => (swarfref29_Reduce.l0 k a0 bt412.1 t416 ([] : List (S47)) 0)) else (some (([] : List (S47)), bt412.2)))) = some (r1, r2) := h
 clear h
 replace H := oB_ H
 obtain ⟨⟨t412, t413⟩, A30, H⟩ := H
 replace H : (if t413 = 0 then ((swarfref29_Depends.f k a0 l1).bind fun t416 => (swarfref29_Reduce.l0 k a0 t412 t416 ([] : List (S47)) 0)) else (some (([] : List (S47)), t413))) = some (r1, r2) := H
 have A3 := aK A30
 clear A30
 by_cases c4 : t413 = 0
 ·rw [if_pos c4] at H
  have c4b0 : (t413 == 0) = true := beq_iff_eq.mpr c4
  have c4b1 : (t413 != 0) = false := bne_eq_false_iff_eq.mpr c4
  clear c4; replace H := oB_ H
  obtain ⟨t416, A50, H⟩ := H
  replace H : (swarfref29_Reduce.l0 k a0 t412 t416 ([] : List (S47)) 0) = some (r1, r2) := H
  have A5 := aK A50; clear A50; have H' := aK H; clear H
  go_enter Try.func33, Try.ntmps33
  go_wp2_with (first | (go_at_call 32; (with_reducible refine (swarfref29_Closure.calls k a0 _ _ l1 t412 t413 _ ?side1 ?side2 A3.out).mono ?_); (case side1 => repeat (first | exact HR1.out | (with_reducible refine Kd.C_alloc ?_ _) | (with_reducible refine Kd.C_drewN ?_ _) | (with_reducible refine Kd.C_drew ?_))); (case side2 => exact HC1.out); rintro e w6 ⟨v414, rfl, ho0, hb⟩; have n0_ := aK (Kd.R_lower ho0 (bZ_ (by repeat (first | (with_reducible first | exact HB.out | apply bA_ | apply bN_ | apply bD_) | exact HB.out)))); have n1_ := aK (bT_ (by repeat (first | (with_reducible first | exact HB.out | apply bA_ | apply bN_ | apply bD_) | exact HB.out)) hb); clear HB; have HO415 := n0_; have HB := n1_; clear n0_ n1_; (try clear hb); (try clear hb2); (try clear hk); (try clear hi); (try clear ho0)) | (go_at_call 44; (with_reducible refine (swarfref29_Depends.calls k a0 _ _ l1 t416 _ ?side1 ?side2 A5.out).mono ?_); (case side1 => repeat (first | exact (Kd.C_below HR1.out HB.out) | (with_reducible refine Kd.C_alloc ?_ _) | (with_reducible refine Kd.C_drewN ?_ _) | (with_reducible refine Kd.C_drew ?_))); (case side2 => exact HC1.out); rintro e w7 ⟨v417, rfl, ho0, hb⟩; have n0_ := aK (Kd.R_below (by (with_reducible repeat (first | apply Kd.R_alloc | apply Kd.R_drewN | apply Kd.R_drew)); exact HO415.out) hb); have n1_ := aK (Kd.S_lower ho0 (bZ_ (by repeat (first | (with_reducible first | exact HB.out | apply bA_ | apply bN_ | apply bD_) | exact HB.out)))); have n2_ := aK (bT_ (by repeat (first | (with_reducible first | exact HB.out | apply bA_ | apply bN_ | apply bD_) | exact HB.out)) hb); clear HO415; clear HB; have HO415 := n0_; have HO418 := n1_; have HB := n2_; clear n0_ n1_ n2_; (try clear hb); (try clear hb2); (try clear hk); (try clear hi); (try clear ho0)))
  repeat (go_quiet (first | (go_at_call 32; (with_reducible refine (swarfref29_Closure.calls k a0 _ _ l1 t412 t413 _ ?side1 ?side2 A3.out).mono ?_); (case side1 => repeat (first | exact HR1.out | (with_reducible refine Kd.C_alloc ?_ _) | (with_reducible refine Kd.C_drewN ?_ _) | (with_reducible refine Kd.C_drew ?_))); (case side2 => exact HC1.out); rintro e w6 ⟨v414, rfl, ho0, hb⟩; have n0_ := aK (Kd.R_lower ho0 (bZ_ (by repeat (first | (with_reducible first | exact HB.out | apply bA_ | apply bN_ | apply bD_) | exact HB.out)))); have n1_ := aK (bT_ (by repeat (first | (with_reducible first | exact HB.out | apply bA_ | apply bN_ | apply bD_) | exact HB.out)) hb); clear HB; have HO415 := n0_; have HB := n1_; clear n0_ n1_; (try clear hb); (try clear hb2); (try clear hk); (try clear hi); (try clear ho0)) | (go_at_call 44; (with_reducible refine (swarfref29_Depends.calls k a0 _ _ l1 t416 _ ?side1 ?side2 A5.out).mono ?_); (case side1 => repeat (first | exact (Kd.C_below HR1.out HB.out) | (with_reducible refine Kd.C_alloc ?_ _) | (with_reducible refine Kd.C_drewN ?_ _) | (with_reducible refine Kd.C_drew ?_))); (case side2 => exact HC1.out); rintro e w7 ⟨v417, rfl, ho0, hb⟩; have n0_ := aK (Kd.R_below (by (with_reducible repeat (first | apply Kd.R_alloc | apply Kd.R_drewN | apply Kd.R_drew)); exact HO415.out) hb); have n1_ := aK (Kd.S_lower ho0 (bZ_ (by repeat (first | (with_reducible first | exact HB.out | apply bA_ | apply bN_ | apply bD_) | exact HB.out)))); have n2_ := aK (bT_ (by repeat (first | (with_reducible first | exact HB.out | apply bA_ | apply bN_ | apply bD_) | exact HB.out)) hb); clear HO415; clear HB; have HO415 := n0_; have HO418 := n1_; have HB := n2_; clear n0_ n1_ n2_; (try clear hb); (try clear hb2); (try clear hk); (try clear hi); (try clear ho0))); try go_wp2_with (first | (go_at_call 32; (with_reducible refine (swarfref29_Closure.calls k a0 _ _ l1 t412 t413 _ ?side1 ?side2 A3.out).mono ?_); (case side1 => repeat (first | exact HR1.out | (with_reducible refine Kd.C_alloc ?_ _) | (with_reducible refine Kd.C_drewN ?_ _) | (with_reducible refine Kd.C_drew ?_))); (case side2 => exact HC1.out); rintro e w6 ⟨v414, rfl, ho0, hb⟩; have n0_ := aK (Kd.R_lower ho0 (bZ_ (by repeat (first | (with_reducible first | exact HB.out | apply bA_ | apply bN_ | apply bD_) | exact HB.out)))); have n1_ := aK (bT_ (by repeat (first | (with_reducible first | exact HB.out | apply bA_ | apply bN_ | apply bD_) | exact HB.out)) hb); clear HB; have HO415 := n0_; have HB := n1_; clear n0_ n1_; (try clear hb); (try clear hb2); (try clear hk); (try clear hi); (try clear ho0)) | (go_at_call 44; (with_reducible refine (swarfref29_Depends.calls k a0 _ _ l1 t416 _ ?side1 ?side2 A5.out).mono ?_); (case side1 => repeat (first | exact (Kd.C_below HR1.out HB.out) | (with_reducible refine Kd.C_alloc ?_ _) | (with_reducible refine Kd.C_drewN ?_ _) | (with_reducible refine Kd.C_drew ?_))); (case side2 => exact HC1.out); rintro e w7 ⟨v417, rfl, ho0, hb⟩; have n0_ := aK (Kd.R_below (by (with_reducible repeat (first | apply Kd.R_alloc | apply Kd.R_drewN | apply Kd.R_drew)); exact HO415.out) hb); have n1_ := aK (Kd.S_lower ho0 (bZ_ (by repeat (first | (with_reducible first | exact HB.out | apply bA_ | apply bN_ | apply bD_) | exact HB.out)))); have n2_ := aK (bT_ (by repeat (first | (with_reducible first | exact HB.out | apply bA_ | apply bN_ | apply bD_) | exact HB.out)) hb); clear HO415; clear HB; have HO415 := n0_; have HO418 := n1_; have HB := n2_; clear n0_ n1_ n2_; (try clear hb); (try clear hb2); (try clear hk); (try clear hi); (try clear ho0))))
  go_loopg [9, 10] k (fun kq v9 v10 w' => ∃ (x9_1 : List (S47)) (x10_1 : Int), v10 = .int .i64 x10_1 ∧ Aside0 (swarfref29_Reduce.l0 kq a0 t412 t416 x9_1 x10_1 = some (r1, r2)) ∧ Aside0 (kq ≤ k) ∧ Aside0 (Kd.R k47 47 w' w.heap.size (fun k_ => some k_ ≠ (v9 : Value).ownBlock) v414 t412) ∧ Aside0 (Kd.S (Kd.slice 4 Kd.bool) 52 w' w.heap.size (fun _ => True) v417 t416) ∧ Aside0 (Kd.R k47 47 w' w.heap.size (fun k_ => some k_ ≠ (v414 : Value).ownBlock) v9 x9_1) ∧ Aside0 (Below w.heap.size w w'))
  case atStart => exact ⟨(([] : List (S47))), (0), (by first | rfl | (simp; done) | (simp [*]; done)), H', ⟨Nat.le_refl _⟩, ⟨by (with_reducible repeat (first | apply Kd.R_alloc | apply Kd.R_drewN | apply Kd.R_drew)); exact Kd.R_mono HO415.out (fun _ hk => (by simp [Value.ownBlock]))⟩, ⟨by (with_reducible repeat (first | apply Kd.S_alloc | apply Kd.S_drewN | apply Kd.S_drew)); exact HO418.out⟩, ⟨by first | exact Kd.R_nil _ _ _ _ _ | exact Kd.N_nil _ _ _ _ _ | exact Kd.V_nil _ _ _ _ _ | exact Kd.Q_nil _ _ _ _ _ | exact Kd.S_nil _ _ _ _ _⟩, ⟨by repeat (first | (with_reducible first | exact HB.out | apply bA_ | apply bN_ | apply bD_) | exact HB.out)⟩⟩
  case round =>
   clear H'; try clear c1; try clear p2; try clear c3; try clear c4; try clear c4b0; try clear c4b1
   obtain ⟨x9_1, x10_1, rfl, HA, HK1, HO_6, HO_8, HO_9, HB⟩ := hrel
   cases gk with
   | zero => exact absurd HA.out (by simp [swarfref29_Reduce.l0])
   | succ k1 =>
    have H := HA.out
    clear HA
    simp only [swarfref29_Reduce.l0] at H
    by_cases c8 : x10_1 < (t412.length : Int)
    ·rw [if_pos c8] at H
     have c8b0 : decide (x10_1 < (t412.length : Int)) = true := decide_eq_true c8
     clear c8; have H' := aK H; clear H
     obtain ⟨Ao9, co9, eo9⟩ := Kd.R_slice HO_6.out
     subst eo9; go_wp2
     repeat (go_quiet (fail); try go_wp2)
     go_loopg [11, 12] k1 (fun kq v11 v12 w' => ∃ (x11_2 : Bool) (x12_2 : Int), v11 = .bool x11_2 ∧ v12 = .int .i64 x12_2 ∧ Aside0 (swarfref29_Reduce.l1 kq a0 t412 t416 x9_1 x10_1 x11_2 x12_2 = some (r1, r2)) ∧ Aside0 (kq ≤ k1) ∧ Aside0 (Kd.R k47 47 w' w.heap.size (fun k_ => some k_ ≠ (u9 : Value).ownBlock) (.slice Ao9 t412.length co9) t412) ∧ Aside0 (Kd.S (Kd.slice 4 Kd.bool) 52 w' w.heap.size (fun _ => True) v417 t416) ∧ Aside0 (Kd.R k47 47 w' w.heap.size (fun k_ => some k_ ≠ ((.slice Ao9 t412.length co9) : Value).ownBlock) u9 x9_1) ∧ Aside0 (Below w.heap.size w w'))
     case atStart => exact ⟨(false), (0), (by first | rfl | (simp; done) | (simp [*]; done)), (by first | rfl | (simp; done) | (simp [*]; done)), H', ⟨Nat.le_refl _⟩, ⟨by (with_reducible repeat (first | apply Kd.R_alloc | apply Kd.R_drewN | apply Kd.R_drew)); exact HO_6.out⟩, ⟨by (with_reducible repeat (first | apply Kd.S_alloc | apply Kd.S_drewN | apply Kd.S_drew)); exact HO_8.out⟩, ⟨by (with_reducible repeat (first | apply Kd.R_alloc | apply Kd.R_drewN | apply Kd.R_drew)); exact HO_9.out⟩, ⟨by repeat (first | (with_reducible first | exact HB.out | apply bA_ | apply bN_ | apply bD_) | exact HB.out)⟩⟩
     case round =>
      clear H'; try clear c1; try clear p2; try clear c3; try clear c4; try clear c4b0; try clear c4b1; try clear c8; try clear c8b0; try clear p2
      obtain ⟨x11_2, x12_2, rfl, rfl, HA, HK2, HO_6, HO_8, HO_9, HB⟩ := hrel
      cases gk with
      | zero => exact absurd HA.out (by simp [swarfref29_Reduce.l1])
      | succ k2 =>
       have H := HA.out
       clear HA
       simp only [swarfref29_Reduce.l1] at H
       by_cases c10 : x12_2 < a0
       ·rw [if_pos c10] at H
        have c10b0 : decide (x12_2 < a0) = true := decide_eq_true c10
        clear c10
        by_cases c11 : x11_2 = true
        ·subst c11
         have H1 : (swarfref29_Reduce.l1 k2 a0 t412 t416 x9_1 x10_1 true (wrap64 (x12_2 + 1))) = some (r1, r2) := by rw [if_pos rfl] at H; exact H
         clear H; have H := H1; clear H1; have H' := aK H; clear H; go_wp2
         repeat (go_quiet (fail); try go_wp2)
         go_roundg k2
         case measure => have := HK1.out; have := HK2.out; omega
         case rel => exact ⟨(true), (wrap64 (x12_2 + 1)), (by first | rfl | (simp; done) | (simp [*]; done)), (by first | rfl | (simp; done) | (simp [*]; done)), H', ⟨by have := HK1.out; have := HK2.out; omega⟩, ⟨by (with_reducible repeat (first | apply Kd.R_alloc | apply Kd.R_drewN | apply Kd.R_drew)); exact HO_6.out⟩, ⟨by (with_reducible repeat (first | apply Kd.S_alloc | apply Kd.S_drewN | apply Kd.S_drew)); exact HO_8.out⟩, ⟨by (with_reducible repeat (first | apply Kd.R_alloc | apply Kd.R_drewN | apply Kd.R_drew)); exact HO_9.out⟩, ⟨by repeat (first | (with_reducible first | exact HB.out | apply bA_ | apply bN_ | apply bD_) | exact HB.out)⟩⟩
        ·replace c11 := Bool.eq_false_iff.mpr c11
         subst c11
         have H1 : (if 0 ≤ x10_1 then (if x10_1 < (t412.length : Int) then (if 0 ≤ ((rd_T47 t412 x10_1).f0) then (if ((rd_T47 t412 x10_1).f0) < (t416.length : Int) then (if 0 ≤ x12_2 then (if x12_2 < ((rd_L7 t416 ((rd_T47 t412 x10_1).f0)).length : Int) then (if rdOf false (rd_L7 t416 ((rd_T47 t412 x10_1).f0)) x12_2 = true then (if x12_2 < (t416.length : Int) then (if 0 ≤ ((rd_T47 t412 x10_1).f1) then (if ((rd_T47 t412 x10_1).f1) < ((rd_L7 t416 x12_2).length : Int) then (swarfref29_Reduce.l1 k2 a0 t412 t416 x9_1 x10_1 (rdOf false (rd_L7 t416 x12_2) ((rd_T47 t412 x10_1).f1)) (wrap64 (x12_2 + 1))) else (none)) else (none)) else (none)) else (swarfref29_Reduce.l1 k2 a0 t412 t416 x9_1 x10_1 false (wrap64 (x12_2 + 1)))) else (none)) else (none)) else (none)) else (none)) else (none)) else (none)) = some (r1, r2) := by rw [if_neg (show ¬ (false = true) by decide)] at H; exact H
         clear H; have H := H1; clear H1
         by_cases c12 : 0 ≤ x10_1
         ·rw [if_pos c12] at H
          have c12b0 : decide (0 ≤ x10_1) = true := decide_eq_true c12
          clear c12
          by_cases c13 : x10_1 < (t412.length : Int)
          ·rw [if_pos c13] at H
           have c13b0 : decide (x10_1 < (t412.length : Int)) = true := decide_eq_true c13
           clear c13
           by_cases c14 : 0 ≤ ((rd_T47 t412 x10_1).f0)
           ·rw [if_pos c14] at H
            have c14b0 : decide (0 ≤ ((rd_T47 t412 x10_1).f0)) = true := decide_eq_true c14
            clear c14
            by_cases c15 : ((rd_T47 t412 x10_1).f0) < (t416.length : Int)
            ·rw [if_pos c15] at H
             have c15b0 : decide (((rd_T47 t412 x10_1).f0) < (t416.length : Int)) = true := decide_eq_true c15
             clear c15
             by_cases c16 : 0 ≤ x12_2
             ·rw [if_pos c16] at H
              have c16b0 : decide (0 ≤ x12_2) = true := decide_eq_true c16
              clear c16
              by_cases c17 : x12_2 < ((rd_L7 t416 ((rd_T47 t412 x10_1).f0)).length : Int)
              ·rw [if_pos c17] at H
               have c17b0 : decide (x12_2 < ((rd_L7 t416 ((rd_T47 t412 x10_1).f0)).length : Int)) = true := decide_eq_true c17
               clear c17
               obtain ⟨bq18, hbq18⟩ : ∃ b_ : Bool, b_ = (rdOf false (rd_L7 t416 ((rd_T47 t412 x10_1).f0)) x12_2) := ⟨_, rfl⟩
               replace H : (if bq18 = true then (if x12_2 < (t416.length : Int) then (if 0 ≤ ((rd_T47 t412 x10_1).f1) then (if ((rd_T47 t412 x10_1).f1) < ((rd_L7 t416 x12_2).length : Int) then (swarfref29_Reduce.l1 k2 a0 t412 t416 x9_1 x10_1 (rdOf false (rd_L7 t416 x12_2) ((rd_T47 t412 x10_1).f1)) (wrap64 (x12_2 + 1))) else (none)) else (none)) else (none)) else (swarfref29_Reduce.l1 k2 a0 t412 t416 x9_1 x10_1 false (wrap64 (x12_2 + 1)))) = some (r1, r2) := by rw [← hbq18] at H; exact H
               have Nbq18 := aK hbq18; clear hbq18
               by_cases c19 : bq18 = true
               ·subst c19
                have H1 : (if x12_2 < (t416.length : Int) then (if 0 ≤ ((rd_T47 t412 x10_1).f1) then (if ((rd_T47 t412 x10_1).f1) < ((rd_L7 t416 x12_2).length : Int) then (swarfref29_Reduce.l1 k2 a0 t412 t416 x9_1 x10_1 (rdOf false (rd_L7 t416 x12_2) ((rd_T47 t412 x10_1).f1)) (wrap64 (x12_2 + 1))) else (none)) else (none)) else (none)) = some (r1, r2) := by rw [if_pos rfl] at H; exact H
                clear H; have H := H1; clear H1
                by_cases c20 : x12_2 < (t416.length : Int)
                ·rw [if_pos c20] at H
                 have c20b0 : decide (x12_2 < (t416.length : Int)) = true := decide_eq_true c20
                 clear c20
                 by_cases c21 : 0 ≤ ((rd_T47 t412 x10_1).f1)
                 ·rw [if_pos c21] at H
                  have c21b0 : decide (0 ≤ ((rd_T47 t412 x10_1).f1)) = true := decide_eq_true c21
                  clear c21
                  by_cases c22 : ((rd_T47 t412 x10_1).f1) < ((rd_L7 t416 x12_2).length : Int)
                  ·rw [if_pos c22] at H
                   have c22b0 : decide (((rd_T47 t412 x10_1).f1) < ((rd_L7 t416 x12_2).length : Int)) = true := decide_eq_true c22
                   clear c22; have H' := aK H; clear H
                   have p419 : 0 ≤ (x10_1 : Int) := of_decide_eq_true (by first | (with_reducible assumption) | assumption)
                   have q419 : x10_1 < (t412.length : Int) := of_decide_eq_true (by first | (with_reducible assumption) | assumption)
                   obtain ⟨ad419, e419, hx419_0, hx419_1⟩ := at_T47 (Kd.R_reads' HO_6.out).2.2 x10_1 p419 q419
                   cases e419; replace p419 := eq_true p419; replace q419 := eq_true q419
                   obtain ⟨Ao23, co23, eo23⟩ := Kd.S_slice HO_8.out
                   subst eo23
                   have p420 : 0 ≤ (((rd_T47 t412 x10_1).f0) : Int) := of_decide_eq_true (by first | (with_reducible assumption) | assumption)
                   have q420 : ((rd_T47 t412 x10_1).f0) < (t416.length : Int) := of_decide_eq_true (by first | (with_reducible assumption) | assumption)
                   obtain ⟨ad420, A420_0, c420_0, e420, hx420_0, hl420_0, hi420_0⟩ := at_L7 (Kd.S_reads' HO_8.out).2.2 ((rd_T47 t412 x10_1).f0) p420 q420
                   cases e420
                   obtain ⟨ce420, hce420, hMe420, hcc420⟩ := Kd.S_get HO_8.out [] ((rd_T47 t412 x10_1).f0) p420 (by first | exact q420 | exact of_decide_eq_true (by first | (with_reducible assumption) | assumption) | (have e_ := (Kd.S_reads' HO_8.out).1; omega))
                   obtain ⟨ve420_0, rfl, ge420_0⟩ := hMe420
                   have hv420_0 := hcc420 0 _ rfl
                   rw [Nat.add_zero, show ((Kd.slice 4 Kd.bool)).sz = 1 from rfl, Nat.mul_one] at hv420_0
                   replace hv420_0 := Option.some.inj (hv420_0.symm.trans hx420_0)
                   rw [hv420_0] at ge420_0
                   have HL420_0 := aK (show Kd.R Kd.bool 4 _ _ _ _ (rd_L7 t416 ((rd_T47 t412 x10_1).f0)) from ge420_0)
                   clear hv420_0 ge420_0; clear hcc420 hce420; have HR420_0 := aK hi420_0; have HC420_0 := aK hl420_0; clear hi420_0 hl420_0; replace p420 := eq_true p420; replace q420 := eq_true q420
                   have p421 : 0 ≤ (x12_2 : Int) := of_decide_eq_true (by first | (with_reducible assumption) | assumption)
                   have q421 : x12_2 < ((rd_L7 t416 ((rd_T47 t412 x10_1).f0)).length : Int) := of_decide_eq_true (by first | (with_reducible assumption) | assumption)
                   obtain ⟨ad421, e421, hx421_0⟩ := Kd.at_bool (by repeat (first | (with_reducible exact HR420_0.out) | (with_reducible refine Kd.C_alloc ?_ _) | (with_reducible refine Kd.C_drewN ?_ _) | (with_reducible refine Kd.C_drew ?_) | exact HR420_0.out)) x12_2 p421 q421
                   (try rw [← Nbq18.out] at hx421_0)
                   cases e421; replace p421 := eq_true p421; replace q421 := eq_true q421
                   have p422 : 0 ≤ (x12_2 : Int) := of_decide_eq_true (by first | (with_reducible assumption) | assumption)
                   have q422 : x12_2 < (t416.length : Int) := of_decide_eq_true (by first | (with_reducible assumption) | assumption)
                   obtain ⟨ad422, A422_0, c422_0, e422, hx422_0, hl422_0, hi422_0⟩ := at_L7 (Kd.S_reads' HO_8.out).2.2 x12_2 p422 q422
                   obtain rfl : ad420 = ad422 := (by injection e422)
                   obtain ⟨ce422, hce422, hMe422, hcc422⟩ := Kd.S_get HO_8.out [] x12_2 p422 (by first | exact q422 | exact of_decide_eq_true (by first | (with_reducible assumption) | assumption) | (have e_ := (Kd.S_reads' HO_8.out).1; omega))
                   obtain ⟨ve422_0, rfl, ge422_0⟩ := hMe422
                   have hv422_0 := hcc422 0 _ rfl
                   rw [Nat.add_zero, show ((Kd.slice 4 Kd.bool)).sz = 1 from rfl, Nat.mul_one] at hv422_0
                   replace hv422_0 := Option.some.inj (hv422_0.symm.trans hx422_0)
                   rw [hv422_0] at ge422_0
                   have HL422_0 := aK (show Kd.R Kd.bool 4 _ _ _ _ (rd_L7 t416 x12_2) from ge422_0)
                   clear hv422_0 ge422_0; clear hcc422 hce422; have HR422_0 := aK hi422_0; have HC422_0 := aK hl422_0; clear hi422_0 hl422_0; replace p422 := eq_true p422; replace q422 := eq_true q422
                   have p423 : 0 ≤ (x10_1 : Int) := of_decide_eq_true (by first | (with_reducible assumption) | assumption)
                   have q423 : x10_1 < (t412.length : Int) := of_decide_eq_true (by first | (with_reducible assumption) | assumption)
                   obtain ⟨ad423, e423, hx423_0, hx423_1⟩ := at_T47 (Kd.R_reads' HO_6.out).2.2 x10_1 p423 q423
                   obtain rfl : ad419 = ad423 := (by injection e423)
                   replace p423 := eq_true p423; replace q423 := eq_true q423
                   have p424 : 0 ≤ (((rd_T47 t412 x10_1).f1) : Int) := of_decide_eq_true (by first | (with_reducible assumption) | assumption)
                   have q424 : ((rd_T47 t412 x10_1).f1) < ((rd_L7 t416 x12_2).length : Int) := of_decide_eq_true (by first | (with_reducible assumption) | assumption)
                   obtain ⟨ad424, e424, hx424_0⟩ := Kd.at_bool (by repeat (first | (with_reducible exact HR422_0.out) | (with_reducible refine Kd.C_alloc ?_ _) | (with_reducible refine Kd.C_drewN ?_ _) | (with_reducible refine Kd.C_drew ?_) | exact HR422_0.out)) ((rd_T47 t412 x10_1).f1) p424 q424
                   (try rw [← Nbq18.out] at hx424_0)
                   cases e424; replace p424 := eq_true p424; replace q424 := eq_true q424; go_wp2
                   repeat (go_quiet (fail); try go_wp2)
                   go_roundg k2
                   case measure => have := HK1.out; have := HK2.out; omega
                   case rel => exact ⟨(rdOf false (rd_L7 t416 x12_2) ((rd_T47 t412 x10_1).f1)), (wrap64 (x12_2 + 1)), (by first | rfl | (simp; done) | (simp [*]; done)), (by first | rfl | (simp; done) | (simp [*]; done)), H', ⟨by have := HK1.out; have := HK2.out; omega⟩, ⟨by (with_reducible repeat (first | apply Kd.R_alloc | apply Kd.R_drewN | apply Kd.R_drew)); exact HO_6.out⟩, ⟨by (with_reducible repeat (first | apply Kd.S_alloc | apply Kd.S_drewN | apply Kd.S_drew)); exact HO_8.out⟩, ⟨by (with_reducible repeat (first | apply Kd.R_alloc | apply Kd.R_drewN | apply Kd.R_drew)); exact HO_9.out⟩, ⟨by repeat (first | (with_reducible first | exact HB.out | apply bA_ | apply bN_ | apply bD_) | exact HB.out)⟩⟩
                  ·rw [if_neg c22] at H
                   exact absurd H (by simp)
                 ·rw [if_neg c21] at H
                  exact absurd H (by simp)
                ·rw [if_neg c20] at H
                 exact absurd H (by simp)
               ·replace c19 := Bool.eq_false_iff.mpr c19
                subst c19
                have H1 : (swarfref29_Reduce.l1 k2 a0 t412 t416 x9_1 x10_1 false (wrap64 (x12_2 + 1))) = some (r1, r2) := by rw [if_neg (show ¬ (false = true) by decide)] at H; exact H
                clear H; have H := H1; clear H1; have H' := aK H; clear H
                have p419 : 0 ≤ (x10_1 : Int) := of_decide_eq_true (by first | (with_reducible assumption) | assumption)
                have q419 : x10_1 < (t412.length : Int) := of_decide_eq_true (by first | (with_reducible assumption) | assumption)
                obtain ⟨ad419, e419, hx419_0, hx419_1⟩ := at_T47 (Kd.R_reads' HO_6.out).2.2 x10_1 p419 q419
                cases e419; replace p419 := eq_true p419; replace q419 := eq_true q419
                obtain ⟨Ao24, co24, eo24⟩ := Kd.S_slice HO_8.out
                subst eo24
                have p420 : 0 ≤ (((rd_T47 t412 x10_1).f0) : Int) := of_decide_eq_true (by first | (with_reducible assumption) | assumption)
                have q420 : ((rd_T47 t412 x10_1).f0) < (t416.length : Int) := of_decide_eq_true (by first | (with_reducible assumption) | assumption)
                obtain ⟨ad420, A420_0, c420_0, e420, hx420_0, hl420_0, hi420_0⟩ := at_L7 (Kd.S_reads' HO_8.out).2.2 ((rd_T47 t412 x10_1).f0) p420 q420
                cases e420
                obtain ⟨ce420, hce420, hMe420, hcc420⟩ := Kd.S_get HO_8.out [] ((rd_T47 t412 x10_1).f0) p420 (by first | exact q420 | exact of_decide_eq_true (by first | (with_reducible assumption) | assumption) | (have e_ := (Kd.S_reads' HO_8.out).1; omega))
                obtain ⟨ve420_0, rfl, ge420_0⟩ := hMe420
                have hv420_0 := hcc420 0 _ rfl
                rw [Nat.add_zero, show ((Kd.slice 4 Kd.bool)).sz = 1 from rfl, Nat.mul_one] at hv420_0
                replace hv420_0 := Option.some.inj (hv420_0.symm.trans hx420_0)
                rw [hv420_0] at ge420_0
                have HL420_0 := aK (show Kd.R Kd.bool 4 _ _ _ _ (rd_L7 t416 ((rd_T47 t412 x10_1).f0)) from ge420_0)
                clear hv420_0 ge420_0; clear hcc420 hce420; have HR420_0 := aK hi420_0; have HC420_0 := aK hl420_0; clear hi420_0 hl420_0; replace p420 := eq_true p420; replace q420 := eq_true q420
                have p421 : 0 ≤ (x12_2 : Int) := of_decide_eq_true (by first | (with_reducible assumption) | assumption)
                have q421 : x12_2 < ((rd_L7 t416 ((rd_T47 t412 x10_1).f0)).length : Int) := of_decide_eq_true (by first | (with_reducible assumption) | assumption)
                obtain ⟨ad421, e421, hx421_0⟩ := Kd.at_bool (by repeat (first | (with_reducible exact HR420_0.out) | (with_reducible refine Kd.C_alloc ?_ _) | (with_reducible refine Kd.C_drewN ?_ _) | (with_reducible refine Kd.C_drew ?_) | exact HR420_0.out)) x12_2 p421 q421
                (try rw [← Nbq18.out] at hx421_0)
                cases e421; replace p421 := eq_true p421; replace q421 := eq_true q421; go_wp2
                repeat (go_quiet (fail); try go_wp2)
                go_roundg k2
                case measure => have := HK1.out; have := HK2.out; omega
                case rel => exact ⟨(false), (wrap64 (x12_2 + 1)), (by first | rfl | (simp; done) | (simp [*]; done)), (by first | rfl | (simp; done) | (simp [*]; done)), H', ⟨by have := HK1.out; have := HK2.out; omega⟩, ⟨by (with_reducible repeat (first | apply Kd.R_alloc | apply Kd.R_drewN | apply Kd.R_drew)); exact HO_6.out⟩, ⟨by (with_reducible repeat (first | apply Kd.S_alloc | apply Kd.S_drewN | apply Kd.S_drew)); exact HO_8.out⟩, ⟨by (with_reducible repeat (first | apply Kd.R_alloc | apply Kd.R_drewN | apply Kd.R_drew)); exact HO_9.out⟩, ⟨by repeat (first | (with_reducible first | exact HB.out | apply bA_ | apply bN_ | apply bD_) | exact HB.out)⟩⟩
              ·rw [if_neg c17] at H
               exact absurd H (by simp)
             ·rw [if_neg c16] at H
              exact absurd H (by simp)
            ·rw [if_neg c15] at H
             exact absurd H (by simp)
           ·rw [if_neg c14] at H
            exact absurd H (by simp)
          ·rw [if_neg c13] at H
           exact absurd H (by simp)
         ·rw [if_neg c12] at H
          exact absurd H (by simp)
       ·rw [if_neg c10] at H
        have c10b0 : decide (x12_2 < a0) = false := decide_eq_false c10
        clear c10
        by_cases c25 : x11_2 = true
        ·subst c25
         have H1 : (swarfref29_Reduce.l0 k2 a0 t412 t416 x9_1 (wrap64 (x10_1 + 1))) = some (r1, r2) := by rw [if_pos rfl] at H; exact H
         clear H; have H := H1; clear H1; have H' := aK H; clear H; go_wp2
         repeat (go_quiet (fail); try go_wp2)
         go_roundg k2
         case measure => have := HK1.out; have := HK2.out; omega
         case rel => exact ⟨(x9_1), (wrap64 (x10_1 + 1)), (by first | rfl | (simp; done) | (simp [*]; done)), H', ⟨by have := HK1.out; have := HK2.out; omega⟩, ⟨by (with_reducible repeat (first | apply Kd.R_alloc | apply Kd.R_drewN | apply Kd.R_drew)); exact HO_6.out⟩, ⟨by (with_reducible repeat (first | apply Kd.S_alloc | apply Kd.S_drewN | apply Kd.S_drew)); exact HO_8.out⟩, ⟨by (with_reducible repeat (first | apply Kd.R_alloc | apply Kd.R_drewN | apply Kd.R_drew)); exact HO_9.out⟩, ⟨by repeat (first | (with_reducible first | exact HB.out | apply bA_ | apply bN_ | apply bD_) | exact HB.out)⟩⟩
        ·replace c25 := Bool.eq_false_iff.mpr c25
         subst c25
         have H1 : (if 0 ≤ x10_1 then (if x10_1 < (t412.length : Int) then (if x9_1.length < 8796093022208 then (swarfref29_Reduce.l0 k2 a0 t412 t416 (x9_1 ++ [(⟨(rd_T47 t412 x10_1).f0, (rd_T47 t412 x10_1).f1⟩ : S47)]) (wrap64 (x10_1 + 1))) else (none)) else (none)) else (none)) = some (r1, r2) := by rw [if_neg (show ¬ (false = true) by decide)] at H; exact H
         clear H; have H := H1; clear H1
         by_cases c26 : 0 ≤ x10_1
         ·rw [if_pos c26] at H
          have c26b0 : decide (0 ≤ x10_1) = true := decide_eq_true c26
          clear c26
          by_cases c27 : x10_1 < (t412.length : Int)
          ·rw [if_pos c27] at H
           have c27b0 : decide (x10_1 < (t412.length : Int)) = true := decide_eq_true c27
           clear c27
           by_cases c28 : x9_1.length < 8796093022208
           ·rw [if_pos c28] at H; have LMc28 := aK c28; clear c28
            obtain ⟨y426, hy426⟩ : ∃ y_ : List (S47), y_ = (x9_1 ++ [(⟨(rd_T47 t412 x10_1).f0, (rd_T47 t412 x10_1).f1⟩ : S47)]) := ⟨_, rfl⟩
            replace H : (swarfref29_Reduce.l0 k2 a0 t412 t416 y426 (wrap64 (x10_1 + 1))) = some (r1, r2) := by first | (rw [hy426]; with_reducible exact H) | (have H2_ := (Option.bind_some _ _).symm.trans H; rw [hy426]; with_reducible exact H2_) | (have H2_ := (Option.bind_some _ _).symm.trans H; with_reducible exact H2_) | with_reducible exact H | (rw [hy426]; exact H) | exact H
            have Ny426 := aK hy426; clear hy426; have H' := aK H; clear H
            have p425 : 0 ≤ (x10_1 : Int) := of_decide_eq_true (by first | (with_reducible assumption) | assumption)
            have q425 : x10_1 < (t412.length : Int) := of_decide_eq_true (by first | (with_reducible assumption) | assumption)
            obtain ⟨ad425, e425, hx425_0, hx425_1⟩ := at_T47 (Kd.R_reads' HO_6.out).2.2 x10_1 p425 q425
            cases e425; replace p425 := eq_true p425; replace q425 := eq_true q425
            go_wp2_with (first | ((with_reducible refine gate_builtin (b := .append) (xs := #[.tmp 65, .tmp 70]) rfl ?_); at_builtin; refine Kd.R_append k47 (w0 := w) w.heap.size rfl (.tmp 65) (.tmp 70) 22 47 (.agg #[(.int .i64 0), (.int .i64 0)]) 16 rfl Try.underlying22 info47 rfl (by decide) (by omega) u9 x9_1 (⟨(rd_T47 t412 x10_1).f0, (rd_T47 t412 x10_1).f1⟩ : S47) [.int .i64 ((rd_T47 t412 x10_1).f0), .int .i64 ((rd_T47 t412 x10_1).f1)] (fun k_ => some k_ ≠ (.slice (some ad425) t412.length co9 : Value).ownBlock) (fun _ => False) rfl rfl ?aP (fun _ hk => hk.elim) ?aF ?aO ?aB ?aS ?aL ?_; (case aP => exact k47_mkM _ _ _ (⟨(rd_T47 t412 x10_1).f0, (rd_T47 t412 x10_1).f1⟩ : S47)); (case aB => exact (by repeat (first | (with_reducible first | exact HB.out | apply bA_ | apply bN_ | apply bD_) | exact HB.out))); (case aF => exact (fun k_ hk => Kd.fresh' (Kd.R_lt (by (with_reducible repeat (first | apply Kd.R_alloc | apply Kd.R_drewN | apply Kd.R_drew)); exact HO_6.out)) k_ hk)); (case aO => exact (by (with_reducible repeat (first | apply Kd.R_alloc | apply Kd.R_drewN | apply Kd.R_drew)); exact HO_9.out)); (case aS => exact (bZ_ (by repeat (first | (with_reducible first | exact HB.out | apply bA_ | apply bN_ | apply bD_) | exact HB.out)))); (case aL => have := LMc28.out; omega); intro v427 w29 ho hb hg hat; rw [← Ny426.out] at ho; have n0_ := aK (Kd.R_after (ok := (fun _ => True)) (by (with_reducible repeat (first | apply Kd.R_alloc | apply Kd.R_drewN | apply Kd.R_drew)); exact Kd.R_mono HO_6.out (fun _ hk => ⟨trivial, hk⟩)) hg hat); have n1_ := aK (Kd.S_over' (by (with_reducible repeat (first | apply Kd.S_alloc | apply Kd.S_drewN | apply Kd.S_drew)); exact HO_8.out) (Kd.R_typed (by (with_reducible repeat (first | apply Kd.R_alloc | apply Kd.R_drewN | apply Kd.R_drew)); exact HO_9.out)) (by decide) hg); have n2_ := aK (hb); have n3_ := aK (ho); clear HO_6; clear HO_8; clear HB; clear HO_9; have HO_6 := n0_; have HO_8 := n1_; have HB := n2_; have HO428 := n3_; clear n0_ n1_ n2_ n3_; clear ho hb hg hat))
            repeat (go_quiet (first | ((with_reducible refine gate_builtin (b := .append) (xs := #[.tmp 65, .tmp 70]) rfl ?_); at_builtin; refine Kd.R_append k47 (w0 := w) w.heap.size rfl (.tmp 65) (.tmp 70) 22 47 (.agg #[(.int .i64 0), (.int .i64 0)]) 16 rfl Try.underlying22 info47 rfl (by decide) (by omega) u9 x9_1 (⟨(rd_T47 t412 x10_1).f0, (rd_T47 t412 x10_1).f1⟩ : S47) [.int .i64 ((rd_T47 t412 x10_1).f0), .int .i64 ((rd_T47 t412 x10_1).f1)] (fun k_ => some k_ ≠ (.slice (some ad425) t412.length co9 : Value).ownBlock) (fun _ => False) rfl rfl ?aP (fun _ hk => hk.elim) ?aF ?aO ?aB ?aS ?aL ?_; (case aP => exact k47_mkM _ _ _ (⟨(rd_T47 t412 x10_1).f0, (rd_T47 t412 x10_1).f1⟩ : S47)); (case aB => exact (by repeat (first | (with_reducible first | exact HB.out | apply bA_ | apply bN_ | apply bD_) | exact HB.out))); (case aF => exact (fun k_ hk => Kd.fresh' (Kd.R_lt (by (with_reducible repeat (first | apply Kd.R_alloc | apply Kd.R_drewN | apply Kd.R_drew)); exact HO_6.out)) k_ hk)); (case aO => exact (by (with_reducible repeat (first | apply Kd.R_alloc | apply Kd.R_drewN | apply Kd.R_drew)); exact HO_9.out)); (case aS => exact (bZ_ (by repeat (first | (with_reducible first | exact HB.out | apply bA_ | apply bN_ | apply bD_) | exact HB.out)))); (case aL => have := LMc28.out; omega); intro v427 w29 ho hb hg hat; rw [← Ny426.out] at ho; have n0_ := aK (Kd.R_after (ok := (fun _ => True)) (by (with_reducible repeat (first | apply Kd.R_alloc | apply Kd.R_drewN | apply Kd.R_drew)); exact Kd.R_mono HO_6.out (fun _ hk => ⟨trivial, hk⟩)) hg hat); have n1_ := aK (Kd.S_over' (by (with_reducible repeat (first | apply Kd.S_alloc | apply Kd.S_drewN | apply Kd.S_drew)); exact HO_8.out) (Kd.R_typed (by (with_reducible repeat (first | apply Kd.R_alloc | apply Kd.R_drewN | apply Kd.R_drew)); exact HO_9.out)) (by decide) hg); have n2_ := aK (hb); have n3_ := aK (ho); clear HO_6; clear HO_8; clear HB; clear HO_9; have HO_6 := n0_; have HO_8 := n1_; have HB := n2_; have HO428 := n3_; clear n0_ n1_ n2_ n3_; clear ho hb hg hat)); try go_wp2_with (first | ((with_reducible refine gate_builtin (b := .append) (xs := #[.tmp 65, .tmp 70]) rfl ?_); at_builtin; refine Kd.R_append k47 (w0 := w) w.heap.size rfl (.tmp 65) (.tmp 70) 22 47 (.agg #[(.int .i64 0), (.int .i64 0)]) 16 rfl Try.underlying22 info47 rfl (by decide) (by omega) u9 x9_1 (⟨(rd_T47 t412 x10_1).f0, (rd_T47 t412 x10_1).f1⟩ : S47) [.int .i64 ((rd_T47 t412 x10_1).f0), .int .i64 ((rd_T47 t412 x10_1).f1)] (fun k_ => some k_ ≠ (.slice (some ad425) t412.length co9 : Value).ownBlock) (fun _ => False) rfl rfl ?aP (fun _ hk => hk.elim) ?aF ?aO ?aB ?aS ?aL ?_; (case aP => exact k47_mkM _ _ _ (⟨(rd_T47 t412 x10_1).f0, (rd_T47 t412 x10_1).f1⟩ : S47)); (case aB => exact (by repeat (first | (with_reducible first | exact HB.out | apply bA_ | apply bN_ | apply bD_) | exact HB.out))); (case aF => exact (fun k_ hk => Kd.fresh' (Kd.R_lt (by (with_reducible repeat (first | apply Kd.R_alloc | apply Kd.R_drewN | apply Kd.R_drew)); exact HO_6.out)) k_ hk)); (case aO => exact (by (with_reducible repeat (first | apply Kd.R_alloc | apply Kd.R_drewN | apply Kd.R_drew)); exact HO_9.out)); (case aS => exact (bZ_ (by repeat (first | (with_reducible first | exact HB.out | apply bA_ | apply bN_ | apply bD_) | exact HB.out)))); (case aL => have := LMc28.out; omega); intro v427 w29 ho hb hg hat; rw [← Ny426.out] at ho; have n0_ := aK (Kd.R_after (ok := (fun _ => True)) (by (with_reducible repeat (first | apply Kd.R_alloc | apply Kd.R_drewN | apply Kd.R_drew)); exact Kd.R_mono HO_6.out (fun _ hk => ⟨trivial, hk⟩)) hg hat); have n1_ := aK (Kd.S_over' (by (with_reducible repeat (first | apply Kd.S_alloc | apply Kd.S_drewN | apply Kd.S_drew)); exact HO_8.out) (Kd.R_typed (by (with_reducible repeat (first | apply Kd.R_alloc | apply Kd.R_drewN | apply Kd.R_drew)); exact HO_9.out)) (by decide) hg); have n2_ := aK (hb); have n3_ := aK (ho); clear HO_6; clear HO_8; clear HB; clear HO_9; have HO_6 := n0_; have HO_8 := n1_; have HB := n2_; have HO428 := n3_; clear n0_ n1_ n2_ n3_; clear ho hb hg hat)))
            go_roundg k2
            case measure => have := HK1.out; have := HK2.out; omega
            case rel => exact ⟨(y426), (wrap64 (x10_1 + 1)), (by first | rfl | (simp; done) | (simp [*]; done)), H', ⟨by have := HK1.out; have := HK2.out; omega⟩, ⟨by (with_reducible repeat (first | apply Kd.R_alloc | apply Kd.R_drewN | apply Kd.R_drew)); exact Kd.R_mono HO_6.out (fun _ hk => hk.2)⟩, ⟨by (with_reducible repeat (first | apply Kd.S_alloc | apply Kd.S_drewN | apply Kd.S_drew)); exact HO_8.out⟩, ⟨by (with_reducible repeat (first | apply Kd.R_alloc | apply Kd.R_drewN | apply Kd.R_drew)); exact HO428.out⟩, ⟨by repeat (first | (with_reducible first | exact HB.out | apply bA_ | apply bN_ | apply bD_) | exact HB.out)⟩⟩
           ·rw [if_neg c28] at H
            exact absurd H (by simp)
          ·rw [if_neg c27] at H
           exact absurd H (by simp)
         ·rw [if_neg c26] at H
          exact absurd H (by simp)
    ·rw [if_neg c8] at H
     have c8b0 : decide (x10_1 < (t412.length : Int)) = false := decide_eq_false c8
     clear c8
     simp only [Option.some.injEq, Prod.mk.injEq] at H
     obtain ⟨rfl, rfl⟩ := H
     obtain ⟨Ao30, co30, eo30⟩ := Kd.R_slice HO_6.out
     subst eo30; go_wp2
     repeat (go_quiet (fail); try go_wp2)
     go_ret2
     exact ⟨_, by first | rfl | (simp [errW_none, errW_some] <;> rfl) | (simp [*, errW_none, errW_some] <;> rfl), by (with_reducible repeat (first | apply Kd.R_alloc | apply Kd.R_drewN | apply Kd.R_drew)); exact Kd.R_mono HO_9.out (fun _ hk => trivial), by repeat (first | (with_reducible first | exact HB.out | apply bA_ | apply bN_ | apply bD_) | exact HB.out)⟩
 ·rw [if_neg c4] at H
  have c4b0 : (t413 == 0) = false := beq_eq_false_iff_ne.mpr c4
  have c4b1 : (t413 != 0) = true := bne_iff_ne.mpr c4
  simp only [Option.some.injEq, Prod.mk.injEq] at H
  obtain ⟨rfl, rfl⟩ := H
  go_enter Try.func33, Try.ntmps33
  go_wp2_with (first | (go_at_call 32; (with_reducible refine (swarfref29_Closure.calls k a0 _ _ l1 t412 t413 _ ?side1 ?side2 A3.out).mono ?_); (case side1 => repeat (first | exact HR1.out | (with_reducible refine Kd.C_alloc ?_ _) | (with_reducible refine Kd.C_drewN ?_ _) | (with_reducible refine Kd.C_drew ?_))); (case side2 => exact HC1.out); rintro e w31 ⟨v414, rfl, ho0, hb⟩; have n0_ := aK (Kd.R_lower ho0 (bZ_ (by repeat (first | (with_reducible first | exact HB.out | apply bA_ | apply bN_ | apply bD_) | exact HB.out)))); have n1_ := aK (bT_ (by repeat (first | (with_reducible first | exact HB.out | apply bA_ | apply bN_ | apply bD_) | exact HB.out)) hb); clear HB; have HO415 := n0_; have HB := n1_; clear n0_ n1_; (try clear hb); (try clear hb2); (try clear hk); (try clear hi); (try clear ho0)))
  repeat (go_quiet (first | (go_at_call 32; (with_reducible refine (swarfref29_Closure.calls k a0 _ _ l1 t412 t413 _ ?side1 ?side2 A3.out).mono ?_); (case side1 => repeat (first | exact HR1.out | (with_reducible refine Kd.C_alloc ?_ _) | (with_reducible refine Kd.C_drewN ?_ _) | (with_reducible refine Kd.C_drew ?_))); (case side2 => exact HC1.out); rintro e w31 ⟨v414, rfl, ho0, hb⟩; have n0_ := aK (Kd.R_lower ho0 (bZ_ (by repeat (first | (with_reducible first | exact HB.out | apply bA_ | apply bN_ | apply bD_) | exact HB.out)))); have n1_ := aK (bT_ (by repeat (first | (with_reducible first | exact HB.out | apply bA_ | apply bN_ | apply bD_) | exact HB.out)) hb); clear HB; have HO415 := n0_; have HB := n1_; clear n0_ n1_; (try clear hb); (try clear hb2); (try clear hk); (try clear hi); (try clear ho0))); try go_wp2_with (first | (go_at_call 32; (with_reducible refine (swarfref29_Closure.calls k a0 _ _ l1 t412 t413 _ ?side1 ?side2 A3.out).mono ?_); (case side1 => repeat (first | exact HR1.out | (with_reducible refine Kd.C_alloc ?_ _) | (with_reducible refine Kd.C_drewN ?_ _) | (with_reducible refine Kd.C_drew ?_))); (case side2 => exact HC1.out); rintro e w31 ⟨v414, rfl, ho0, hb⟩; have n0_ := aK (Kd.R_lower ho0 (bZ_ (by repeat (first | (with_reducible first | exact HB.out | apply bA_ | apply bN_ | apply bD_) | exact HB.out)))); have n1_ := aK (bT_ (by repeat (first | (with_reducible first | exact HB.out | apply bA_ | apply bN_ | apply bD_) | exact HB.out)) hb); clear HB; have HO415 := n0_; have HB := n1_; clear n0_ n1_; (try clear hb); (try clear hb2); (try clear hk); (try clear hi); (try clear ho0))))
  go_ret2
  exact ⟨_, by first | rfl | (simp [errW_none, errW_some] <;> rfl) | (simp [*, errW_none, errW_some] <;> rfl), by first | exact Kd.R_nil _ _ _ _ _ | exact Kd.N_nil _ _ _ _ _ | exact Kd.V_nil _ _ _ _ _ | exact Kd.Q_nil _ _ _ _ _ | exact Kd.S_nil _ _ _ _ _, by repeat (first | (with_reducible first | exact HB.out | apply bA_ | apply bN_ | apply bD_) | exact HB.out)⟩

end Go.Proofs.Ytbbkclcfmcjlgaa.P



namespace Go.Proofs.Ytbbkclcfmcjlgaa.P
open Go.RowKit Go.Proofs.YtbbkclcfmcjlgaaW.PrintWords Go.Proofs.YtbbkclcfmcjlgaaW.PrintLast Go.Proofs.YtbbkclcfmcjlgaaW.PrintMore
attribute [local go_sem] max2_int min2_int max_two min_two max_three min_three max_four min_four
set_option linter.unusedVariables false
set_option linter.unusedSimpArgs false

def swarflaw29_PrecedenceClosure.j0 : Nat → Int → List (S47) → Bool → Option (Bool)
 | 0, _, _, _ => none
 | k + 1, x0, x1, x20 => if x20 = true then ((swarflaw29_awake.f k).bind fun t431 => (some t431)) else ((swarflaw29_cp.f x1).bind fun t432 => ((precedence_Closure.f k x0 t432).bind fun bt435 => ((swarfref29_Closure.f k x0 x1).bind fun bt439 => ((swarflaw29_cp.f x1).bind fun t443 => ((precedence_Reduce.f k x0 t443).bind fun bt446 => ((swarfref29_Reduce.f k x0 x1).bind fun bt450 => (if bt435.2 = bt439.2 then (if bt446.2 = bt450.2 then ((swarfref29_Pairs.f k bt435.1 bt439.1).bind fun t454 => (if t454 = true then ((swarfref29_Pairs.f k bt446.1 bt450.1).bind fun t455 => (some t455)) else (some false))) else (some false)) else (some false))))))))
def swarflaw29_PrecedenceClosure.f (k : Nat) (a0 : Int) (l1 : List (S47)) : Option (Bool) := (swarflaw29_awake.f k).bind fun t429 => (if t429 = true then ((swarflaw29_few.f k a0 30 l1).bind fun t430 => (swarflaw29_PrecedenceClosure.j0 k a0 l1 (!t430))) else (swarflaw29_PrecedenceClosure.j0 k a0 l1 true))
set_option maxHeartbeats 8000000 in
set_option maxRecDepth 100000 in
theorem swarflaw29_PrecedenceClosure.calls (k : Nat) (a0 : Int) (A1 : Option Addr) (c1 : Nat) (l1 : List (S47)) (r : Bool) (w : World) (hr1 : Kd.C k47 w A1 l1.length l1) (hc1 : l1.length ≤ c1) (h : swarflaw29_PrecedenceClosure.f k a0 l1 = some r) (hr : r = true) :
  Calls Try.prog 11 #[.int .i64 a0, .slice A1 l1.length c1] w fun e w' => e = .returned (.bool r) ∧ Below w.heap.size w w' := by
 have HRT := aK hr
 clear hr
 have HR1 := aK hr1
 have HC1 := aK hc1
 clear hr1 hc1
 have HB := aK (Below.refl w.heap.size w)
 have H : ((swarflaw29_awake.f k).bind fun t429 => (if t429 = true then ((swarflaw29_few.f k a0 30 l1).bind fun t430 => (swarflaw29_PrecedenceClosure.j0 k a0 l1 (!t430))) else (swarflaw29_PrecedenceClosure.j0 k a0 l1 true))) = some r := h
 clear h
 have HC3 := aK H
 clear H
 go_enter Try.func11, Try.ntmps11
 go_upto_region 1 with (fail)
 go_cut [20] (fun v20 wc => ∃ (kq : Nat) (x20_2 : Bool), v20 = .bool x20_2 ∧ Aside0 (swarflaw29_PrecedenceClosure.j0 kq a0 l1 x20_2 = some r) ∧ Aside0 (kq ≤ k) ∧ Aside0 (Below w.heap.size w wc))
 case first =>
  have H := HC3.out
  clear HC3; replace H := oB_ H
  obtain ⟨t429, A40, H⟩ := H
  replace H : (if t429 = true then ((swarflaw29_few.f k a0 30 l1).bind fun t430 => (swarflaw29_PrecedenceClosure.j0 k a0 l1 (!t430))) else (swarflaw29_PrecedenceClosure.j0 k a0 l1 true)) = some r := H
  have A4 := aK A40; clear A40
  by_cases c5 : t429 = true
  ·subst c5
   have H1 : ((swarflaw29_few.f k a0 30 l1).bind fun t430 => (swarflaw29_PrecedenceClosure.j0 k a0 l1 (!t430))) = some r := by rw [if_pos rfl] at H; exact H
   clear H; have H := H1; clear H1; replace H := oB_ H
   obtain ⟨t430, A60, H⟩ := H
   replace H : (swarflaw29_PrecedenceClosure.j0 k a0 l1 (!t430)) = some r := H
   have A6 := aK A60; clear A60; have H' := aK H; clear H
   go_wp2_with (first | ((with_reducible refine gate_callee (f := 12) rfl ?_); refine goesL_ (some 13) rfl rfl Try.func12 (by kernel_rfl) rfl #[] rfl (by (try simp only [List.map_toArray, List.map_cons, List.map_nil]); first | done | rfl | (simp only [List.length_drop, List.length_take]; rfl)) ?_; (with_reducible refine (swarflaw29_awake.calls k  true _ A4.out).mono ?_); rintro e w7 ⟨rfl, hb⟩; refine ⟨_, rfl, ?_⟩; have n0_ := aK (bT_ (by repeat (first | (with_reducible first | exact HB.out | apply bA_ | apply bN_ | apply bD_) | exact HB.out)) hb); clear HB; have HB := n0_; clear n0_; (try clear hb); (try clear hb2); (try clear hk); (try clear hi)) | (go_at_call 13; (with_reducible refine (swarflaw29_few.calls k a0 30 _ _ l1 t430 _ ?side1 ?side2 A6.out).mono ?_); (case side1 => repeat (first | exact (Kd.C_below HR1.out HB.out) | (with_reducible refine Kd.C_alloc ?_ _) | (with_reducible refine Kd.C_drewN ?_ _) | (with_reducible refine Kd.C_drew ?_))); (case side2 => exact HC1.out); rintro e w' ⟨rfl, ⟨nd, rfl⟩⟩))
   go_meet
   case rel => exact ⟨_, (!t430), (by first | rfl | (simp; done) | (simp [*]; done)), H', ⟨by first | omega | exact Nat.le_refl _⟩, ⟨by repeat (first | (with_reducible first | exact HB.out | apply bA_ | apply bN_ | apply bD_) | exact HB.out)⟩⟩
  ·replace c5 := Bool.eq_false_iff.mpr c5
   subst c5
   have H1 : (swarflaw29_PrecedenceClosure.j0 k a0 l1 true) = some r := by rw [if_neg (show ¬ (false = true) by decide)] at H; exact H
   clear H; have H := H1; clear H1; have H' := aK H; clear H
   go_wp2_with (first | ((with_reducible refine gate_callee (f := 12) rfl ?_); refine goesL_ (some 13) rfl rfl Try.func12 (by kernel_rfl) rfl #[] rfl (by (try simp only [List.map_toArray, List.map_cons, List.map_nil]); first | done | rfl | (simp only [List.length_drop, List.length_take]; rfl)) ?_; (with_reducible refine (swarflaw29_awake.calls k  false _ A4.out).mono ?_); rintro e w8 ⟨rfl, hb⟩; refine ⟨_, rfl, ?_⟩; have n0_ := aK (bT_ (by repeat (first | (with_reducible first | exact HB.out | apply bA_ | apply bN_ | apply bD_) | exact HB.out)) hb); clear HB; have HB := n0_; clear n0_; (try clear hb); (try clear hb2); (try clear hk); (try clear hi)))
   go_meet
   case rel => exact ⟨_, (true), (by first | rfl | (simp; done) | (simp [*]; done)), H', ⟨by first | omega | exact Nat.le_refl _⟩, ⟨by repeat (first | (with_reducible first | exact HB.out | apply bA_ | apply bN_ | apply bD_) | exact HB.out)⟩⟩
 case rest =>
  clear HC3; try clear c1; try clear p2; try clear c5
  obtain ⟨kq, x20_2, rfl, HA, HJ2, HB⟩ := hcut
  cases kq with
  | zero => exact absurd HA.out (by simp [swarflaw29_PrecedenceClosure.j0])
  | succ kj2 =>
   have H := HA.out
   clear HA
   simp only [swarflaw29_PrecedenceClosure.j0] at H
   by_cases c9 : x20_2 = true
   ·subst c9
    have H1 : ((swarflaw29_awake.f kj2).bind fun t431 => (some t431)) = some r := by rw [if_pos rfl] at H; exact H
    clear H; have H := H1; clear H1; replace H := oB_ H
    obtain ⟨t431, A100, H⟩ := H
    replace H : (some t431) = some r := H
    have A10 := aK A100; clear A100; obtain rfl := Option.some.inj H
    go_wp2_with (first | ((with_reducible refine gate_callee (f := 12) rfl ?_); refine goesL_ (some 21) rfl rfl Try.func12 (by kernel_rfl) rfl #[] rfl (by (try simp only [List.map_toArray, List.map_cons, List.map_nil]); first | done | rfl | (simp only [List.length_drop, List.length_take]; rfl)) ?_; (with_reducible refine (swarflaw29_awake.calls kj2  t431 _ A10.out).mono ?_); rintro e w11 ⟨rfl, hb⟩; refine ⟨_, rfl, ?_⟩; have n0_ := aK (bT_ (by repeat (first | (with_reducible first | exact HB.out | apply bA_ | apply bN_ | apply bD_) | exact HB.out)) hb); clear HB; have HB := n0_; clear n0_; (try clear hb); (try clear hb2); (try clear hk); (try clear hi)))
    go_ret
    exact ⟨by first | rfl | (simp [errW_none, errW_some] <;> rfl) | (simp [*, errW_none, errW_some] <;> rfl), by repeat (first | (with_reducible first | exact HB.out | apply bA_ | apply bN_ | apply bD_) | exact HB.out)⟩
   ·replace c9 := Bool.eq_false_iff.mpr c9
    subst c9
    have H1 : ((swarflaw29_cp.f l1).bind fun t432 => ((precedence_Closure.f kj2 a0 t432).bind fun bt435 => ((swarfref29_Closure.f kj2 a0 l1).bind fun bt439 => ((swarflaw29_cp.f l1).bind fun t443 => ((precedence_Reduce.f kj2 a0 t443).bind fun bt446 => ((swarfref29_Reduce.f kj2 a0 l1).bind fun bt450 => (if bt435.2 = bt439.2 then (if bt446.2 = bt450.2 then ((swarfref29_Pairs.f kj2 bt435.1 bt439.1).bind fun t454 => (if t454 = true then ((swarfref29_Pairs.f kj2 bt446.1 bt450.1).bind fun t455 => (some t455)) else (some false))) else (some false)) else (some false)))))))) = some r := by rw [if_neg (show ¬ (false = true) by decide)] at H; exact H
    clear H; have H := H1; clear H1; replace H := oB_ H
    obtain ⟨t432, A120, H⟩ := H
    replace H : ((precedence_Closure.f kj2 a0 t432).bind fun bt435 => ((swarfref29_Closure.f kj2 a0 l1).bind fun bt439 => ((swarflaw29_cp.f l1).bind fun t443 => ((precedence_Reduce.f kj2 a0 t443).bind fun bt446 => ((swarfref29_Reduce.f kj2 a0 l1).bind fun bt450 => (if bt435.2 = bt439.2 then (if bt446.2 = bt450.2 then ((swarfref29_Pairs.f kj2 bt435.1 bt439.1).bind fun t454 => (if t454 = true then ((swarfref29_Pairs.f kj2 bt446.1 bt450.1).bind fun t455 => (some t455)) else (some false))) else (some false)) else (some false))))))) = some r := H
    have A12 := aK A120; clear A120; replace H := oB_ H
    obtain ⟨⟨t435, t436⟩, A130, H⟩ := H
    replace H : ((swarfref29_Closure.f kj2 a0 l1).bind fun bt439 => ((swarflaw29_cp.f l1).bind fun t443 => ((precedence_Reduce.f kj2 a0 t443).bind fun bt446 => ((swarfref29_Reduce.f kj2 a0 l1).bind fun bt450 => (if t436 = bt439.2 then (if bt446.2 = bt450.2 then ((swarfref29_Pairs.f kj2 t435 bt439.1).bind fun t454 => (if t454 = true then ((swarfref29_Pairs.f kj2 bt446.1 bt450.1).bind fun t455 => (some t455)) else (some false))) else (some false)) else (some false)))))) = some r := H
    have A13 := aK A130; clear A130; replace H := oB_ H
    obtain ⟨⟨t439, t440⟩, A140, H⟩ := H
    replace H : ((swarflaw29_cp.f l1).bind fun t443 => ((precedence_Reduce.f kj2 a0 t443).bind fun bt446 => ((swarfref29_Reduce.f kj2 a0 l1).bind fun bt450 => (if t436 = t440 then (if bt446.2 = bt450.2 then ((swarfref29_Pairs.f kj2 t435 t439).bind fun t454 => (if t454 = true then ((swarfref29_Pairs.f kj2 bt446.1 bt450.1).bind fun t455 => (some t455)) else (some false))) else (some false)) else (some false))))) = some r := H
    have A14 := aK A140; clear A140; replace H := oB_ H
    obtain ⟨t443, A150, H⟩ := H
    replace H : ((precedence_Reduce.f kj2 a0 t443).bind fun bt446 => ((swarfref29_Reduce.f kj2 a0 l1).bind fun bt450 => (if t436 = t440 then (if bt446.2 = bt450.2 then ((swarfref29_Pairs.f kj2 t435 t439).bind fun t454 => (if t454 = true then ((swarfref29_Pairs.f kj2 bt446.1 bt450.1).bind fun t455 => (some t455)) else (some false))) else (some false)) else (some false)))) = some r := H
    have A15 := aK A150; clear A150; replace H := oB_ H
    obtain ⟨⟨t446, t447⟩, A160, H⟩ := H
    replace H : ((swarfref29_Reduce.f kj2 a0 l1).bind fun bt450 => (if t436 = t440 then (if t447 = bt450.2 then ((swarfref29_Pairs.f kj2 t435 t439).bind fun t454 => (if t454 = true then ((swarfref29_Pairs.f kj2 t446 bt450.1).bind fun t455 => (some t455)) else (some false))) else (some false)) else (some false))) = some r := H
    have A16 := aK A160; clear A160; replace H := oB_ H
    obtain ⟨⟨t450, t451⟩, A170, H⟩ := H
    replace H : (if t436 = t440 then (if t447 = t451 then ((swarfref29_Pairs.f kj2 t435 t439).bind fun t454 => (if t454 = true then ((swarfref29_Pairs.f kj2 t446 t450).bind fun t455 => (some t455)) else (some false))) else (some false)) else (some false)) = some r := H
    have A17 := aK A170; clear A170
    by_cases c18 : t436 = t440
    ·rw [if_pos c18] at H
     have c18b0 : (t436 == t440) = true := beq_iff_eq.mpr c18
     have c18b1 : (t436 != t440) = false := bne_eq_false_iff_eq.mpr c18
     clear c18
     by_cases c19 : t447 = t451
     ·rw [if_pos c19] at H
      have c19b0 : (t447 == t451) = true := beq_iff_eq.mpr c19
      have c19b1 : (t447 != t451) = false := bne_eq_false_iff_eq.mpr c19
      clear c19; replace H := oB_ H
      obtain ⟨t454, A200, H⟩ := H
      replace H : (if t454 = true then ((swarfref29_Pairs.f kj2 t446 t450).bind fun t455 => (some t455)) else (some false)) = some r := H
      have A20 := aK A200; clear A200
      by_cases c21 : t454 = true
      ·subst c21
       have H1 : ((swarfref29_Pairs.f kj2 t446 t450).bind fun t455 => (some t455)) = some r := by rw [if_pos rfl] at H; exact H
       clear H; have H := H1; clear H1; replace H := oB_ H
       obtain ⟨t455, A220, H⟩ := H
       replace H : (some t455) = some r := H
       have A22 := aK A220; clear A220; obtain rfl := Option.some.inj H
       go_wp2_with (first | ((with_reducible refine gate_callee (f := 15) rfl ?_); refine goesL_ (some 25) rfl rfl Try.func15 (by kernel_rfl) rfl #[.slice A1 l1.length c1] rfl (by (try simp only [List.map_toArray, List.map_cons, List.map_nil]); first | done | rfl | (simp only [List.length_drop, List.length_take]; rfl)) ?_; (with_reducible refine (swarflaw29_cp.calls _ _ l1 t432 _ ?side1 ?side2 A12.out).mono ?_); (case side1 => repeat (first | exact (Kd.C_below HR1.out HB.out) | (with_reducible refine Kd.C_alloc ?_ _) | (with_reducible refine Kd.C_drewN ?_ _) | (with_reducible refine Kd.C_drew ?_))); (case side2 => exact HC1.out); rintro e w23 ⟨v433, rfl, ho0, hb⟩; refine ⟨_, rfl, ?_⟩; have n0_ := aK (Kd.R_lower ho0 (bZ_ (by repeat (first | (with_reducible first | exact HB.out | apply bA_ | apply bN_ | apply bD_) | exact HB.out)))); have n1_ := aK (bT_ (by repeat (first | (with_reducible first | exact HB.out | apply bA_ | apply bN_ | apply bD_) | exact HB.out)) hb); clear HB; have HO434 := n0_; have HB := n1_; clear n0_ n1_; (try clear hb); (try clear hb2); (try clear hk); (try clear hi); (try clear ho0); obtain ⟨Ao24, co24, eo24⟩ := Kd.R_slice HO434.out; subst eo24) | ((with_reducible refine gate_callee (f := 16) rfl ?_); refine goesL_ (some 26) rfl rfl Try.func16 (by kernel_rfl) rfl #[.int .i64 a0, .slice Ao24 t432.length co24] rfl (by (try simp only [List.map_toArray, List.map_cons, List.map_nil]); first | done | rfl | (simp only [List.length_drop, List.length_take]; rfl)) ?_; (with_reducible refine (precedence_Closure.calls kj2 a0 _ _ t432 t435 t436 _ ?side1 ?side2 A13.out).mono ?_); (case side1 => repeat (first | exact (Kd.R_reads' HO434.out).2.2 | (with_reducible refine Kd.C_alloc ?_ _) | (with_reducible refine Kd.C_drewN ?_ _) | (with_reducible refine Kd.C_drew ?_))); (case side2 => exact (Kd.R_reads' HO434.out).2.1); rintro e w25 ⟨v437, rfl, ho0, hb⟩; refine ⟨_, rfl, ?_⟩; have n0_ := aK (Kd.R_elder' (by (with_reducible repeat (first | apply Kd.R_alloc | apply Kd.R_drewN | apply Kd.R_drew)); exact HO434.out) (Kd.R_base ho0) hb); have n1_ := aK (Kd.R_lower (Kd.R_new' ho0 (Kd.R_lt (by (with_reducible repeat (first | apply Kd.R_alloc | apply Kd.R_drewN | apply Kd.R_drew)); exact HO434.out))) (bZ_ (by repeat (first | (with_reducible first | exact HB.out | apply bA_ | apply bN_ | apply bD_) | exact HB.out)))); have n2_ := aK (bT_ (by repeat (first | (with_reducible first | exact HB.out | apply bA_ | apply bN_ | apply bD_) | exact HB.out)) hb); clear HO434; clear HB; have HO434 := n0_; have HO438 := n1_; have HB := n2_; clear n0_ n1_ n2_; (try clear hb); (try clear hb2); (try clear hk); (try clear hi); (try clear ho0)) | ((with_reducible refine gate_callee (f := 32) rfl ?_); refine goesL_ (some 32) rfl rfl Try.func32 (by kernel_rfl) rfl #[.int .i64 a0, .slice A1 l1.length c1] rfl (by (try simp only [List.map_toArray, List.map_cons, List.map_nil]); first | done | rfl | (simp only [List.length_drop, List.length_take]; rfl)) ?_; (with_reducible refine (swarfref29_Closure.calls kj2 a0 _ _ l1 t439 t440 _ ?side1 ?side2 A14.out).mono ?_); (case side1 => repeat (first | exact (Kd.C_below HR1.out HB.out) | (with_reducible refine Kd.C_alloc ?_ _) | (with_reducible refine Kd.C_drewN ?_ _) | (with_reducible refine Kd.C_drew ?_))); (case side2 => exact HC1.out); rintro e w26 ⟨v441, rfl, ho0, hb⟩; refine ⟨_, rfl, ?_⟩; have n0_ := aK (Kd.R_elder' (by (with_reducible repeat (first | apply Kd.R_alloc | apply Kd.R_drewN | apply Kd.R_drew)); exact HO434.out) (Kd.R_base ho0) hb); have n1_ := aK (Kd.R_elder' (by (with_reducible repeat (first | apply Kd.R_alloc | apply Kd.R_drewN | apply Kd.R_drew)); exact HO438.out) (Kd.R_base ho0) hb); have n2_ := aK (Kd.R_lower (Kd.R_new' (Kd.R_new' ho0 (Kd.R_lt (by (with_reducible repeat (first | apply Kd.R_alloc | apply Kd.R_drewN | apply Kd.R_drew)); exact HO434.out))) (Kd.R_lt (by (with_reducible repeat (first | apply Kd.R_alloc | apply Kd.R_drewN | apply Kd.R_drew)); exact HO438.out))) (bZ_ (by repeat (first | (with_reducible first | exact HB.out | apply bA_ | apply bN_ | apply bD_) | exact HB.out)))); have n3_ := aK (bT_ (by repeat (first | (with_reducible first | exact HB.out | apply bA_ | apply bN_ | apply bD_) | exact HB.out)) hb); clear HO434; clear HO438; clear HB; have HO434 := n0_; have HO438 := n1_; have HO442 := n2_; have HB := n3_; clear n0_ n1_ n2_ n3_; (try clear hb); (try clear hb2); (try clear hk); (try clear hi); (try clear ho0)) | ((with_reducible refine gate_callee (f := 15) rfl ?_); refine goesL_ (some 38) rfl rfl Try.func15 (by kernel_rfl) rfl #[.slice A1 l1.length c1] rfl (by (try simp only [List.map_toArray, List.map_cons, List.map_nil]); first | done | rfl | (simp only [List.length_drop, List.length_take]; rfl)) ?_; (with_reducible refine (swarflaw29_cp.calls _ _ l1 t443 _ ?side1 ?side2 A15.out).mono ?_); (case side1 => repeat (first | exact (Kd.C_below HR1.out HB.out) | (with_reducible refine Kd.C_alloc ?_ _) | (with_reducible refine Kd.C_drewN ?_ _) | (with_reducible refine Kd.C_drew ?_))); (case side2 => exact HC1.out); rintro e w27 ⟨v444, rfl, ho0, hb⟩; refine ⟨_, rfl, ?_⟩; have n0_ := aK (Kd.R_elder' (by (with_reducible repeat (first | apply Kd.R_alloc | apply Kd.R_drewN | apply Kd.R_drew)); exact HO434.out) (Kd.R_base ho0) hb); have n1_ := aK (Kd.R_elder' (by (with_reducible repeat (first | apply Kd.R_alloc | apply Kd.R_drewN | apply Kd.R_drew)); exact HO438.out) (Kd.R_base ho0) hb); have n2_ := aK (Kd.R_elder' (by (with_reducible repeat (first | apply Kd.R_alloc | apply Kd.R_drewN | apply Kd.R_drew)); exact HO442.out) (Kd.R_base ho0) hb); have n3_ := aK (Kd.R_lower (Kd.R_new' (Kd.R_new' (Kd.R_new' ho0 (Kd.R_lt (by (with_reducible repeat (first | apply Kd.R_alloc | apply Kd.R_drewN | apply Kd.R_drew)); exact HO434.out))) (Kd.R_lt (by (with_reducible repeat (first | apply Kd.R_alloc | apply Kd.R_drewN | apply Kd.R_drew)); exact HO438.out))) (Kd.R_lt (by (with_reducible repeat (first | apply Kd.R_alloc | apply Kd.R_drewN | apply Kd.R_drew)); exact HO442.out))) (bZ_ (by repeat (first | (with_reducible first | exact HB.out | apply bA_ | apply bN_ | apply bD_) | exact HB.out)))); have n4_ := aK (bT_ (by repeat (first | (with_reducible first | exact HB.out | apply bA_ | apply bN_ | apply bD_) | exact HB.out)) hb); clear HO434; clear HO438; clear HO442; clear HB; have HO434 := n0_; have HO438 := n1_; have HO442 := n2_; have HO445 := n3_; have HB := n4_; clear n0_ n1_ n2_ n3_ n4_; (try clear hb); (try clear hb2); (try clear hk); (try clear hi); (try clear ho0); obtain ⟨Ao28, co28, eo28⟩ := Kd.R_slice HO445.out; subst eo28) | ((with_reducible refine gate_callee (f := 14) rfl ?_); refine goesL_ (some 39) rfl rfl Try.func14 (by kernel_rfl) rfl #[.int .i64 a0, .slice Ao28 t443.length co28] rfl (by (try simp only [List.map_toArray, List.map_cons, List.map_nil]); first | done | rfl | (simp only [List.length_drop, List.length_take]; rfl)) ?_; (with_reducible refine (precedence_Reduce.calls kj2 a0 _ _ t443 t446 t447 _ ?side1 ?side2 A16.out).mono ?_); (case side1 => repeat (first | exact (Kd.R_reads' HO445.out).2.2 | (with_reducible refine Kd.C_alloc ?_ _) | (with_reducible refine Kd.C_drewN ?_ _) | (with_reducible refine Kd.C_drew ?_))); (case side2 => exact (Kd.R_reads' HO445.out).2.1); rintro e w29 ⟨v448, rfl, ho0, hb⟩; refine ⟨_, rfl, ?_⟩; have n0_ := aK (Kd.R_elder' (by (with_reducible repeat (first | apply Kd.R_alloc | apply Kd.R_drewN | apply Kd.R_drew)); exact HO434.out) (Kd.R_base ho0) hb); have n1_ := aK (Kd.R_elder' (by (with_reducible repeat (first | apply Kd.R_alloc | apply Kd.R_drewN | apply Kd.R_drew)); exact HO438.out) (Kd.R_base ho0) hb); have n2_ := aK (Kd.R_elder' (by (with_reducible repeat (first | apply Kd.R_alloc | apply Kd.R_drewN | apply Kd.R_drew)); exact HO442.out) (Kd.R_base ho0) hb); have n3_ := aK (Kd.R_elder' (by (with_reducible repeat (first | apply Kd.R_alloc | apply Kd.R_drewN | apply Kd.R_drew)); exact HO445.out) (Kd.R_base ho0) hb); have n4_ := aK (Kd.R_lower (Kd.R_new' (Kd.R_new' (Kd.R_new' (Kd.R_new' ho0 (Kd.R_lt (by (with_reducible repeat (first | apply Kd.R_alloc | apply Kd.R_drewN | apply Kd.R_drew)); exact HO434.out))) (Kd.R_lt (by (with_reducible repeat (first | apply Kd.R_alloc | apply Kd.R_drewN | apply Kd.R_drew)); exact HO438.out))) (Kd.R_lt (by (with_reducible repeat (first | apply Kd.R_alloc | apply Kd.R_drewN | apply Kd.R_drew)); exact HO442.out))) (Kd.R_lt (by (with_reducible repeat (first | apply Kd.R_alloc | apply Kd.R_drewN | apply Kd.R_drew)); exact HO445.out))) (bZ_ (by repeat (first | (with_reducible first | exact HB.out | apply bA_ | apply bN_ | apply bD_) | exact HB.out)))); have n5_ := aK (bT_ (by repeat (first | (with_reducible first | exact HB.out | apply bA_ | apply bN_ | apply bD_) | exact HB.out)) hb); clear HO434; clear HO438; clear HO442; clear HO445; clear HB; have HO434 := n0_; have HO438 := n1_; have HO442 := n2_; have HO445 := n3_; have HO449 := n4_; have HB := n5_; clear n0_ n1_ n2_ n3_ n4_ n5_; (try clear hb); (try clear hb2); (try clear hk); (try clear hi); (try clear ho0)) | ((with_reducible refine gate_callee (f := 33) rfl ?_); refine goesL_ (some 45) rfl rfl Try.func33 (by kernel_rfl) rfl #[.int .i64 a0, .slice A1 l1.length c1] rfl (by (try simp only [List.map_toArray, List.map_cons, List.map_nil]); first | done | rfl | (simp only [List.length_drop, List.length_take]; rfl)) ?_; (with_reducible refine (swarfref29_Reduce.calls kj2 a0 _ _ l1 t450 t451 _ ?side1 ?side2 A17.out).mono ?_); (case side1 => repeat (first | exact (Kd.C_below HR1.out HB.out) | (with_reducible refine Kd.C_alloc ?_ _) | (with_reducible refine Kd.C_drewN ?_ _) | (with_reducible refine Kd.C_drew ?_))); (case side2 => exact HC1.out); rintro e w30 ⟨v452, rfl, ho0, hb⟩; refine ⟨_, rfl, ?_⟩; have n0_ := aK (Kd.R_elder' (by (with_reducible repeat (first | apply Kd.R_alloc | apply Kd.R_drewN | apply Kd.R_drew)); exact HO434.out) (Kd.R_base ho0) hb); have n1_ := aK (Kd.R_elder' (by (with_reducible repeat (first | apply Kd.R_alloc | apply Kd.R_drewN | apply Kd.R_drew)); exact HO438.out) (Kd.R_base ho0) hb); have n2_ := aK (Kd.R_elder' (by (with_reducible repeat (first | apply Kd.R_alloc | apply Kd.R_drewN | apply Kd.R_drew)); exact HO442.out) (Kd.R_base ho0) hb); have n3_ := aK (Kd.R_elder' (by (with_reducible repeat (first | apply Kd.R_alloc | apply Kd.R_drewN | apply Kd.R_drew)); exact HO445.out) (Kd.R_base ho0) hb); have n4_ := aK (Kd.R_elder' (by (with_reducible repeat (first | apply Kd.R_alloc | apply Kd.R_drewN | apply Kd.R_drew)); exact HO449.out) (Kd.R_base ho0) hb); have n5_ := aK (Kd.R_lower (Kd.R_new' (Kd.R_new' (Kd.R_new' (Kd.R_new' (Kd.R_new' ho0 (Kd.R_lt (by (with_reducible repeat (first | apply Kd.R_alloc | apply Kd.R_drewN | apply Kd.R_drew)); exact HO434.out))) (Kd.R_lt (by (with_reducible repeat (first | apply Kd.R_alloc | apply Kd.R_drewN | apply Kd.R_drew)); exact HO438.out))) (Kd.R_lt (by (with_reducible repeat (first | apply Kd.R_alloc | apply Kd.R_drewN | apply Kd.R_drew)); exact HO442.out))) (Kd.R_lt (by (with_reducible repeat (first | apply Kd.R_alloc | apply Kd.R_drewN | apply Kd.R_drew)); exact HO445.out))) (Kd.R_lt (by (with_reducible repeat (first | apply Kd.R_alloc | apply Kd.R_drewN | apply Kd.R_drew)); exact HO449.out))) (bZ_ (by repeat (first | (with_reducible first | exact HB.out | apply bA_ | apply bN_ | apply bD_) | exact HB.out)))); have n6_ := aK (bT_ (by repeat (first | (with_reducible first | exact HB.out | apply bA_ | apply bN_ | apply bD_) | exact HB.out)) hb); clear HO434; clear HO438; clear HO442; clear HO445; clear HO449; clear HB; have HO434 := n0_; have HO438 := n1_; have HO442 := n2_; have HO445 := n3_; have HO449 := n4_; have HO453 := n5_; have HB := n6_; clear n0_ n1_ n2_ n3_ n4_ n5_ n6_; (try clear hb); (try clear hb2); (try clear hk); (try clear hi); (try clear ho0); obtain ⟨Ao31, co31, eo31⟩ := Kd.R_slice HO438.out; subst eo31; obtain ⟨Ao32, co32, eo32⟩ := Kd.R_slice HO442.out; subst eo32) | (go_at_call 17; (with_reducible refine (swarfref29_Pairs.calls kj2 _ _ t435 _ _ t439 true _ ?side1 ?side2 ?side3 ?side4 A20.out).mono ?_); (case side1 => repeat (first | exact (Kd.R_reads' HO438.out).2.2 | (with_reducible refine Kd.C_alloc ?_ _) | (with_reducible refine Kd.C_drewN ?_ _) | (with_reducible refine Kd.C_drew ?_))); (case side2 => exact (Kd.R_reads' HO438.out).2.1); (case side3 => repeat (first | exact (Kd.R_reads' HO442.out).2.2 | (with_reducible refine Kd.C_alloc ?_ _) | (with_reducible refine Kd.C_drewN ?_ _) | (with_reducible refine Kd.C_drew ?_))); (case side4 => exact (Kd.R_reads' HO442.out).2.1); rintro e w' ⟨rfl, ⟨nd, rfl⟩⟩; obtain ⟨Ao33, co33, eo33⟩ := Kd.R_slice HO449.out; subst eo33; obtain ⟨Ao34, co34, eo34⟩ := Kd.R_slice HO453.out; subst eo34) | (go_at_call 17; (with_reducible refine (swarfref29_Pairs.calls kj2 _ _ t446 _ _ t450 t455 _ ?side1 ?side2 ?side3 ?side4 A22.out).mono ?_); (case side1 => repeat (first | exact (Kd.R_reads' HO449.out).2.2 | (with_reducible refine Kd.C_alloc ?_ _) | (with_reducible refine Kd.C_drewN ?_ _) | (with_reducible refine Kd.C_drew ?_))); (case side2 => exact (Kd.R_reads' HO449.out).2.1); (case side3 => repeat (first | exact (Kd.R_reads' HO453.out).2.2 | (with_reducible refine Kd.C_alloc ?_ _) | (with_reducible refine Kd.C_drewN ?_ _) | (with_reducible refine Kd.C_drew ?_))); (case side4 => exact (Kd.R_reads' HO453.out).2.1); rintro e w' ⟨rfl, ⟨nd, rfl⟩⟩))
       go_ret
       exact ⟨by first | rfl | (simp [errW_none, errW_some] <;> rfl) | (simp [*, errW_none, errW_some] <;> rfl), by repeat (first | (with_reducible first | exact HB.out | apply bA_ | apply bN_ | apply bD_) | exact HB.out)⟩
      ·replace c21 := Bool.eq_false_iff.mpr c21
       subst c21
       have H1 : (some false) = some r := by rw [if_neg (show ¬ (false = true) by decide)] at H; exact H
       clear H; have H := H1; clear H1
       (rw [HRT.out] at H; exact absurd H (by decide))
     ·rw [if_neg c19] at H
      have c19b0 : (t447 == t451) = false := beq_eq_false_iff_ne.mpr c19
      have c19b1 : (t447 != t451) = true := bne_iff_ne.mpr c19
      (rw [HRT.out] at H; exact absurd H (by decide))
    ·rw [if_neg c18] at H
     have c18b0 : (t436 == t440) = false := beq_eq_false_iff_ne.mpr c18
     have c18b1 : (t436 != t440) = true := bne_iff_ne.mpr c18
     (rw [HRT.out] at H; exact absurd H (by decide))
end Go.Proofs.Ytbbkclcfmcjlgaa.P


namespace Go.Proofs.Ytbbkclcfmcjlgaa.B
open Go.RowKit Go.Proofs.Ytbbkclcfmcjlgaa.P Go.Proofs.YtbbkclcfmcjlgaaW.PrintWords Go.Proofs.YtbbkclcfmcjlgaaW.PrintLast
theorem awake_ev : Ev (fun k => swarflaw29_awake.f k) true := Ev.of swarflaw29_awake.mono swarflaw29_awake.small
end Go.Proofs.Ytbbkclcfmcjlgaa.B



namespace Go.Proofs.Ytbbkclcfmcjlgaa.P
open Go.RowKit Go.Proofs.YtbbkclcfmcjlgaaW.PrintWords Go.Proofs.YtbbkclcfmcjlgaaW.PrintLast Go.Proofs.YtbbkclcfmcjlgaaW.PrintMore
attribute [local go_sem] max2_int min2_int max_two min_two max_three min_three max_four min_four
set_option linter.unusedVariables false
set_option linter.unusedSimpArgs false

def swarfref29_ready.l0 : Nat → List (S47) → List Int → Int → Int → Option (Bool)
 | 0, _, _, _, _ => none
 | k + 1, x0, x1, x2, x7 => if x7 < (x0.length : Int) then (if 0 ≤ x7 then (if ((rd_T47 x0 x7).f1) = x2 then ((swarfref29_in.f k x1 ((rd_T47 x0 x7).f0)).bind fun t241 => (if t241 = true then (swarfref29_ready.l0 k x0 x1 x2 (wrap64 (x7 + 1))) else (some false))) else (swarfref29_ready.l0 k x0 x1 x2 (wrap64 (x7 + 1)))) else (none)) else (some true)
def swarfref29_ready.f (k : Nat) (l0 : List (S47)) (l1 : List Int) (a2 : Int) : Option (Bool) := swarfref29_ready.l0 k l0 l1 a2 0
set_option maxHeartbeats 8000000 in
set_option maxRecDepth 100000 in
theorem swarfref29_ready.calls (k : Nat) (A0 : Option Addr) (c0 : Nat) (l0 : List (S47)) (A1 : Option Addr) (c1 : Nat) (l1 : List Int) (a2 : Int) (r : Bool) (w : World) (hr0 : Kd.C k47 w A0 l0.length l0) (hc0 : l0.length ≤ c0) (hr1 : Kd.C (Kd.int .i64) w A1 l1.length l1) (hc1 : l1.length ≤ c1) (h : swarfref29_ready.f k l0 l1 a2 = some r) :
  Calls Try.prog 41 #[.slice A0 l0.length c0, .slice A1 l1.length c1, .int .i64 a2] w fun e w' => e = .returned (.bool r) ∧ Drawn0 w w' := by
 have HR0 := aK hr0
 have HC0 := aK hc0
 clear hr0 hc0
 have HR1 := aK hr1
 have HC1 := aK hc1
 clear hr1 hc1
 have H : (swarfref29_ready.l0 k l0 l1 a2 0) = some r := h
 clear h
 have H' := aK H
 clear H
 go_enter Try.func41, Try.ntmps41
 go_wp2
 go_loopg [7] k (fun kq v7 w' => ∃ (x7_1 : Int), v7 = .int .i64 x7_1 ∧ Aside0 (swarfref29_ready.l0 kq l0 l1 a2 x7_1 = some r) ∧ Aside0 (kq ≤ k) ∧ Drawn0 w w')
 case atStart => exact ⟨(0), (by first | rfl | (simp; done) | (simp [*]; done)), H', ⟨Nat.le_refl _⟩, by repeat (first | exact Drawn0.refl _ | apply Drawn0.step)⟩
 case round =>
  clear H'; try clear c1; try clear p2
  obtain ⟨x7_1, rfl, HA, HK1, ⟨m1, rfl⟩⟩ := hrel
  cases gk with
  | zero => exact absurd HA.out (by simp [swarfref29_ready.l0])
  | succ k1 =>
   have H := HA.out
   clear HA
   simp only [swarfref29_ready.l0] at H
   by_cases c4 : x7_1 < (l0.length : Int)
   ·rw [if_pos c4] at H
    have c4b0 : decide (x7_1 < (l0.length : Int)) = true := decide_eq_true c4
    clear c4
    by_cases c5 : 0 ≤ x7_1
    ·rw [if_pos c5] at H
     have c5b0 : decide (0 ≤ x7_1) = true := decide_eq_true c5
     clear c5
     by_cases c6 : ((rd_T47 l0 x7_1).f1) = a2
     ·rw [if_pos c6] at H
      have c6b0 : (((rd_T47 l0 x7_1).f1) == a2) = true := beq_iff_eq.mpr c6
      have c6b1 : (((rd_T47 l0 x7_1).f1) != a2) = false := bne_eq_false_iff_eq.mpr c6
      clear c6; replace H := oB_ H
      obtain ⟨t241, A70, H⟩ := H
      replace H : (if t241 = true then (swarfref29_ready.l0 k1 l0 l1 a2 (wrap64 (x7_1 + 1))) else (some false)) = some r := H
      have A7 := aK A70; clear A70
      by_cases c8 : t241 = true
      ·subst c8
       have H1 : (swarfref29_ready.l0 k1 l0 l1 a2 (wrap64 (x7_1 + 1))) = some r := by rw [if_pos rfl] at H; exact H
       clear H; have H := H1; clear H1; have H' := aK H; clear H
       have p239 : 0 ≤ (x7_1 : Int) := of_decide_eq_true (by first | (with_reducible assumption) | assumption)
       have q239 : x7_1 < (l0.length : Int) := of_decide_eq_true (by first | (with_reducible assumption) | assumption)
       obtain ⟨ad239, e239, hx239_0, hx239_1⟩ := at_T47 HR0.out x7_1 p239 q239
       cases e239; replace p239 := eq_true p239; replace q239 := eq_true q239
       have p240 : 0 ≤ (x7_1 : Int) := of_decide_eq_true (by first | (with_reducible assumption) | assumption)
       have q240 : x7_1 < (l0.length : Int) := of_decide_eq_true (by first | (with_reducible assumption) | assumption)
       obtain ⟨ad240, e240, hx240_0, hx240_1⟩ := at_T47 HR0.out x7_1 p240 q240
       obtain rfl : ad239 = ad240 := (by injection e240)
       replace p240 := eq_true p240; replace q240 := eq_true q240
       go_wp2_with (first | (go_at_call 40; (with_reducible refine (swarfref29_in.calls k1 _ _ l1 ((rd_T47 l0 x7_1).f0) true _ ?side1 ?side2 A7.out).mono ?_); (case side1 => repeat (first | exact HR1.out | (with_reducible refine Kd.C_alloc ?_ _) | (with_reducible refine Kd.C_drewN ?_ _) | (with_reducible refine Kd.C_drew ?_))); (case side2 => exact HC1.out); rintro e w' ⟨rfl, ⟨nd, rfl⟩⟩))
       go_roundg k1
       case measure => have := HK1.out; omega
       case rel => exact ⟨(wrap64 (x7_1 + 1)), (by first | rfl | (simp; done) | (simp [*]; done)), H', ⟨by have := HK1.out; omega⟩, by repeat (first | exact Drawn0.refl _ | apply Drawn0.step)⟩
      ·replace c8 := Bool.eq_false_iff.mpr c8
       subst c8
       have H1 : (some false) = some r := by rw [if_neg (show ¬ (false = true) by decide)] at H; exact H
       clear H; have H := H1; clear H1; obtain rfl := Option.some.inj H
       have p239 : 0 ≤ (x7_1 : Int) := of_decide_eq_true (by first | (with_reducible assumption) | assumption)
       have q239 : x7_1 < (l0.length : Int) := of_decide_eq_true (by first | (with_reducible assumption) | assumption)
       obtain ⟨ad239, e239, hx239_0, hx239_1⟩ := at_T47 HR0.out x7_1 p239 q239
       cases e239; replace p239 := eq_true p239; replace q239 := eq_true q239
       have p240 : 0 ≤ (x7_1 : Int) := of_decide_eq_true (by first | (with_reducible assumption) | assumption)
       have q240 : x7_1 < (l0.length : Int) := of_decide_eq_true (by first | (with_reducible assumption) | assumption)
       obtain ⟨ad240, e240, hx240_0, hx240_1⟩ := at_T47 HR0.out x7_1 p240 q240
       obtain rfl : ad239 = ad240 := (by injection e240)
       replace p240 := eq_true p240; replace q240 := eq_true q240
       go_wp2_with (first | (go_at_call 40; (with_reducible refine (swarfref29_in.calls k1 _ _ l1 ((rd_T47 l0 x7_1).f0) false _ ?side1 ?side2 A7.out).mono ?_); (case side1 => repeat (first | exact HR1.out | (with_reducible refine Kd.C_alloc ?_ _) | (with_reducible refine Kd.C_drewN ?_ _) | (with_reducible refine Kd.C_drew ?_))); (case side2 => exact HC1.out); rintro e w' ⟨rfl, ⟨nd, rfl⟩⟩))
       go_ret
       exact ⟨by first | rfl | (simp; done) | (simp [*]; done), by repeat (first | exact Drawn0.refl _ | apply Drawn0.step)⟩
     ·rw [if_neg c6] at H
      have c6b0 : (((rd_T47 l0 x7_1).f1) == a2) = false := beq_eq_false_iff_ne.mpr c6
      have c6b1 : (((rd_T47 l0 x7_1).f1) != a2) = true := bne_iff_ne.mpr c6
      have H' := aK H; clear H
      have p239 : 0 ≤ (x7_1 : Int) := of_decide_eq_true (by first | (with_reducible assumption) | assumption)
      have q239 : x7_1 < (l0.length : Int) := of_decide_eq_true (by first | (with_reducible assumption) | assumption)
      obtain ⟨ad239, e239, hx239_0, hx239_1⟩ := at_T47 HR0.out x7_1 p239 q239
      cases e239; replace p239 := eq_true p239; replace q239 := eq_true q239; go_wp2
      go_roundg k1
      case measure => have := HK1.out; omega
      case rel => exact ⟨(wrap64 (x7_1 + 1)), (by first | rfl | (simp; done) | (simp [*]; done)), H', ⟨by have := HK1.out; omega⟩, by repeat (first | exact Drawn0.refl _ | apply Drawn0.step)⟩
    ·rw [if_neg c5] at H
     exact absurd H (by simp)
   ·rw [if_neg c4] at H
    have c4b0 : decide (x7_1 < (l0.length : Int)) = false := decide_eq_false c4
    clear c4; obtain rfl := Option.some.inj H; go_wp2; go_ret
    exact ⟨by first | rfl | (simp; done) | (simp [*]; done), by repeat (first | exact Drawn0.refl _ | apply Drawn0.step)⟩

end Go.Proofs.Ytbbkclcfmcjlgaa.P



namespace Go.Proofs.Ytbbkclcfmcjlgaa.B
open Go.RowKit Go.Proofs.Ytbbkclcfmcjlgaa.P Go.Proofs.YtbbkclcfmcjlgaaW.PrintWords Go.Proofs.YtbbkclcfmcjlgaaW.PrintLast Go.Proofs.YtbbkclcfmcjlgaaW.PrintMore
set_option linter.unusedVariables false
set_option linter.unusedSimpArgs false

theorem wrap_mid (x : Int) (h0 : -4000000000000000 ≤ x) (h1 : x ≤ 4000000000000000) : wrap64 x = x := by unfold wrap64; omega
theorem wrap_succ (x : Int) (h0 : 0 ≤ x) (h1 : x ≤ 1000000000000000) : wrap64 (x + 1) = x + 1 := wrap_mid _ (by omega) (by omega)
theorem ev_end {α : Type} {g : Nat → Option α} {r : α} (h : ∀ k, g (k + 1) = some r) : Ev g r := Ev.step (f := fun _ => some r) h (Ev.now r)
def EvP {α : Type} (g : Nat → Option α) (Post : α → Prop) : Prop := ∃ r, Ev g r ∧ Post r
theorem EvP.step {α : Type} {g f : Nat → Option α} {Post : α → Prop} (h : ∀ k, g (k + 1) = f k) (k : EvP f Post) : EvP g Post := by
 obtain ⟨r, h1, h2⟩ := k
 exact ⟨r, Ev.step h h1, h2⟩
theorem EvP.stop {α : Type} {g : Nat → Option α} {Post : α → Prop} (r : α) (h : ∀ k, g (k + 1) = some r) (hp : Post r) : EvP g Post := ⟨r, ev_end h, hp⟩
theorem EvP.bind {α β : Type} {g : Nat → Option α} {f : Nat → α → Option β} {a : α} {Post : β → Prop} (h : Ev g a) (k : EvP (fun n => f n a) Post) : EvP (fun n => (g n).bind (f n)) Post := by
 obtain ⟨r, h1, h2⟩ := k
 exact ⟨r, Ev.bind h h1, h2⟩
theorem EvP.bindP {α β : Type} {g : Nat → Option α} {f : Nat → α → Option β} {P1 : α → Prop} {Post : β → Prop} (h : EvP g P1) (k : ∀ a, P1 a → EvP (fun n => f n a) Post) : EvP (fun n => (g n).bind (f n)) Post := by
 obtain ⟨a, h1, h2⟩ := h
 exact EvP.bind h1 (k a h2)
theorem EvP.mono {α : Type} {g : Nat → Option α} {P Q : α → Prop} (h : EvP g P) (hq : ∀ a, P a → Q a) : EvP g Q := by
 obtain ⟨r, h1, h2⟩ := h
 exact ⟨r, h1, hq _ h2⟩
theorem EvP.same {α : Type} {g f : Nat → Option α} {Post : α → Prop} (h : ∀ k, g k = f k) (k : EvP f Post) : EvP g Post := by
 have : g = f := funext h
 rw [this]; exact k

theorem drop_T47 (l : List S47) (j : Int) (h0 : 0 ≤ j) (h : j < (l.length : Int)) : l.drop j.toNat = rd_T47 l j :: l.drop (j + 1).toNat := by
 have h1 : j.toNat < l.length := by omega
 rw [List.drop_eq_getElem_cons h1, show (j + 1).toNat = j.toNat + 1 by omega]
 congr 1
 unfold rd_T47
 simp [List.getD, h1]
theorem drop_rd (l : List Int) (j : Int) (h0 : 0 ≤ j) (h : j < (l.length : Int)) : l.drop j.toNat = rd l j :: l.drop (j + 1).toNat := by
 have h1 : j.toNat < l.length := by omega
 rw [List.drop_eq_getElem_cons h1, show (j + 1).toNat = j.toNat + 1 by omega]
 congr 1
 unfold rd
 simp [List.getD, h1]
theorem drop_end {α : Type} (l : List α) (j : Int) (h : (l.length : Int) ≤ j) : l.drop j.toNat = [] := List.drop_eq_nil_of_le (by omega)

def okp (n : Int) (p : S47) : Bool := decide (p.f0 ≠ p.f1) && (decide (0 ≤ p.f0) && decide (p.f0 < n)) && (decide (0 ≤ p.f1) && decide (p.f1 < n))
theorem okp_iff (n : Int) (p : S47) : okp n p = true ↔ p.f0 ≠ p.f1 ∧ (0 ≤ p.f0 ∧ p.f0 < n) ∧ (0 ≤ p.f1 ∧ p.f1 < n) := by simp [okp, and_assoc]
def vErr (n : Int) (l : List S47) : Int := if n > 200 ∨ (l.length : Int) > 2000 then 3 else if n < 0 then 1 else if l.all (okp n) = true then 0 else 1
theorem vErr_zero {n : Int} {l : List S47} (h : vErr n l = 0) : 0 ≤ n ∧ n ≤ 200 ∧ l.length ≤ 2000 ∧ ∀ p ∈ l, okp n p = true := by
 unfold vErr at h
 split at h
 ·cases h
 ·split at h
  ·cases h
  ·split at h
   ·rename_i h1 h2 h3
    refine ⟨by omega, by omega, by omega, ?_⟩
    rw [List.all_eq_true] at h3
    exact h3
   ·cases h
theorem valid_l0 (n : Int) (l : List S47) (hn : l.length ≤ 100000000000000) (d : Nat) : ∀ j : Int, 0 ≤ j → j + d = l.length → Ev (fun k => precedence_Valid.l0 k n l (l.length : Int) j) (if (l.drop j.toNat).all (okp n) = true then 0 else 1) := by
 induction d with
 | zero =>
  intro j h0 hj
  rw [drop_end l j (by omega)]
  exact ev_end (fun k => by simp only [precedence_Valid.l0]; rw [if_neg (by omega)]; rfl)
 | succ d ih =>
  intro j h0 hj
  have hw := wrap_succ j h0 (by omega)
  rw [drop_T47 l j h0 (by omega)]
  generalize hp : rd_T47 l j = p
  by_cases ho : okp n p = true
  ·have hi := ih (j + 1) (by omega) (by omega)
   rw [List.all_cons, ho, Bool.true_and]
   refine Ev.step (fun k => ?_) hi
   rw [okp_iff] at ho
   simp only [precedence_Valid.l0]
   rw [if_pos (by omega), if_pos (by omega), if_pos (by omega), hp, if_neg ho.1, if_neg (by unfold mn; split <;> omega), if_neg (by unfold mx; split <;> omega), hw]
  ·rw [List.all_cons, show okp n p = false by simpa using ho, Bool.false_and]
   refine ev_end (fun k => ?_)
   rw [okp_iff] at ho
   simp only [precedence_Valid.l0]
   rw [if_pos (by omega), if_pos (by omega), if_pos (by omega), hp]
   by_cases h1 : p.f0 = p.f1
   ·rw [if_pos h1]; rfl
   ·rw [if_neg h1]
    by_cases h2 : mn p.f0 p.f1 < 0
    ·rw [if_pos h2]; rfl
    ·rw [if_neg h2, if_pos (by unfold mn at h2; unfold mx; split at h2 <;> split <;> omega)]; rfl
theorem rvalid_l0 (n : Int) (l : List S47) (hn : l.length ≤ 100000000000000) (d : Nat) : ∀ j : Int, 0 ≤ j → j + d = l.length → Ev (fun k => swarfref29_Valid.l0 k n l j) (if (l.drop j.toNat).all (okp n) = true then 0 else 1) := by
 induction d with
 | zero =>
  intro j h0 hj
  rw [drop_end l j (by omega)]
  exact ev_end (fun k => by simp only [swarfref29_Valid.l0]; rw [if_neg (by omega)]; rfl)
 | succ d ih =>
  intro j h0 hj
  have hw := wrap_succ j h0 (by omega)
  rw [drop_T47 l j h0 (by omega)]
  generalize hp : rd_T47 l j = p
  by_cases ho : okp n p = true
  ·have hi := ih (j + 1) (by omega) (by omega)
   rw [List.all_cons, ho, Bool.true_and]
   refine Ev.step (fun k => ?_) hi
   rw [okp_iff] at ho
   simp only [swarfref29_Valid.l0]
   rw [if_pos (by omega), if_pos (by omega), hp, if_neg (by omega), if_neg (by omega), if_neg (by omega), if_neg (by omega), if_neg ho.1, hw]
  ·rw [List.all_cons, show okp n p = false by simpa using ho, Bool.false_and]
   refine ev_end (fun k => ?_)
   rw [okp_iff] at ho
   simp only [swarfref29_Valid.l0]
   rw [if_pos (by omega), if_pos (by omega), hp]
   by_cases h1 : p.f0 < 0
   ·rw [if_pos h1]; rfl
   ·rw [if_neg h1]
    by_cases h2 : p.f0 ≥ n
    ·rw [if_pos h2]; rfl
    ·rw [if_neg h2]
     by_cases h3 : p.f1 < 0
     ·rw [if_pos h3]; rfl
     ·rw [if_neg h3]
      by_cases h4 : p.f1 ≥ n
      ·rw [if_pos h4]; rfl
      ·rw [if_neg h4, if_pos (by omega)]; rfl
theorem valid_ev (n : Int) (l : List S47) (hn : l.length ≤ 100000000000000) : Ev (fun k => precedence_Valid.f k n l) (vErr n l) := by
 have h := valid_l0 n l hn l.length 0 (by omega) (by omega)
 rw [show (0 : Int).toNat = 0 from rfl, List.drop_zero] at h
 unfold precedence_Valid.f vErr
 by_cases c : n > 200
 ·simp only [if_pos c, if_pos (show n > 200 ∨ (l.length : Int) > 2000 from .inl c)]
  exact ev_end (fun k => by simp [precedence_Valid.j0])
 ·simp only [if_neg c]
  by_cases c2 : (l.length : Int) > 2000
  ·simp only [if_pos (show n > 200 ∨ (l.length : Int) > 2000 from .inr c2), decide_eq_true c2]
   exact ev_end (fun k => by simp [precedence_Valid.j0])
  ·simp only [if_neg (show ¬ (n > 200 ∨ (l.length : Int) > 2000) by omega), decide_eq_false c2]
   by_cases c3 : n < 0
   ·simp only [if_pos c3]
    exact ev_end (fun k => by simp [precedence_Valid.j0, c3])
   ·simp only [if_neg c3]
    refine Ev.step (fun k => ?_) h
    simp only [precedence_Valid.j0]
    rw [if_neg (by decide), if_neg c3]
theorem rvalid_ev (n : Int) (l : List S47) (hn : l.length ≤ 100000000000000) : Ev (fun k => swarfref29_Valid.f k n l) (vErr n l) := by
 have h := rvalid_l0 n l hn l.length 0 (by omega) (by omega)
 rw [show (0 : Int).toNat = 0 from rfl, List.drop_zero] at h
 unfold swarfref29_Valid.f vErr
 by_cases c : n > 200
 ·simp only [if_pos c, if_pos (show n > 200 ∨ (l.length : Int) > 2000 from .inl c)]
  exact ev_end (fun k => by simp [swarfref29_Valid.j0])
 ·simp only [if_neg c]
  by_cases c2 : (l.length : Int) > 2000
  ·simp only [if_pos (show n > 200 ∨ (l.length : Int) > 2000 from .inr c2), decide_eq_true c2]
   exact ev_end (fun k => by simp [swarfref29_Valid.j0])
  ·simp only [if_neg (show ¬ (n > 200 ∨ (l.length : Int) > 2000) by omega), decide_eq_false c2]
   by_cases c3 : n < 0
   ·simp only [if_pos c3]
    exact ev_end (fun k => by simp [swarfref29_Valid.j0, c3])
   ·simp only [if_neg c3]
    refine Ev.step (fun k => ?_) h
    simp only [swarfref29_Valid.j0]
    rw [if_neg (by decide), if_neg c3]
def fewB (n m : Int) (l : List S47) : Bool := if (l.length : Int) ≤ 60 then (if n ≤ m then true else (vErr n l != 0)) else false
theorem few_ev (n m : Int) (l : List S47) : Ev (fun k => swarflaw29_few.f k n m l) (fewB n m l) := by
 unfold swarflaw29_few.f fewB
 by_cases c : (l.length : Int) ≤ 60
 ·simp only [if_pos c]
  by_cases c2 : n ≤ m
  ·simp only [if_pos c2]; exact Ev.now _
  ·simp only [if_neg c2]
   exact Ev.bind (rvalid_ev n l (by omega)) (Ev.now _)
 ·simp only [if_neg c]; exact Ev.now _
theorem cp_eq (l : List S47) (hn : l.length < 8796093022208) : swarflaw29_cp.f l = some l := by
 unfold swarflaw29_cp.f
 simp only [Option.bind_some]
 rw [if_pos (by simpa using hn)]
 rfl

theorem S47.eta (p q : S47) : p = q ↔ p.f0 = q.f0 ∧ p.f1 = q.f1 := by
 constructor
 ·rintro rfl; exact ⟨rfl, rfl⟩
 ·cases p; cases q; rintro ⟨rfl, rfl⟩; rfl
instance : DecidableEq S47 := fun p q => if h : p.f0 = q.f0 ∧ p.f1 = q.f1 then isTrue ((S47.eta p q).2 h) else isFalse (fun e => h ((S47.eta p q).1 e))
theorem pairs_l0 (a b : List S47) (hl : a.length = b.length) (hn : a.length ≤ 100000000000000) (d : Nat) : ∀ j : Int, 0 ≤ j → j + d = a.length → Ev (fun k => swarfref29_Pairs.l0 k a b j) (decide (a.drop j.toNat = b.drop j.toNat)) := by
 induction d with
 | zero =>
  intro j h0 hj
  rw [drop_end a j (by omega), drop_end b j (by omega)]
  exact ev_end (fun k => by simp only [swarfref29_Pairs.l0]; rw [if_neg (by omega)]; rfl)
 | succ d ih =>
  intro j h0 hj
  have hw := wrap_succ j h0 (by omega)
  rw [drop_T47 a j h0 (by omega), drop_T47 b j h0 (by omega)]
  by_cases h : rd_T47 a j = rd_T47 b j
  ·have hi := ih (j + 1) (by omega) (by omega)
   rw [show decide (rd_T47 a j :: a.drop (j + 1).toNat = rd_T47 b j :: b.drop (j + 1).toNat) = decide (a.drop (j + 1).toNat = b.drop (j + 1).toNat) by simp [h]]
   refine Ev.step (fun k => ?_) hi
   simp only [swarfref29_Pairs.l0]
   rw [if_pos (by omega), if_pos (by omega), if_pos (by omega), h, if_neg (by simp), hw]
  ·rw [show decide (rd_T47 a j :: a.drop (j + 1).toNat = rd_T47 b j :: b.drop (j + 1).toNat) = false by simp [h]]
   refine ev_end (fun k => ?_)
   simp only [swarfref29_Pairs.l0]
   rw [if_pos (by omega), if_pos (by omega), if_pos (by omega), if_pos]
   rw [S47.eta] at h
   simp only [Bool.or_eq_true, Bool.not_eq_true', beq_eq_false_iff_ne]
   by_cases h1 : (rd_T47 a j).f0 = (rd_T47 b j).f0
   ·exact .inr (fun h2 => h ⟨h1, h2⟩)
   ·exact .inl h1
theorem pairs_ev (a b : List S47) (hn : a.length ≤ 100000000000000) : Ev (fun k => swarfref29_Pairs.f k a b) (decide (a = b)) := by
 unfold swarfref29_Pairs.f
 by_cases h : (a.length : Int) = b.length
 ·simp only [if_pos h]
  exact pairs_l0 a b (by omega) hn a.length 0 (by omega) (by omega)
 ·simp only [if_neg h]
  rw [show decide (a = b) = false from decide_eq_false (fun e => h (by rw [e]))]
  exact Ev.now _

def rdy (l : List S47) (o : List Int) (x : Int) : Bool := l.all fun p => decide (p.f1 = x → p.f0 ∈ o)
theorem rdy_iff (l : List S47) (o : List Int) (x : Int) : rdy l o x = true ↔ ∀ a, (⟨a, x⟩ : S47) ∈ l → a ∈ o := by
 unfold rdy
 rw [List.all_eq_true]
 constructor
 ·intro h a ha
  have := h _ ha
  simpa using this
 ·intro h p hp
  rw [decide_eq_true_iff]
  intro e
  exact h p.f0 (by rw [← e]; exact hp)
end Go.Proofs.Ytbbkclcfmcjlgaa.B

namespace Go.Proofs.Ytbbkclcfmcjlgaa.Gr
set_option linter.unusedVariables false

inductive Tc (R : Int → Int → Prop) : Int → Int → Prop
 | one {a b : Int} : R a b → Tc R a b
 | step {a c b : Int} : R a c → Tc R c b → Tc R a b
section
variable {R R' : Int → Int → Prop} {n a b c : Int}
theorem Tc.trans (h : Tc R a b) : Tc R b c → Tc R a c := by
 induction h with
 | one h => exact fun k => .step h k
 | step h _ ih => exact fun k => .step h (ih k)
theorem Tc.mono (hr : ∀ a b, R a b → R' a b) (h : Tc R a b) : Tc R' a b := by
 induction h with
 | one h => exact .one (hr _ _ h)
 | step h _ ih => exact .step (hr _ _ h) ih
def Inn (R : Int → Int → Prop) (n : Int) : Prop := ∀ a b, R a b → (0 ≤ a ∧ a < n) ∧ (0 ≤ b ∧ b < n)
theorem Tc.inn (hr : Inn R n) (h : Tc R a b) : (0 ≤ a ∧ a < n) ∧ (0 ≤ b ∧ b < n) := by
 induction h with
 | one h => exact hr _ _ h
 | step h _ ih => exact ⟨(hr _ _ h).1, ih.2⟩
theorem Tc.head (h : Tc R a b) : ∃ c, R a c ∧ (c = b ∨ Tc R c b) := by
 cases h with
 | one h => exact ⟨_, h, .inl rfl⟩
 | step h k => exact ⟨_, h, .inr k⟩
theorem Tc.of_head (h : R a c) (k : c = b ∨ Tc R c b) : Tc R a b := by
 rcases k with rfl | k
 ·exact .one h
 ·exact .step h k
inductive Pk (R : Int → Int → Prop) (k : Int) : Int → Int → Prop
 | one {a b : Int} : R a b → Pk R k a b
 | step {a c b : Int} : R a c → c < k → Pk R k c b → Pk R k a b
variable {k : Int}
theorem Pk.tc (h : Pk R k a b) : Tc R a b := by
 induction h with
 | one h => exact .one h
 | step h _ _ ih => exact .step h ih
theorem Pk.mono {k' : Int} (hk : k ≤ k') (h : Pk R k a b) : Pk R k' a b := by
 induction h with
 | one h => exact .one h
 | step h hc _ ih => exact .step h (by omega) ih
theorem Pk.of_tc (hr : Inn R n) (h : Tc R a b) : Pk R n a b := by
 induction h with
 | one h => exact .one h
 | step h _ ih => exact .step h (hr _ _ h).2.2 ih
theorem Pk.split (h : Pk R (k + 1) a b) : Pk R k a b ∨ (Pk R k a k ∧ Pk R k k b) := by
 induction h with
 | one h => exact .inl (.one h)
 | @step a c b h hc _ ih =>
  by_cases e : c = k
  ·subst e
   rcases ih with ih | ih
   ·exact .inr ⟨.one h, ih⟩
   ·exact .inr ⟨.one h, ih.2⟩
  ·have hc' : c < k := by omega
   rcases ih with ih | ih
   ·exact .inl (.step h hc' ih)
   ·exact .inr ⟨.step h hc' ih.1, ih.2⟩
theorem Pk.zero (hr : Inn R n) (h : Pk R 0 a b) : R a b := by
 cases h with
 | one h => exact h
 | step h hc _ => have := (hr _ _ h).2.1; omega
end

theorem pig (n : Nat) : ∀ o : List Int, o.Nodup → (∀ x ∈ o, 0 ≤ x ∧ x < (n : Int)) → o.length ≤ n := by
 induction n with
 | zero =>
  intro o _ h
  cases o with
  | nil => exact Nat.le_refl _
  | cons x o => have := h x List.mem_cons_self; omega
 | succ n ih =>
  intro o hd h
  by_cases hm : (n : Int) ∈ o
  ·have h1 := ih (o.erase (n : Int)) (hd.erase _) (fun x hx => by
    have h2 := (hd.mem_erase_iff).1 hx
    have h3 := h x h2.2
    have : x ≠ (n : Int) := h2.1
    omega)
   rw [List.length_erase_of_mem hm] at h1
   omega
  ·have h1 := ih o hd (fun x hx => by
    have h3 := h x hx
    have : x ≠ (n : Int) := fun e => hm (e ▸ hx)
    omega)
   omega
theorem all_in (n : Nat) : ∀ o : List Int, (∀ i : Int, 0 ≤ i → i < (n : Int) → i ∈ o) → n ≤ o.length := by
 induction n with
 | zero => intro o _; omega
 | succ n ih =>
  intro o h
  have hm := h n (by omega) (by omega)
  have h1 := ih (o.erase (n : Int)) (fun i h0 hi => (List.mem_erase_of_ne (by omega)).2 (h i h0 (by omega)))
  rw [List.length_erase_of_mem hm] at h1
  have := List.length_pos_of_mem hm
  omega
theorem some_out {n : Int} {o : List Int} (h : (o.length : Int) < n) : ∃ i : Int, (0 ≤ i ∧ i < n) ∧ ¬ i ∈ o := by
 by_cases hx : ∃ i : Int, (0 ≤ i ∧ i < n) ∧ ¬ i ∈ o
 ·exact hx
 ·have := all_in n.toNat o (fun i h0 hi => by
   by_cases hm : i ∈ o
   ·exact hm
   ·exact absurd ⟨i, ⟨h0, by omega⟩, hm⟩ hx)
  omega
theorem full_in {n : Int} {o : List Int} (hd : o.Nodup) (h : ∀ x ∈ o, 0 ≤ x ∧ x < n) (hl : (o.length : Int) = n) (i : Int) (h0 : 0 ≤ i) (hi : i < n) : i ∈ o := by
 by_cases hm : i ∈ o
 ·exact hm
 ·have := pig n.toNat (i :: o) (List.nodup_cons.2 ⟨hm, hd⟩) (fun x hx => by
   rcases List.mem_cons.1 hx with rfl | hx
   ·omega
   ·have := h x hx; omega)
  simp only [List.length_cons] at this
  omega

def Acyc (R : Int → Int → Prop) : Prop := ∀ a, ¬ Tc R a a
def Topo (R : Int → Int → Prop) (o : List Int) : Prop := ∀ (i : Nat) (x : Int), o[i]? = some x → ∀ j, R j x → j ∈ o.take i
theorem Topo.tc {R : Int → Int → Prop} {o : List Int} (ht : Topo R o) {a b : Int} (h : Tc R a b) : ∀ i : Nat, o[i]? = some b → a ∈ o.take i := by
 induction h with
 | one h => exact fun i hi => ht i _ hi _ h
 | @step a c b h _ ih =>
  intro i hi
  have hc := ih i hi
  obtain ⟨j, hj⟩ := List.getElem?_of_mem hc
  have hji : j < i := by
   rw [List.getElem?_take] at hj
   split at hj
   ·assumption
   ·cases hj
  have hj' : o[j]? = some c := by
   rw [List.getElem?_take, if_pos hji] at hj
   exact hj
  have := ht j c hj' a h
  exact (List.take_subset_take_left o (by omega)) this
theorem Topo.acyc {R : Int → Int → Prop} {o : List Int} {n : Int} (ht : Topo R o) (hd : o.Nodup) (hin : Inn R n) (hall : ∀ i, 0 ≤ i → i < n → i ∈ o) : Acyc R := by
 intro a h
 have ha := (h.inn hin).1
 obtain ⟨i, hi⟩ := List.getElem?_of_mem (hall a ha.1 ha.2)
 have h1 := ht.tc h i hi
 obtain ⟨j, hj⟩ := List.getElem?_of_mem h1
 have hji : j < i := by
  rw [List.getElem?_take] at hj
  split at hj
  ·assumption
  ·cases hj
 rw [List.getElem?_take, if_pos hji] at hj
 obtain ⟨hil, hi2⟩ := List.getElem?_eq_some_iff.1 hi
 obtain ⟨hjl, hj2⟩ := List.getElem?_eq_some_iff.1 hj
 have := (List.getElem_inj (xs := o) (h₀ := hjl) (h₁ := hil) hd).1 (hj2.trans hi2.symm)
 omega
theorem source {R : Int → Int → Prop} {n : Int} (hin : Inn R n) (hac : Acyc R) (o : List Int) (hx : ∃ i : Int, (0 ≤ i ∧ i < n) ∧ ¬ i ∈ o) : ∃ i : Int, (0 ≤ i ∧ i < n) ∧ ¬ i ∈ o ∧ ∀ j, R j i → j ∈ o := by
 by_cases hz : ∃ i : Int, (0 ≤ i ∧ i < n) ∧ ¬ i ∈ o ∧ ∀ j, R j i → j ∈ o
 ·exact hz
 ·exfalso
  have step : ∀ i : Int, (0 ≤ i ∧ i < n) → ¬ i ∈ o → ∃ j, R j i ∧ ¬ j ∈ o := by
   intro i hi ho
   by_cases he : ∃ j, R j i ∧ ¬ j ∈ o
   ·exact he
   ·exact absurd ⟨i, hi, ho, fun j hj => by
     by_cases hm : j ∈ o
     ·exact hm
     ·exact absurd ⟨j, hj, hm⟩ he⟩ hz
  have chain : ∀ m : Nat, ∃ (h : Int) (L : List Int), (h :: L).length = m + 1 ∧ (h :: L).Nodup ∧ (∀ x ∈ h :: L, 0 ≤ x ∧ x < n) ∧ ¬ h ∈ o ∧ ∀ y ∈ L, Tc R h y := by
   intro m
   induction m with
   | zero =>
    obtain ⟨i, hi, ho⟩ := hx
    exact ⟨i, [], rfl, by simp, by simpa using hi, ho, by simp⟩
   | succ m ih =>
    obtain ⟨h, L, hl, hd, hb, ho, ht⟩ := ih
    obtain ⟨j, hj, hjo⟩ := step h (hb h List.mem_cons_self) ho
    refine ⟨j, h :: L, by simp only [List.length_cons] at hl ⊢; omega, List.nodup_cons.2 ⟨fun hm => ?_, hd⟩, fun x hx => ?_, hjo, fun y hy => ?_⟩
    ·rcases List.mem_cons.1 hm with rfl | hm
     ·exact hac _ (.one hj)
     ·exact hac _ (.step hj (ht _ hm))
    ·rcases List.mem_cons.1 hx with rfl | hx
     ·exact (hin _ _ hj).1
     ·exact hb x hx
    ·rcases List.mem_cons.1 hy with rfl | hy
     ·exact .one hj
     ·exact .step hj (ht y hy)
  obtain ⟨h, L, hl, hd, hb, _, _⟩ := chain n.toNat
  have := pig n.toNat (h :: L) hd (fun x hx => by have := hb x hx; omega)
  omega

def Red (R : Int → Int → Prop) (a b : Int) : Prop := Tc R a b ∧ ¬ ∃ c, Tc R a c ∧ Tc R c b
end Go.Proofs.Ytbbkclcfmcjlgaa.Gr
