import Derived.Test.YtbbkclcfmcjlgaaT7M21
import Derived.Test.YtbbkclcfmcjlgaaT7Px35
import Derived.Test.YtbbkclcfmcjlgaaT7M26
import Derived.Test.YtbbkclcfmcjlgaaT7M27
import Derived.Test.YtbbkclcfmcjlgaaT7M23
import Derived.Test.YtbbkclcfmcjlgaaT7GRead


namespace Go.Proofs.Ytbbkclcfmcjlgaa.P
open Go.RowKit Go.Proofs.YtbbkclcfmcjlgaaW.PrintWords Go.Proofs.YtbbkclcfmcjlgaaW.PrintLast Go.Proofs.YtbbkclcfmcjlgaaW.PrintMore
attribute [local go_sem] max2_int min2_int max_two min_two max_three min_three max_four min_four
set_option linter.unusedVariables false
set_option linter.unusedSimpArgs false

def swarfref29_Cyclic.l0 : Nat → Int → List (List Bool) → Int → Option (Bool)
 | 0, _, _, _ => none
 | k + 1, x0, x5, x6 => if x6 < x0 then (if 0 ≤ x6 then (if x6 < (x5.length : Int) then (if x6 < ((rd_L7 x5 x6).length : Int) then (if rdOf false (rd_L7 x5 x6) x6 = true then (some true) else (swarfref29_Cyclic.l0 k x0 x5 (wrap64 (x6 + 1)))) else (none)) else (none)) else (none)) else (some false)
def swarfref29_Cyclic.f (k : Nat) (a0 : Int) (l1 : List (S47)) : Option (Bool) := (swarfref29_Depends.f k a0 l1).bind fun t307 => (swarfref29_Cyclic.l0 k a0 t307 0)
set_option maxHeartbeats 8000000 in
set_option maxRecDepth 100000 in
theorem swarfref29_Cyclic.calls (k : Nat) (a0 : Int) (A1 : Option Addr) (c1 : Nat) (l1 : List (S47)) (r : Bool) (w : World) (hr1 : Kd.C k47 w A1 l1.length l1) (hc1 : l1.length ≤ c1) (h : swarfref29_Cyclic.f k a0 l1 = some r) :
  Calls Try.prog 23 #[.int .i64 a0, .slice A1 l1.length c1] w fun e w' => e = .returned (.bool r) ∧ Below w.heap.size w w' := by
 have HR1 := aK hr1
 have HC1 := aK hc1
 clear hr1 hc1
 have HB := aK (Below.refl w.heap.size w)
 have H : ((swarfref29_Depends.f k a0 l1).bind fun t307 => (swarfref29_Cyclic.l0 k a0 t307 0)) = some r := h
 clear h
 replace H := oB_ H
 obtain ⟨t307, A30, H⟩ := H
 replace H : (swarfref29_Cyclic.l0 k a0 t307 0) = some r := H
 have A3 := aK A30
 clear A30
 have H' := aK H
 clear H
 go_enter Try.func23, Try.ntmps23
 go_wp2_with (first | ((with_reducible refine gate_callee (f := 44) rfl ?_); refine goesL_ (some 9) rfl rfl Try.func44 (by kernel_rfl) rfl #[.int .i64 a0, .slice A1 l1.length c1] rfl (by (try simp only [List.map_toArray, List.map_cons, List.map_nil]); first | done | rfl | (simp only [List.length_drop, List.length_take]; rfl)) ?_; (with_reducible refine (swarfref29_Depends.calls k a0 _ _ l1 t307 _ ?side1 ?side2 A3.out).mono ?_); (case side1 => repeat (first | exact HR1.out | (with_reducible refine Kd.C_alloc ?_ _) | (with_reducible refine Kd.C_drewN ?_ _) | (with_reducible refine Kd.C_drew ?_))); (case side2 => exact HC1.out); rintro e w4 ⟨v308, rfl, ho0, hb⟩; refine ⟨_, rfl, ?_⟩; have n0_ := aK (Kd.S_lower ho0 (bZ_ (by repeat (first | (with_reducible first | exact HB.out | apply bA_ | apply bN_ | apply bD_) | exact HB.out)))); have n1_ := aK (bT_ (by repeat (first | (with_reducible first | exact HB.out | apply bA_ | apply bN_ | apply bD_) | exact HB.out)) hb); clear HB; have HO309 := n0_; have HB := n1_; clear n0_ n1_; (try clear hb); (try clear hb2); (try clear hk); (try clear hi); (try clear ho0)))
 go_loopg [6] k (fun kq v6 w' => ∃ (x6_1 : Int), v6 = .int .i64 x6_1 ∧ Aside0 (swarfref29_Cyclic.l0 kq a0 t307 x6_1 = some r) ∧ Aside0 (kq ≤ k) ∧ Aside0 (Kd.S (Kd.slice 4 Kd.bool) 52 w' w.heap.size (fun _ => True) v308 t307) ∧ Aside0 (Below w.heap.size w w'))
 case atStart => exact ⟨(0), (by first | rfl | (simp; done) | (simp [*]; done)), H', ⟨Nat.le_refl _⟩, ⟨by (with_reducible repeat (first | apply Kd.S_alloc | apply Kd.S_drewN | apply Kd.S_drew)); exact HO309.out⟩, ⟨by repeat (first | (with_reducible first | exact HB.out | apply bA_ | apply bN_ | apply bD_) | exact HB.out)⟩⟩
 case round =>
  clear H'; try clear c1; try clear c2; try clear p2; try clear c4
  obtain ⟨x6_1, rfl, HA, HK1, HO_5, HB⟩ := hrel
  cases gk with
  | zero => exact absurd HA.out (by simp [swarfref29_Cyclic.l0])
  | succ k1 =>
   have H := HA.out
   clear HA
   simp only [swarfref29_Cyclic.l0] at H
   by_cases c5 : x6_1 < a0
   ·rw [if_pos c5] at H
    have c5b0 : decide (x6_1 < a0) = true := decide_eq_true c5
    clear c5
    by_cases c6 : 0 ≤ x6_1
    ·rw [if_pos c6] at H
     have c6b0 : decide (0 ≤ x6_1) = true := decide_eq_true c6
     clear c6
     by_cases c7 : x6_1 < (t307.length : Int)
     ·rw [if_pos c7] at H
      have c7b0 : decide (x6_1 < (t307.length : Int)) = true := decide_eq_true c7
      clear c7
      by_cases c8 : x6_1 < ((rd_L7 t307 x6_1).length : Int)
      ·rw [if_pos c8] at H
       have c8b0 : decide (x6_1 < ((rd_L7 t307 x6_1).length : Int)) = true := decide_eq_true c8
       clear c8
       obtain ⟨bq9, hbq9⟩ : ∃ b_ : Bool, b_ = (rdOf false (rd_L7 t307 x6_1) x6_1) := ⟨_, rfl⟩
       replace H : (if bq9 = true then (some true) else (swarfref29_Cyclic.l0 k1 a0 t307 (wrap64 (x6_1 + 1)))) = some r := by rw [← hbq9] at H; exact H
       have Nbq9 := aK hbq9; clear hbq9
       by_cases c10 : bq9 = true
       ·subst c10
        have H1 : (some true) = some r := by rw [if_pos rfl] at H; exact H
        clear H; have H := H1; clear H1; obtain rfl := Option.some.inj H
        obtain ⟨Ao11, co11, eo11⟩ := Kd.S_slice HO_5.out
        subst eo11
        have p310 : 0 ≤ (x6_1 : Int) := of_decide_eq_true (by first | (with_reducible assumption) | assumption)
        have q310 : x6_1 < (t307.length : Int) := of_decide_eq_true (by first | (with_reducible assumption) | assumption)
        obtain ⟨ad310, A310_0, c310_0, e310, hx310_0, hl310_0, hi310_0⟩ := at_L7 (Kd.S_reads' HO_5.out).2.2 x6_1 p310 q310
        cases e310
        obtain ⟨ce310, hce310, hMe310, hcc310⟩ := Kd.S_get HO_5.out [] x6_1 p310 (by first | exact q310 | exact of_decide_eq_true (by first | (with_reducible assumption) | assumption) | (have e_ := (Kd.S_reads' HO_5.out).1; omega))
        obtain ⟨ve310_0, rfl, ge310_0⟩ := hMe310
        have hv310_0 := hcc310 0 _ rfl
        rw [Nat.add_zero, show ((Kd.slice 4 Kd.bool)).sz = 1 from rfl, Nat.mul_one] at hv310_0
        replace hv310_0 := Option.some.inj (hv310_0.symm.trans hx310_0)
        rw [hv310_0] at ge310_0
        have HL310_0 := aK (show Kd.R Kd.bool 4 _ _ _ _ (rd_L7 t307 x6_1) from ge310_0)
        clear hv310_0 ge310_0; clear hcc310 hce310; have HR310_0 := aK hi310_0; have HC310_0 := aK hl310_0; clear hi310_0 hl310_0; replace p310 := eq_true p310; replace q310 := eq_true q310
        have p311 : 0 ≤ (x6_1 : Int) := of_decide_eq_true (by first | (with_reducible assumption) | assumption)
        have q311 : x6_1 < ((rd_L7 t307 x6_1).length : Int) := of_decide_eq_true (by first | (with_reducible assumption) | assumption)
        obtain ⟨ad311, e311, hx311_0⟩ := Kd.at_bool (by repeat (first | (with_reducible exact HR310_0.out) | (with_reducible refine Kd.C_alloc ?_ _) | (with_reducible refine Kd.C_drewN ?_ _) | (with_reducible refine Kd.C_drew ?_) | exact HR310_0.out)) x6_1 p311 q311
        (try rw [← Nbq9.out] at hx311_0)
        cases e311; replace p311 := eq_true p311; replace q311 := eq_true q311; go_wp2; go_ret
        exact ⟨by first | rfl | (simp [errW_none, errW_some] <;> rfl) | (simp [*, errW_none, errW_some] <;> rfl), by repeat (first | (with_reducible first | exact HB.out | apply bA_ | apply bN_ | apply bD_) | exact HB.out)⟩
       ·replace c10 := Bool.eq_false_iff.mpr c10
        subst c10
        have H1 : (swarfref29_Cyclic.l0 k1 a0 t307 (wrap64 (x6_1 + 1))) = some r := by rw [if_neg (show ¬ (false = true) by decide)] at H; exact H
        clear H; have H := H1; clear H1; have H' := aK H; clear H
        obtain ⟨Ao12, co12, eo12⟩ := Kd.S_slice HO_5.out
        subst eo12
        have p310 : 0 ≤ (x6_1 : Int) := of_decide_eq_true (by first | (with_reducible assumption) | assumption)
        have q310 : x6_1 < (t307.length : Int) := of_decide_eq_true (by first | (with_reducible assumption) | assumption)
        obtain ⟨ad310, A310_0, c310_0, e310, hx310_0, hl310_0, hi310_0⟩ := at_L7 (Kd.S_reads' HO_5.out).2.2 x6_1 p310 q310
        cases e310
        obtain ⟨ce310, hce310, hMe310, hcc310⟩ := Kd.S_get HO_5.out [] x6_1 p310 (by first | exact q310 | exact of_decide_eq_true (by first | (with_reducible assumption) | assumption) | (have e_ := (Kd.S_reads' HO_5.out).1; omega))
        obtain ⟨ve310_0, rfl, ge310_0⟩ := hMe310
        have hv310_0 := hcc310 0 _ rfl
        rw [Nat.add_zero, show ((Kd.slice 4 Kd.bool)).sz = 1 from rfl, Nat.mul_one] at hv310_0
        replace hv310_0 := Option.some.inj (hv310_0.symm.trans hx310_0)
        rw [hv310_0] at ge310_0
        have HL310_0 := aK (show Kd.R Kd.bool 4 _ _ _ _ (rd_L7 t307 x6_1) from ge310_0)
        clear hv310_0 ge310_0; clear hcc310 hce310; have HR310_0 := aK hi310_0; have HC310_0 := aK hl310_0; clear hi310_0 hl310_0; replace p310 := eq_true p310; replace q310 := eq_true q310
        have p311 : 0 ≤ (x6_1 : Int) := of_decide_eq_true (by first | (with_reducible assumption) | assumption)
        have q311 : x6_1 < ((rd_L7 t307 x6_1).length : Int) := of_decide_eq_true (by first | (with_reducible assumption) | assumption)
        obtain ⟨ad311, e311, hx311_0⟩ := Kd.at_bool (by repeat (first | (with_reducible exact HR310_0.out) | (with_reducible refine Kd.C_alloc ?_ _) | (with_reducible refine Kd.C_drewN ?_ _) | (with_reducible refine Kd.C_drew ?_) | exact HR310_0.out)) x6_1 p311 q311
        (try rw [← Nbq9.out] at hx311_0)
        cases e311; replace p311 := eq_true p311; replace q311 := eq_true q311; go_wp2
        go_roundg k1
        case measure => have := HK1.out; omega
        case rel => exact ⟨(wrap64 (x6_1 + 1)), (by first | rfl | (simp; done) | (simp [*]; done)), H', ⟨by have := HK1.out; omega⟩, ⟨by (with_reducible repeat (first | apply Kd.S_alloc | apply Kd.S_drewN | apply Kd.S_drew)); exact HO_5.out⟩, ⟨by repeat (first | (with_reducible first | exact HB.out | apply bA_ | apply bN_ | apply bD_) | exact HB.out)⟩⟩
      ·rw [if_neg c8] at H
       exact absurd H (by simp)
     ·rw [if_neg c7] at H
      exact absurd H (by simp)
    ·rw [if_neg c6] at H
     exact absurd H (by simp)
   ·rw [if_neg c5] at H
    have c5b0 : decide (x6_1 < a0) = false := decide_eq_false c5
    clear c5; obtain rfl := Option.some.inj H; go_wp2; go_ret
    exact ⟨by first | rfl | (simp [errW_none, errW_some] <;> rfl) | (simp [*, errW_none, errW_some] <;> rfl), by repeat (first | (with_reducible first | exact HB.out | apply bA_ | apply bN_ | apply bD_) | exact HB.out)⟩

end Go.Proofs.Ytbbkclcfmcjlgaa.P



namespace Go.Proofs.Ytbbkclcfmcjlgaa.P
open Go.RowKit Go.Proofs.YtbbkclcfmcjlgaaW.PrintWords Go.Proofs.YtbbkclcfmcjlgaaW.PrintLast Go.Proofs.YtbbkclcfmcjlgaaW.PrintMore
attribute [local go_sem] max2_int min2_int max_two min_two max_three min_three max_four min_four
set_option linter.unusedVariables false
set_option linter.unusedSimpArgs false

def swarfref29_fault.f (k : Nat) (a0 : Int) (l1 : List (S47)) : Option (Int) := (swarfref29_Valid.f k a0 l1).bind fun t325 => (if t325 = 0 then ((swarfref29_Cyclic.f k a0 l1).bind fun t326 => (if t326 = true then (some 12) else (some 0))) else (some t325))
set_option maxHeartbeats 8000000 in
set_option maxRecDepth 100000 in
theorem swarfref29_fault.calls (k : Nat) (a0 : Int) (A1 : Option Addr) (c1 : Nat) (l1 : List (S47)) (r : Int) (w : World) (hr1 : Kd.C k47 w A1 l1.length l1) (hc1 : l1.length ≤ c1) (h : swarfref29_fault.f k a0 l1 = some r) :
  Calls Try.prog 47 #[.int .i64 a0, .slice A1 l1.length c1] w fun e w' => e = .returned (.int .i64 r) ∧ Below w.heap.size w w' := by
 have HR1 := aK hr1
 have HC1 := aK hc1
 clear hr1 hc1
 have HB := aK (Below.refl w.heap.size w)
 have H : ((swarfref29_Valid.f k a0 l1).bind fun t325 => (if t325 = 0 then ((swarfref29_Cyclic.f k a0 l1).bind fun t326 => (if t326 = true then (some 12) else (some 0))) else (some t325))) = some r := h
 clear h
 replace H := oB_ H
 obtain ⟨t325, A30, H⟩ := H
 replace H : (if t325 = 0 then ((swarfref29_Cyclic.f k a0 l1).bind fun t326 => (if t326 = true then (some 12) else (some 0))) else (some t325)) = some r := H
 have A3 := aK A30
 clear A30
 by_cases c4 : t325 = 0
 ·rw [if_pos c4] at H
  have c4b0 : (t325 == 0) = true := beq_iff_eq.mpr c4
  have c4b1 : (t325 != 0) = false := bne_eq_false_iff_eq.mpr c4
  clear c4; replace H := oB_ H
  obtain ⟨t326, A50, H⟩ := H
  replace H : (if t326 = true then (some 12) else (some 0)) = some r := H
  have A5 := aK A50; clear A50
  by_cases c6 : t326 = true
  ·subst c6
   have H1 : (some 12) = some r := by rw [if_pos rfl] at H; exact H
   clear H; have H := H1; clear H1; obtain rfl := Option.some.inj H
   go_enter Try.func47, Try.ntmps47
   go_wp2_with (first | ((with_reducible refine gate_callee (f := 21) rfl ?_); refine goesL_ (some 8) rfl rfl Try.func21 (by kernel_rfl) rfl #[.int .i64 a0, .slice A1 l1.length c1] rfl (by (try simp only [List.map_toArray, List.map_cons, List.map_nil]); first | done | rfl | (simp only [List.length_drop, List.length_take]; rfl)) ?_; (with_reducible refine (swarfref29_Valid.calls k a0 _ _ l1 t325 _ ?side1 ?side2 A3.out).mono ?_); (case side1 => repeat (first | exact HR1.out | (with_reducible refine Kd.C_alloc ?_ _) | (with_reducible refine Kd.C_drewN ?_ _) | (with_reducible refine Kd.C_drew ?_))); (case side2 => exact HC1.out); rintro e w' ⟨rfl, ⟨nd, rfl⟩⟩; refine ⟨_, rfl, ?_⟩) | ((with_reducible refine gate_callee (f := 23) rfl ?_); refine goesL_ (some 14) rfl rfl Try.func23 (by kernel_rfl) rfl #[.int .i64 a0, .slice A1 l1.length c1] rfl (by (try simp only [List.map_toArray, List.map_cons, List.map_nil]); first | done | rfl | (simp only [List.length_drop, List.length_take]; rfl)) ?_; (with_reducible refine (swarfref29_Cyclic.calls k a0 _ _ l1 true _ ?side1 ?side2 A5.out).mono ?_); (case side1 => repeat (first | exact HR1.out | (with_reducible refine Kd.C_alloc ?_ _) | (with_reducible refine Kd.C_drewN ?_ _) | (with_reducible refine Kd.C_drew ?_))); (case side2 => exact HC1.out); rintro e w7 ⟨rfl, hb⟩; refine ⟨_, rfl, ?_⟩; have n0_ := aK (bT_ (by repeat (first | (with_reducible first | exact HB.out | apply bA_ | apply bN_ | apply bD_) | exact HB.out)) hb); clear HB; have HB := n0_; clear n0_; (try clear hb); (try clear hb2); (try clear hk); (try clear hi)))
   go_ret
   exact ⟨by first | rfl | (simp [errW_none, errW_some] <;> rfl) | (simp [*, errW_none, errW_some] <;> rfl), by repeat (first | (with_reducible first | exact HB.out | apply bA_ | apply bN_ | apply bD_) | exact HB.out)⟩
  ·replace c6 := Bool.eq_false_iff.mpr c6
   subst c6
   have H1 : (some 0) = some r := by rw [if_neg (show ¬ (false = true) by decide)] at H; exact H
   clear H; have H := H1; clear H1; obtain rfl := Option.some.inj H
   go_enter Try.func47, Try.ntmps47
   go_wp2_with (first | ((with_reducible refine gate_callee (f := 21) rfl ?_); refine goesL_ (some 8) rfl rfl Try.func21 (by kernel_rfl) rfl #[.int .i64 a0, .slice A1 l1.length c1] rfl (by (try simp only [List.map_toArray, List.map_cons, List.map_nil]); first | done | rfl | (simp only [List.length_drop, List.length_take]; rfl)) ?_; (with_reducible refine (swarfref29_Valid.calls k a0 _ _ l1 t325 _ ?side1 ?side2 A3.out).mono ?_); (case side1 => repeat (first | exact HR1.out | (with_reducible refine Kd.C_alloc ?_ _) | (with_reducible refine Kd.C_drewN ?_ _) | (with_reducible refine Kd.C_drew ?_))); (case side2 => exact HC1.out); rintro e w' ⟨rfl, ⟨nd, rfl⟩⟩; refine ⟨_, rfl, ?_⟩) | ((with_reducible refine gate_callee (f := 23) rfl ?_); refine goesL_ (some 14) rfl rfl Try.func23 (by kernel_rfl) rfl #[.int .i64 a0, .slice A1 l1.length c1] rfl (by (try simp only [List.map_toArray, List.map_cons, List.map_nil]); first | done | rfl | (simp only [List.length_drop, List.length_take]; rfl)) ?_; (with_reducible refine (swarfref29_Cyclic.calls k a0 _ _ l1 false _ ?side1 ?side2 A5.out).mono ?_); (case side1 => repeat (first | exact HR1.out | (with_reducible refine Kd.C_alloc ?_ _) | (with_reducible refine Kd.C_drewN ?_ _) | (with_reducible refine Kd.C_drew ?_))); (case side2 => exact HC1.out); rintro e w8 ⟨rfl, hb⟩; refine ⟨_, rfl, ?_⟩; have n0_ := aK (bT_ (by repeat (first | (with_reducible first | exact HB.out | apply bA_ | apply bN_ | apply bD_) | exact HB.out)) hb); clear HB; have HB := n0_; clear n0_; (try clear hb); (try clear hb2); (try clear hk); (try clear hi)))
   go_ret
   exact ⟨by first | rfl | (simp [errW_none, errW_some] <;> rfl) | (simp [*, errW_none, errW_some] <;> rfl), by repeat (first | (with_reducible first | exact HB.out | apply bA_ | apply bN_ | apply bD_) | exact HB.out)⟩
 ·rw [if_neg c4] at H
  have c4b0 : (t325 == 0) = false := beq_eq_false_iff_ne.mpr c4
  have c4b1 : (t325 != 0) = true := bne_iff_ne.mpr c4
  obtain rfl := Option.some.inj H
  go_enter Try.func47, Try.ntmps47
  go_wp2_with (first | ((with_reducible refine gate_callee (f := 21) rfl ?_); refine goesL_ (some 8) rfl rfl Try.func21 (by kernel_rfl) rfl #[.int .i64 a0, .slice A1 l1.length c1] rfl (by (try simp only [List.map_toArray, List.map_cons, List.map_nil]); first | done | rfl | (simp only [List.length_drop, List.length_take]; rfl)) ?_; (with_reducible refine (swarfref29_Valid.calls k a0 _ _ l1 t325 _ ?side1 ?side2 A3.out).mono ?_); (case side1 => repeat (first | exact HR1.out | (with_reducible refine Kd.C_alloc ?_ _) | (with_reducible refine Kd.C_drewN ?_ _) | (with_reducible refine Kd.C_drew ?_))); (case side2 => exact HC1.out); rintro e w' ⟨rfl, ⟨nd, rfl⟩⟩; refine ⟨_, rfl, ?_⟩))
  go_ret
  exact ⟨by first | rfl | (simp [errW_none, errW_some] <;> rfl) | (simp [*, errW_none, errW_some] <;> rfl), by repeat (first | (with_reducible first | exact HB.out | apply bA_ | apply bN_ | apply bD_) | exact HB.out)⟩

end Go.Proofs.Ytbbkclcfmcjlgaa.P



namespace Go.Proofs.Ytbbkclcfmcjlgaa.B
open Go.RowKit Go.Proofs.Ytbbkclcfmcjlgaa.P Go.Proofs.Ytbbkclcfmcjlgaa.Gr Go.Proofs.YtbbkclcfmcjlgaaW.PrintWords Go.Proofs.YtbbkclcfmcjlgaaW.PrintLast Go.Proofs.YtbbkclcfmcjlgaaW.PrintMore
set_option linter.unusedVariables false
set_option linter.unusedSimpArgs false

def Rl (l : List S47) (a b : Int) : Prop := (⟨a, b⟩ : S47) ∈ l
theorem rl_inn {n : Int} {l : List S47} (h : ∀ p ∈ l, okp n p = true) : Inn (Rl l) n := fun a b hab => ((okp_iff _ _).1 (h _ hab)).2
theorem rl_ne {n : Int} {l : List S47} (h : ∀ p ∈ l, okp n p = true) {a b : Int} (hab : Rl l a b) : a ≠ b := ((okp_iff _ _).1 (h _ hab)).1

def mt (m : List (List Bool)) (a b : Int) : Bool := rdOf false (rd_L7 m a) b
def st (m : List (List Bool)) (a b : Int) (v : Bool) : List (List Bool) := m.set a.toNat ((rd_L7 m a).set b.toNat v)
def Sq (n : Int) (m : List (List Bool)) : Prop := (m.length : Int) = n ∧ ∀ a, 0 ≤ a → a < n → ((rd_L7 m a).length : Int) = n
theorem rd_set_self (m : List (List Bool)) (a : Int) (y : List Bool) (h0 : 0 ≤ a) (h1 : a < (m.length : Int)) : rd_L7 (m.set a.toNat y) a = y := by
 unfold rd_L7
 rw [List.getD_eq_getElem?_getD, List.getElem?_set_self (by omega)]; rfl
theorem rd_set_ne (m : List (List Bool)) (a b : Int) (y : List Bool) (h0 : 0 ≤ a) (hb : 0 ≤ b) (h : b ≠ a) : rd_L7 (m.set a.toNat y) b = rd_L7 m b := by
 unfold rd_L7
 rw [List.getD_eq_getElem?_getD, List.getElem?_set_ne (by omega), List.getD_eq_getElem?_getD]
theorem of_set_self (r : List Bool) (b : Int) (v : Bool) (h0 : 0 ≤ b) (h1 : b < (r.length : Int)) : rdOf false (r.set b.toNat v) b = v := by
 unfold rdOf
 rw [List.getD_eq_getElem?_getD, List.getElem?_set_self (by omega)]; rfl
theorem of_set_ne (r : List Bool) (b c : Int) (v : Bool) (h0 : 0 ≤ b) (hc : 0 ≤ c) (h : c ≠ b) : rdOf false (r.set b.toNat v) c = rdOf false r c := by
 unfold rdOf
 rw [List.getD_eq_getElem?_getD, List.getElem?_set_ne (by omega), List.getD_eq_getElem?_getD]
theorem Sq.st {n : Int} {m : List (List Bool)} (h : Sq n m) {a b : Int} (a0 : 0 ≤ a) (a1 : a < n) (v : Bool) : Sq n (B.st m a b v) := by
 refine ⟨by unfold B.st; rw [List.length_set]; exact h.1, fun c c0 c1 => ?_⟩
 unfold B.st
 by_cases e : c = a
 ·subst e
  rw [rd_set_self _ _ _ a0 (by rw [h.1]; exact a1), List.length_set]
  exact h.2 c c0 c1
 ·rw [rd_set_ne _ _ _ _ a0 c0 e]
  exact h.2 c c0 c1
def Tab (n : Int) (R : Int → Int → Prop) (m : List (List Bool)) : Prop := Sq n m ∧ ∀ a b, 0 ≤ a → 0 ≤ b → (mt m a b = true ↔ Tc R a b)
end Go.Proofs.Ytbbkclcfmcjlgaa.B



namespace Go.Proofs.Ytbbkclcfmcjlgaa.P
open Go.RowKit Go.Proofs.YtbbkclcfmcjlgaaW.PrintWords Go.Proofs.YtbbkclcfmcjlgaaW.PrintLast Go.Proofs.YtbbkclcfmcjlgaaW.PrintMore
attribute [local go_sem] max2_int min2_int max_two min_two max_three min_three max_four min_four
set_option linter.unusedVariables false
set_option linter.unusedSimpArgs false

mutual
def swarfref29_Order.l0 : Nat → Int → List (S47) → List Int → Option (List Int × Int)
 | 0, _, _, _ => none
 | k + 1, x0, x1, x7 => if (x7.length : Int) < x0 then (swarfref29_Order.l1 k x0 x1 x7 0) else (some (x7, 0))
def swarfref29_Order.l1 : Nat → Int → List (S47) → List Int → Int → Option (List Int × Int)
 | 0, _, _, _, _ => none
 | k + 1, x0, x1, x7, x8 => (swarfref29_in.f k x7 x8).bind fun t328 => (if t328 = true then (swarfref29_Order.l1 k x0 x1 x7 (wrap64 (x8 + 1))) else ((swarfref29_ready.f k x1 x7 x8).bind fun t329 => (if t329 = true then (if x7.length < 17592186044416 then (swarfref29_Order.l0 k x0 x1 (x7 ++ [x8])) else (none)) else (swarfref29_Order.l1 k x0 x1 x7 (wrap64 (x8 + 1))))))
end
def swarfref29_Order.f (k : Nat) (a0 : Int) (l1 : List (S47)) : Option (List Int × Int) := (swarfref29_fault.f k a0 l1).bind fun t327 => (if t327 = 0 then (swarfref29_Order.l0 k a0 l1 ([] : List Int)) else (some (([] : List Int), t327)))
set_option maxHeartbeats 8000000 in
set_option maxRecDepth 100000 in
theorem swarfref29_Order.calls (k : Nat) (a0 : Int) (A1 : Option Addr) (c1 : Nat) (l1 : List (S47)) (r1 : List Int) (r2 : Int) (w : World) (hr1 : Kd.C k47 w A1 l1.length l1) (hc1 : l1.length ≤ c1) (h : swarfref29_Order.f k a0 l1 = some (r1, r2)) :
  Calls Try.prog 26 #[.int .i64 a0, .slice A1 l1.length c1] w fun e w' => ∃ v0_ : Value, e = .returned (.tuple #[v0_, .int .i64 r2]) ∧ Kd.R (Kd.int .i64) 3 w' w.heap.size (fun _ => True) v0_ r1 ∧ Below w.heap.size w w' := by
 have HR1 := aK hr1
 have HC1 := aK hc1
 clear hr1 hc1
 have HB := aK (Below.refl w.heap.size w)
 have H : ((swarfref29_fault.f k a0 l1).bind fun t327 => (if t327 = 0 then (swarfref29_Order.l0 k a0 l1 ([] : List Int)) else (some (([] : List Int), t327)))) = some (r1, r2) := h
 clear h
 replace H := oB_ H
 obtain ⟨t327, A30, H⟩ := H
 replace H : (if t327 = 0 then (swarfref29_Order.l0 k a0 l1 ([] : List Int)) else (some (([] : List Int), t327))) = some (r1, r2) := H
 have A3 := aK A30
 clear A30
 by_cases c4 : t327 = 0
 ·rw [if_pos c4] at H
  have c4b0 : (t327 == 0) = true := beq_iff_eq.mpr c4
  have c4b1 : (t327 != 0) = false := bne_eq_false_iff_eq.mpr c4
  clear c4; have H' := aK H; clear H
  go_enter Try.func26, Try.ntmps26
  go_wp2_with (first | ((with_reducible refine gate_callee (f := 47) rfl ?_); refine goesL_ (some 11) rfl rfl Try.func47 (by kernel_rfl) rfl #[.int .i64 a0, .slice A1 l1.length c1] rfl (by (try simp only [List.map_toArray, List.map_cons, List.map_nil]); first | done | rfl | (simp only [List.length_drop, List.length_take]; rfl)) ?_; (with_reducible refine (swarfref29_fault.calls k a0 _ _ l1 t327 _ ?side1 ?side2 A3.out).mono ?_); (case side1 => repeat (first | exact HR1.out | (with_reducible refine Kd.C_alloc ?_ _) | (with_reducible refine Kd.C_drewN ?_ _) | (with_reducible refine Kd.C_drew ?_))); (case side2 => exact HC1.out); rintro e w5 ⟨rfl, hb⟩; refine ⟨_, rfl, ?_⟩; have n0_ := aK (bT_ (by repeat (first | (with_reducible first | exact HB.out | apply bA_ | apply bN_ | apply bD_) | exact HB.out)) hb); clear HB; have HB := n0_; clear n0_; (try clear hb); (try clear hb2); (try clear hk); (try clear hi)))
  go_loopg [7] k (fun kq v7 w' => ∃ (x7_1 : List Int), Aside0 (swarfref29_Order.l0 kq a0 l1 x7_1 = some (r1, r2)) ∧ Aside0 (kq ≤ k) ∧ Aside0 (Kd.R (Kd.int .i64) 3 w' w.heap.size (fun _ => True) v7 x7_1) ∧ Aside0 (Below w.heap.size w w'))
  case atStart => exact ⟨(([] : List Int)), H', ⟨Nat.le_refl _⟩, ⟨by first | exact Kd.R_nil _ _ _ _ _ | exact Kd.N_nil _ _ _ _ _ | exact Kd.V_nil _ _ _ _ _ | exact Kd.Q_nil _ _ _ _ _ | exact Kd.S_nil _ _ _ _ _⟩, ⟨by repeat (first | (with_reducible first | exact HB.out | apply bA_ | apply bN_ | apply bD_) | exact HB.out)⟩⟩
  case round =>
   clear H'; try clear c1; try clear c2; try clear p2; try clear c4; try clear c4b0; try clear c4b1
   obtain ⟨x7_1, HA, HK1, HO_7, HB⟩ := hrel
   cases gk with
   | zero => exact absurd HA.out (by simp [swarfref29_Order.l0])
   | succ k1 =>
    have H := HA.out
    clear HA
    simp only [swarfref29_Order.l0] at H
    by_cases c6 : (x7_1.length : Int) < a0
    ·rw [if_pos c6] at H
     have c6b0 : decide ((x7_1.length : Int) < a0) = true := decide_eq_true c6
     clear c6; have H' := aK H; clear H
     obtain ⟨Ao7, co7, eo7⟩ := Kd.R_slice HO_7.out
     subst eo7; go_wp2
     go_loopg [8] k1 (fun kq v8 w' => ∃ (x8_2 : Int), v8 = .int .i64 x8_2 ∧ Aside0 (swarfref29_Order.l1 kq a0 l1 x7_1 x8_2 = some (r1, r2)) ∧ Aside0 (kq ≤ k1) ∧ Aside0 (Kd.R (Kd.int .i64) 3 w' w.heap.size (fun _ => True) (.slice Ao7 x7_1.length co7) x7_1) ∧ Aside0 (Below w.heap.size w w'))
     case atStart => exact ⟨(0), (by first | rfl | (simp; done) | (simp [*]; done)), H', ⟨Nat.le_refl _⟩, ⟨by (with_reducible repeat (first | apply Kd.R_alloc | apply Kd.R_drewN | apply Kd.R_drew)); exact HO_7.out⟩, ⟨by repeat (first | (with_reducible first | exact HB.out | apply bA_ | apply bN_ | apply bD_) | exact HB.out)⟩⟩
     case round =>
      clear H'; try clear c1; try clear c2; try clear p2; try clear c4; try clear c4b0; try clear c4b1; try clear c6; try clear c6b0; try clear p2
      obtain ⟨x8_2, rfl, HA, HK2, HO_7, HB⟩ := hrel
      cases gk with
      | zero => exact absurd HA.out (by simp [swarfref29_Order.l1])
      | succ k2 =>
       have H := HA.out
       clear HA
       simp only [swarfref29_Order.l1] at H
       replace H := oB_ H
       obtain ⟨t328, A80, H⟩ := H
       replace H : (if t328 = true then (swarfref29_Order.l1 k2 a0 l1 x7_1 (wrap64 (x8_2 + 1))) else ((swarfref29_ready.f k2 l1 x7_1 x8_2).bind fun t329 => (if t329 = true then (if x7_1.length < 17592186044416 then (swarfref29_Order.l0 k2 a0 l1 (x7_1 ++ [x8_2])) else (none)) else (swarfref29_Order.l1 k2 a0 l1 x7_1 (wrap64 (x8_2 + 1)))))) = some (r1, r2) := H
       have A8 := aK A80; clear A80
       by_cases c9 : t328 = true
       ·subst c9
        have H1 : (swarfref29_Order.l1 k2 a0 l1 x7_1 (wrap64 (x8_2 + 1))) = some (r1, r2) := by rw [if_pos rfl] at H; exact H
        clear H; have H := H1; clear H1; have H' := aK H; clear H
        go_wp2_with (first | ((with_reducible refine gate_callee (f := 40) rfl ?_); refine goesL_ (some 21) rfl rfl Try.func40 (by kernel_rfl) rfl #[.slice Ao7 x7_1.length co7, .int .i64 x8_2] rfl (by (try simp only [List.map_toArray, List.map_cons, List.map_nil]); first | done | rfl | (simp only [List.length_drop, List.length_take]; rfl)) ?_; (with_reducible refine (swarfref29_in.calls k2 _ _ x7_1 x8_2 true _ ?side1 ?side2 A8.out).mono ?_); (case side1 => repeat (first | exact (Kd.R_reads' HO_7.out).2.2 | (with_reducible refine Kd.C_alloc ?_ _) | (with_reducible refine Kd.C_drewN ?_ _) | (with_reducible refine Kd.C_drew ?_))); (case side2 => exact (Kd.R_reads' HO_7.out).2.1); rintro e w' ⟨rfl, ⟨nd, rfl⟩⟩; refine ⟨_, rfl, ?_⟩))
        go_roundg k2
        case measure => have := HK1.out; have := HK2.out; omega
        case rel => exact ⟨(wrap64 (x8_2 + 1)), (by first | rfl | (simp; done) | (simp [*]; done)), H', ⟨by have := HK1.out; have := HK2.out; omega⟩, ⟨by (with_reducible repeat (first | apply Kd.R_alloc | apply Kd.R_drewN | apply Kd.R_drew)); exact HO_7.out⟩, ⟨by repeat (first | (with_reducible first | exact HB.out | apply bA_ | apply bN_ | apply bD_) | exact HB.out)⟩⟩
       ·replace c9 := Bool.eq_false_iff.mpr c9
        subst c9
        have H1 : ((swarfref29_ready.f k2 l1 x7_1 x8_2).bind fun t329 => (if t329 = true then (if x7_1.length < 17592186044416 then (swarfref29_Order.l0 k2 a0 l1 (x7_1 ++ [x8_2])) else (none)) else (swarfref29_Order.l1 k2 a0 l1 x7_1 (wrap64 (x8_2 + 1))))) = some (r1, r2) := by rw [if_neg (show ¬ (false = true) by decide)] at H; exact H
        clear H; have H := H1; clear H1; replace H := oB_ H
        obtain ⟨t329, A100, H⟩ := H
        replace H : (if t329 = true then (if x7_1.length < 17592186044416 then (swarfref29_Order.l0 k2 a0 l1 (x7_1 ++ [x8_2])) else (none)) else (swarfref29_Order.l1 k2 a0 l1 x7_1 (wrap64 (x8_2 + 1)))) = some (r1, r2) := H
        have A10 := aK A100; clear A100
        by_cases c11 : t329 = true
        ·subst c11
         have H1 : (if x7_1.length < 17592186044416 then (swarfref29_Order.l0 k2 a0 l1 (x7_1 ++ [x8_2])) else (none)) = some (r1, r2) := by rw [if_pos rfl] at H; exact H
         clear H; have H := H1; clear H1
         by_cases c12 : x7_1.length < 17592186044416
         ·rw [if_pos c12] at H; have LMc12 := aK c12; clear c12
          obtain ⟨y330, hy330⟩ : ∃ y_ : List Int, y_ = (x7_1 ++ [x8_2]) := ⟨_, rfl⟩
          replace H : (swarfref29_Order.l0 k2 a0 l1 y330) = some (r1, r2) := by first | (rw [hy330]; with_reducible exact H) | (have H2_ := (Option.bind_some _ _).symm.trans H; rw [hy330]; with_reducible exact H2_) | (have H2_ := (Option.bind_some _ _).symm.trans H; with_reducible exact H2_) | with_reducible exact H | (rw [hy330]; exact H) | exact H
          have Ny330 := aK hy330; clear hy330; have H' := aK H; clear H
          go_wp2_with (first | ((with_reducible refine gate_callee (f := 40) rfl ?_); refine goesL_ (some 21) rfl rfl Try.func40 (by kernel_rfl) rfl #[.slice Ao7 x7_1.length co7, .int .i64 x8_2] rfl (by (try simp only [List.map_toArray, List.map_cons, List.map_nil]); first | done | rfl | (simp only [List.length_drop, List.length_take]; rfl)) ?_; (with_reducible refine (swarfref29_in.calls k2 _ _ x7_1 x8_2 false _ ?side1 ?side2 A8.out).mono ?_); (case side1 => repeat (first | exact (Kd.R_reads' HO_7.out).2.2 | (with_reducible refine Kd.C_alloc ?_ _) | (with_reducible refine Kd.C_drewN ?_ _) | (with_reducible refine Kd.C_drew ?_))); (case side2 => exact (Kd.R_reads' HO_7.out).2.1); rintro e w' ⟨rfl, ⟨nd, rfl⟩⟩; refine ⟨_, rfl, ?_⟩) | (go_at_call 41; (with_reducible refine (swarfref29_ready.calls k2 _ _ l1 _ _ x7_1 x8_2 true _ ?side1 ?side2 ?side3 ?side4 A10.out).mono ?_); (case side1 => repeat (first | exact (Kd.C_below HR1.out (by repeat (first | (with_reducible first | exact HB.out | apply bA_ | apply bN_ | apply bD_) | exact HB.out))) | (with_reducible refine Kd.C_alloc ?_ _) | (with_reducible refine Kd.C_drewN ?_ _) | (with_reducible refine Kd.C_drew ?_))); (case side2 => exact HC1.out); (case side3 => repeat (first | exact (Kd.R_reads' HO_7.out).2.2 | (with_reducible refine Kd.C_alloc ?_ _) | (with_reducible refine Kd.C_drewN ?_ _) | (with_reducible refine Kd.C_drew ?_))); (case side4 => exact (Kd.R_reads' HO_7.out).2.1); rintro e w' ⟨rfl, ⟨nd, rfl⟩⟩) | ((with_reducible refine gate_builtin (b := .append) (xs := #[.tmp 31, .tmp 33]) rfl ?_); at_builtin; refine Kd.R_append (Kd.int .i64) (w0 := w) w.heap.size rfl (.tmp 31) (.tmp 33) 31 3 (.int .i64 0) 8 rfl Try.underlying31 info3 rfl (by decide) (by omega) (.slice Ao7 x7_1.length co7) x7_1 x8_2 [.int .i64 x8_2] (fun _ => True) (fun _ => False) rfl rfl ?aP (fun _ hk => hk.elim) ?aF ?aO ?aB ?aS ?aL ?_; (case aP => exact rfl); (case aB => exact (by repeat (first | (with_reducible first | exact HB.out | apply bA_ | apply bN_ | apply bD_) | exact HB.out))); (case aF => exact (fun _ _ => trivial)); (case aO => exact (by (with_reducible repeat (first | apply Kd.R_alloc | apply Kd.R_drewN | apply Kd.R_drew)); exact HO_7.out)); (case aS => exact (bZ_ (by repeat (first | (with_reducible first | exact HB.out | apply bA_ | apply bN_ | apply bD_) | exact HB.out)))); (case aL => have := LMc12.out; omega); intro v331 w13 ho hb hg hat; rw [← Ny330.out] at ho; have n0_ := aK (hb); have n1_ := aK (ho); clear HB; clear HO_7; have HB := n0_; have HO332 := n1_; clear n0_ n1_; clear ho hb hg hat))
          go_roundg k2
          case measure => have := HK1.out; have := HK2.out; omega
          case rel => exact ⟨(y330), H', ⟨by have := HK1.out; have := HK2.out; omega⟩, ⟨by (with_reducible repeat (first | apply Kd.R_alloc | apply Kd.R_drewN | apply Kd.R_drew)); exact HO332.out⟩, ⟨by repeat (first | (with_reducible first | exact HB.out | apply bA_ | apply bN_ | apply bD_) | exact HB.out)⟩⟩
         ·rw [if_neg c12] at H
          exact absurd H (by simp)
        ·replace c11 := Bool.eq_false_iff.mpr c11
         subst c11
         have H1 : (swarfref29_Order.l1 k2 a0 l1 x7_1 (wrap64 (x8_2 + 1))) = some (r1, r2) := by rw [if_neg (show ¬ (false = true) by decide)] at H; exact H
         clear H; have H := H1; clear H1; have H' := aK H; clear H
         go_wp2_with (first | ((with_reducible refine gate_callee (f := 40) rfl ?_); refine goesL_ (some 21) rfl rfl Try.func40 (by kernel_rfl) rfl #[.slice Ao7 x7_1.length co7, .int .i64 x8_2] rfl (by (try simp only [List.map_toArray, List.map_cons, List.map_nil]); first | done | rfl | (simp only [List.length_drop, List.length_take]; rfl)) ?_; (with_reducible refine (swarfref29_in.calls k2 _ _ x7_1 x8_2 false _ ?side1 ?side2 A8.out).mono ?_); (case side1 => repeat (first | exact (Kd.R_reads' HO_7.out).2.2 | (with_reducible refine Kd.C_alloc ?_ _) | (with_reducible refine Kd.C_drewN ?_ _) | (with_reducible refine Kd.C_drew ?_))); (case side2 => exact (Kd.R_reads' HO_7.out).2.1); rintro e w' ⟨rfl, ⟨nd, rfl⟩⟩; refine ⟨_, rfl, ?_⟩) | (go_at_call 41; (with_reducible refine (swarfref29_ready.calls k2 _ _ l1 _ _ x7_1 x8_2 false _ ?side1 ?side2 ?side3 ?side4 A10.out).mono ?_); (case side1 => repeat (first | exact (Kd.C_below HR1.out (by repeat (first | (with_reducible first | exact HB.out | apply bA_ | apply bN_ | apply bD_) | exact HB.out))) | (with_reducible refine Kd.C_alloc ?_ _) | (with_reducible refine Kd.C_drewN ?_ _) | (with_reducible refine Kd.C_drew ?_))); (case side2 => exact HC1.out); (case side3 => repeat (first | exact (Kd.R_reads' HO_7.out).2.2 | (with_reducible refine Kd.C_alloc ?_ _) | (with_reducible refine Kd.C_drewN ?_ _) | (with_reducible refine Kd.C_drew ?_))); (case side4 => exact (Kd.R_reads' HO_7.out).2.1); rintro e w' ⟨rfl, ⟨nd, rfl⟩⟩))
         go_roundg k2
         case measure => have := HK1.out; have := HK2.out; omega
         case rel => exact ⟨(wrap64 (x8_2 + 1)), (by first | rfl | (simp; done) | (simp [*]; done)), H', ⟨by have := HK1.out; have := HK2.out; omega⟩, ⟨by (with_reducible repeat (first | apply Kd.R_alloc | apply Kd.R_drewN | apply Kd.R_drew)); exact HO_7.out⟩, ⟨by repeat (first | (with_reducible first | exact HB.out | apply bA_ | apply bN_ | apply bD_) | exact HB.out)⟩⟩
    ·rw [if_neg c6] at H
     have c6b0 : decide ((x7_1.length : Int) < a0) = false := decide_eq_false c6
     clear c6
     simp only [Option.some.injEq, Prod.mk.injEq] at H
     obtain ⟨rfl, rfl⟩ := H
     obtain ⟨Ao14, co14, eo14⟩ := Kd.R_slice HO_7.out
     subst eo14; go_wp2
     go_ret2
     exact ⟨_, by first | rfl | (simp [errW_none, errW_some] <;> rfl) | (simp [*, errW_none, errW_some] <;> rfl), by (with_reducible repeat (first | apply Kd.R_alloc | apply Kd.R_drewN | apply Kd.R_drew)); exact HO_7.out, by repeat (first | (with_reducible first | exact HB.out | apply bA_ | apply bN_ | apply bD_) | exact HB.out)⟩
 ·rw [if_neg c4] at H
  have c4b0 : (t327 == 0) = false := beq_eq_false_iff_ne.mpr c4
  have c4b1 : (t327 != 0) = true := bne_iff_ne.mpr c4
  simp only [Option.some.injEq, Prod.mk.injEq] at H
  obtain ⟨rfl, rfl⟩ := H
  go_enter Try.func26, Try.ntmps26
  go_wp2_with (first | ((with_reducible refine gate_callee (f := 47) rfl ?_); refine goesL_ (some 11) rfl rfl Try.func47 (by kernel_rfl) rfl #[.int .i64 a0, .slice A1 l1.length c1] rfl (by (try simp only [List.map_toArray, List.map_cons, List.map_nil]); first | done | rfl | (simp only [List.length_drop, List.length_take]; rfl)) ?_; (with_reducible refine (swarfref29_fault.calls k a0 _ _ l1 t327 _ ?side1 ?side2 A3.out).mono ?_); (case side1 => repeat (first | exact HR1.out | (with_reducible refine Kd.C_alloc ?_ _) | (with_reducible refine Kd.C_drewN ?_ _) | (with_reducible refine Kd.C_drew ?_))); (case side2 => exact HC1.out); rintro e w15 ⟨rfl, hb⟩; refine ⟨_, rfl, ?_⟩; have n0_ := aK (bT_ (by repeat (first | (with_reducible first | exact HB.out | apply bA_ | apply bN_ | apply bD_) | exact HB.out)) hb); clear HB; have HB := n0_; clear n0_; (try clear hb); (try clear hb2); (try clear hk); (try clear hi)))
  go_ret2
  exact ⟨_, by first | rfl | (simp [errW_none, errW_some] <;> rfl) | (simp [*, errW_none, errW_some] <;> rfl), by first | exact Kd.R_nil _ _ _ _ _ | exact Kd.N_nil _ _ _ _ _ | exact Kd.V_nil _ _ _ _ _ | exact Kd.Q_nil _ _ _ _ _ | exact Kd.S_nil _ _ _ _ _, by repeat (first | (with_reducible first | exact HB.out | apply bA_ | apply bN_ | apply bD_) | exact HB.out)⟩

end Go.Proofs.Ytbbkclcfmcjlgaa.P



namespace Go.Proofs.Ytbbkclcfmcjlgaa.B
open Go.RowKit Go.Proofs.Ytbbkclcfmcjlgaa.P Go.Proofs.Ytbbkclcfmcjlgaa.Gr Go.Proofs.YtbbkclcfmcjlgaaW.PrintWords Go.Proofs.YtbbkclcfmcjlgaaW.PrintLast Go.Proofs.YtbbkclcfmcjlgaaW.PrintMore
set_option linter.unusedVariables false
set_option linter.unusedSimpArgs false

def bef (l : List S47) (i : Int) : List Int := (l.filter fun p => p.f1 == i).map fun p => p.f0
def beh (l : List S47) (i : Int) : List Int := (l.filter fun p => p.f0 == i).map fun p => p.f1
theorem mem_beh (l : List S47) (i k : Int) : k ∈ beh l i ↔ Rl l i k := by
 unfold beh Rl
 simp only [List.mem_map, List.mem_filter, beq_iff_eq]
 constructor
 ·rintro ⟨p, ⟨hp, rfl⟩, rfl⟩; exact hp
 ·intro h; exact ⟨_, ⟨h, rfl⟩, rfl⟩
theorem bef_snoc (l : List S47) (p : S47) (i : Int) : bef (l ++ [p]) i = if p.f1 = i then bef l i ++ [p.f0] else bef l i := by
 unfold bef
 rw [List.filter_append, List.map_append]
 by_cases h : p.f1 = i <;> simp [h]
theorem beh_snoc (l : List S47) (p : S47) (i : Int) : beh (l ++ [p]) i = if p.f0 = i then beh l i ++ [p.f1] else beh l i := by
 unfold beh
 rw [List.filter_append, List.map_append]
 by_cases h : p.f0 = i <;> simp [h]
theorem bef_len (l : List S47) (i : Int) : (bef l i).length ≤ l.length := by unfold bef; rw [List.length_map]; exact List.length_filter_le _ _
theorem beh_len (l : List S47) (i : Int) : (beh l i).length ≤ l.length := by unfold beh; rw [List.length_map]; exact List.length_filter_le _ _
theorem rd3_set_self (m : List (List Int)) (a : Int) (y : List Int) (h0 : 0 ≤ a) (h1 : a < (m.length : Int)) : rd_L3 (m.set a.toNat y) a = y := by
 unfold rd_L3
 rw [List.getD_eq_getElem?_getD, List.getElem?_set_self (by omega)]; rfl
theorem rd3_set_ne (m : List (List Int)) (a b : Int) (y : List Int) (h0 : 0 ≤ a) (hb : 0 ≤ b) (h : b ≠ a) : rd_L3 (m.set a.toNat y) b = rd_L3 m b := by
 unfold rd_L3
 rw [List.getD_eq_getElem?_getD, List.getElem?_set_ne (by omega), List.getD_eq_getElem?_getD]
theorem rd_set (m : List Int) (a b x : Int) (h0 : 0 ≤ a) (h1 : a < (m.length : Int)) (hb : 0 ≤ b) : rd (m.set a.toNat x) b = if b = a then x else rd m b := by
 unfold rd
 by_cases e : b = a
 ·subst e
  rw [if_pos rfl, List.getD_eq_getElem?_getD, List.getElem?_set_self (by omega)]; rfl
 ·rw [if_neg e, List.getD_eq_getElem?_getD, List.getElem?_set_ne (by omega), List.getD_eq_getElem?_getD]
theorem T47_mem (l : List S47) (j : Int) (h0 : 0 ≤ j) (h : j < (l.length : Int)) : rd_T47 l j ∈ l := List.mem_of_mem_drop (by rw [drop_T47 l j h0 h]; exact List.mem_cons_self)
theorem rd_mem (l : List Int) (j : Int) (h0 : 0 ≤ j) (h : j < (l.length : Int)) : rd l j ∈ l := List.mem_of_mem_drop (by rw [drop_rd l j h0 h]; exact List.mem_cons_self)
theorem take_T47 (l : List S47) (j : Int) (h0 : 0 ≤ j) (h : j < (l.length : Int)) : l.take (j + 1).toNat = l.take j.toNat ++ [rd_T47 l j] := by
 rw [show (j + 1).toNat = j.toNat + 1 by omega, List.take_succ_eq_append_getElem (by omega)]
 congr 2
 unfold rd_T47
 rw [List.getD_eq_getElem?_getD, List.getElem?_eq_getElem (by omega)]
 rfl
theorem take_rd (l : List Int) (j : Int) (h0 : 0 ≤ j) (h : j < (l.length : Int)) : l.take (j + 1).toNat = l.take j.toNat ++ [rd l j] := by
 rw [show (j + 1).toNat = j.toNat + 1 by omega, List.take_succ_eq_append_getElem (by omega)]
 congr 2
 unfold rd
 rw [List.getD_eq_getElem?_getD, List.getElem?_eq_getElem (by omega)]
 rfl
def RdOk (n : Int) (l : List S47) (u : List (List Int) × List (List Int)) : Prop :=
 (u.1.length : Int) = n ∧ (u.2.length : Int) = n ∧ ∀ i, 0 ≤ i → i < n → rd_L3 u.1 i = bef l i ∧ rd_L3 u.2 i = beh l i
theorem read_l0 {n : Int} {l : List S47} (hn : 0 ≤ n ∧ n ≤ 200) (hl : l.length ≤ 2000) (hok : ∀ p ∈ l, okp n p = true) (d : Nat) : ∀ (j : Int) (x y : List (List Int)), 0 ≤ j → j + d = l.length → RdOk n (l.take j.toNat) (x, y) → EvP (fun f => precedence_read.l0 f l (l.length : Int) j x y) (RdOk n l) := by
 induction d with
 | zero =>
  intro j x y j0 hj h
  rw [show l.take j.toNat = l from List.take_of_length_le (by omega)] at h
  exact EvP.stop (x, y) (fun f => by simp only [precedence_read.l0]; rw [if_neg (by omega)]) h
 | succ d ih =>
  intro j x y j0 hj h
  have hw := wrap_succ j j0 (by omega)
  have ho := (okp_iff _ _).1 (hok _ (T47_mem l j j0 (by omega)))
  have ht := take_T47 l j j0 (by omega)
  generalize hp : rd_T47 l j = p at ho ht
  obtain ⟨h1, h2, h3⟩ := h
  have h4 := h3 p.f0 ho.2.1.1 ho.2.1.2
  have h5 := h3 p.f1 ho.2.2.1 ho.2.2.2
  simp only at h1 h2 h3 h4 h5
  have l1 := bef_len (l.take j.toNat) p.f1
  have l2 := beh_len (l.take j.toNat) p.f0
  have l3 : (l.take j.toNat).length ≤ 2000 := by rw [List.length_take]; omega
  refine EvP.step (fun f => ?_) (ih (j + 1) (x.set p.f1.toNat (rd_L3 x p.f1 ++ [p.f0])) (y.set p.f0.toNat (rd_L3 y p.f0 ++ [p.f1])) (by omega) (by omega) ⟨by rw [List.length_set]; exact h1, by rw [List.length_set]; exact h2, fun i i0 i1 => ?_⟩)
  ·simp only [precedence_read.l0]
   rw [hp, if_pos (by omega), if_pos j0, if_pos (by omega), if_pos ho.2.1.1, if_pos (by omega), if_pos (by rw [h4.2]; omega), if_pos ho.2.2.1, if_pos (by omega), if_pos (by rw [h5.1]; omega), hw]
  ·rw [ht, bef_snoc, beh_snoc]
   refine ⟨?_, ?_⟩
   ·by_cases e : i = p.f1
    ·subst e
     rw [if_pos rfl]
     exact (rd3_set_self _ _ _ i0 (by omega)).trans (by rw [h5.1])
    ·rw [if_neg (Ne.symm e)]
     exact (rd3_set_ne _ _ _ _ ho.2.2.1 i0 e).trans (h3 i i0 i1).1
   ·by_cases e : i = p.f0
    ·subst e
     rw [if_pos rfl]
     exact (rd3_set_self _ _ _ i0 (by omega)).trans (by rw [h4.2])
    ·rw [if_neg (Ne.symm e)]
     exact (rd3_set_ne _ _ _ _ ho.2.1.1 i0 e).trans (h3 i i0 i1).2
theorem rd3_rep (n : Nat) (i : Int) : rd_L3 (List.replicate n []) i = [] := by
 unfold rd_L3
 rw [List.getD_eq_getElem?_getD, List.getElem?_replicate]
 split <;> rfl
theorem read_ev {n : Int} {l : List S47} (h : vErr n l = 0) : EvP (fun f => precedence_read.f f n l) (RdOk n l) := by
 obtain ⟨h1, h2, h3, h4⟩ := vErr_zero h
 unfold precedence_read.f
 simp only [if_pos h1, if_pos (show n.toNat ≤ 11728124029610 by omega)]
 refine read_l0 ⟨h1, h2⟩ h3 h4 l.length 0 _ _ (by omega) (by omega) ⟨by simp; omega, by simp; omega, fun i i0 i1 => ?_⟩
 rw [show (0 : Int).toNat = 0 from rfl, List.take_zero]
 exact ⟨rd3_rep _ _, rd3_rep _ _⟩

def Can (n : Int) (l : List S47) (o : List Int) (i : Int) : Prop := (0 ≤ i ∧ i < n) ∧ ¬ i ∈ o ∧ rdy l o i = true
def Nxt (n : Int) (l : List S47) (o : List Int) (i : Int) : Prop := Can n l o i ∧ ∀ j, j < i → ¬ Can n l o j
theorem least (P : Int → Prop) (h : ∃ i, 0 ≤ i ∧ P i) : ∃ i, (0 ≤ i ∧ P i) ∧ ∀ j, 0 ≤ j → j < i → ¬ P j := by
 obtain ⟨i, i0, hi⟩ := h
 have key : ∀ (m : Nat) (i : Int), 0 ≤ i → i.toNat ≤ m → P i → ∃ i, (0 ≤ i ∧ P i) ∧ ∀ j, 0 ≤ j → j < i → ¬ P j := by
  intro m
  induction m with
  | zero => intro i i0 hm hi; exact ⟨i, ⟨i0, hi⟩, fun j j0 hj => by omega⟩
  | succ m ih =>
   intro i i0 hm hi
   by_cases hx : ∃ j, 0 ≤ j ∧ j < i ∧ P j
   ·obtain ⟨j, j0, hj, hp⟩ := hx
    exact ih j j0 (by omega) hp
   ·exact ⟨i, ⟨i0, hi⟩, fun j j0 hj hp => hx ⟨j, j0, hj, hp⟩⟩
 exact key i.toNat i i0 (Nat.le_refl _) hi
theorem Nxt.of {n : Int} {l : List S47} {o : List Int} (h : ∃ i, Can n l o i) : ∃ i, Nxt n l o i := by
 obtain ⟨i, hi⟩ := h
 obtain ⟨k, hk, hm⟩ := least (Can n l o) ⟨i, hi.1.1, hi⟩
 exact ⟨k, hk.2, fun j hj hc => hm j hc.1.1 hj hc⟩
inductive Greedy (n : Int) (l : List S47) : List Int → Prop
 | nil : Greedy n l []
 | snoc {o : List Int} {i : Int} : Greedy n l o → Nxt n l o i → Greedy n l (o ++ [i])
def Lst (n : Int) (l : List S47) (o : List Int) : Prop := o.Nodup ∧ (∀ x ∈ o, 0 ≤ x ∧ x < n) ∧ Topo (Rl l) o
theorem Lst.snoc {n : Int} {l : List S47} {o : List Int} {i : Int} (h : Lst n l o) (hc : Can n l o i) : Lst n l (o ++ [i]) := by
 obtain ⟨h1, h2, h3⟩ := h
 refine ⟨?_, fun x hx => ?_, fun k x hx j hj => ?_⟩
 ·rw [List.nodup_append]
  exact ⟨h1, by simp, fun a ha b hb => by
   rw [List.mem_singleton] at hb
   subst hb
   exact fun e => hc.2.1 (e ▸ ha)⟩
 ·rcases List.mem_append.1 hx with hx | hx
  ·exact h2 x hx
  ·rw [List.mem_singleton] at hx; subst hx; exact hc.1
 ·by_cases hk : k < o.length
  ·rw [List.getElem?_append_left hk] at hx
   rw [List.take_append_of_le_length (by omega)]
   exact h3 k x hx j hj
  ·rw [List.getElem?_append_right (by omega)] at hx
   have hk0 : k - o.length = 0 := by
    rcases Nat.eq_zero_or_pos (k - o.length) with h0 | h0
    ·exact h0
    ·rw [List.getElem?_eq_none (by simp; omega)] at hx; cases hx
   rw [hk0] at hx
   have hxi : i = x := by simpa using hx
   subst hxi
   rw [show k = o.length by omega, List.take_append_of_le_length (Nat.le_refl _), List.take_length]
   exact (rdy_iff _ _ _).1 hc.2.2 j hj
theorem Lst.nil (n : Int) (l : List S47) : Lst n l [] := ⟨by simp, by simp, fun i x hx => by simp at hx⟩
theorem Greedy.lst {n : Int} {l : List S47} {o : List Int} (h : Greedy n l o) : Lst n l o := by
 induction h with
 | nil => exact Lst.nil n l
 | snoc _ h2 ih => exact ih.snoc h2.1
theorem Lst.len {n : Int} {l : List S47} {o : List Int} (h : Lst n l o) (hn : 0 ≤ n) : (o.length : Int) ≤ n := by
 have := pig n.toNat o h.1 (fun x hx => by have := h.2.1 x hx; omega)
 omega
theorem Lst.acyc {n : Int} {l : List S47} {o : List Int} (h : Lst n l o) (hok : ∀ p ∈ l, okp n p = true) (hl : (o.length : Int) = n) : Acyc (Rl l) :=
 h.2.2.acyc h.1 (rl_inn hok) (fun i i0 i1 => full_in h.1 h.2.1 hl i i0 i1)
theorem can_of_acyc {n : Int} {l : List S47} {o : List Int} (hok : ∀ p ∈ l, okp n p = true) (ha : Acyc (Rl l)) (hl : (o.length : Int) < n) : ∃ i, Nxt n l o i := by
 obtain ⟨i, hi, ho, hr⟩ := source (rl_inn hok) ha o (some_out hl)
 exact Nxt.of ⟨i, hi, ho, (rdy_iff _ _ _).2 hr⟩

def OrdOk (n : Int) (l : List S47) (t : List Int × Int) : Prop :=
 (vErr n l ≠ 0 ∧ t = ([], vErr n l)) ∨ (vErr n l = 0 ∧ ¬ Acyc (Rl l) ∧ t = ([], 12)) ∨ (vErr n l = 0 ∧ Acyc (Rl l) ∧ t.2 = 0 ∧ Greedy n l t.1 ∧ (t.1.length : Int) = n)
end Go.Proofs.Ytbbkclcfmcjlgaa.B


namespace Go.Proofs.Ytbbkclcfmcjlgaa.B
open Go.RowKit Go.Proofs.Ytbbkclcfmcjlgaa.P Go.Proofs.Ytbbkclcfmcjlgaa.Gr Go.Proofs.YtbbkclcfmcjlgaaW.PrintWords Go.Proofs.YtbbkclcfmcjlgaaW.PrintLast Go.Proofs.YtbbkclcfmcjlgaaW.PrintMore
set_option linter.unusedVariables false
set_option linter.unusedSimpArgs false

theorem index_l0 (m : List Int) (hm : m.length ≤ 100000000) (x : Int) (d : Nat) : ∀ j : Int, 0 ≤ j → j + d = m.length → (∀ i, 0 ≤ i → i < j → rd m i ≠ x) → EvP (fun f => slices_Index_int_int.l0 f m x (m.length : Int) j) (fun r => (r = -1 ∧ ∀ i, 0 ≤ i → i < (m.length : Int) → rd m i ≠ x) ∨ ((0 ≤ r ∧ r < (m.length : Int)) ∧ rd m r = x ∧ ∀ i, 0 ≤ i → i < r → rd m i ≠ x)) := by
 induction d with
 | zero =>
  intro j j0 hj h
  exact EvP.stop (-1) (fun f => by simp only [slices_Index_int_int.l0]; rw [if_neg (by omega)]) (.inl ⟨rfl, fun i i0 i1 => h i i0 (by omega)⟩)
 | succ d ih =>
  intro j j0 hj h
  have hw := wrap_succ j j0 (by omega)
  by_cases e : x = rd m j
  ·refine EvP.stop j (fun f => ?_) (.inr ⟨⟨j0, by omega⟩, e.symm, h⟩)
   simp only [slices_Index_int_int.l0]
   rw [if_pos (by omega), if_pos j0, if_pos (by omega), if_pos e]
  ·refine EvP.step (fun f => ?_) (ih (j + 1) (by omega) (by omega) (fun i i0 i1 => ?_))
   ·simp only [slices_Index_int_int.l0]
    rw [if_pos (by omega), if_pos j0, if_pos (by omega), if_neg e, hw]
   ·by_cases e2 : i = j
    ·subst e2; exact Ne.symm e
    ·exact h i i0 (by omega)
theorem index_ev (m : List Int) (hm : m.length ≤ 100000000) (x : Int) : EvP (fun f => slices_Index_int_int.f f m x) (fun r => (r = -1 ∧ ∀ i, 0 ≤ i → i < (m.length : Int) → rd m i ≠ x) ∨ ((0 ≤ r ∧ r < (m.length : Int)) ∧ rd m r = x ∧ ∀ i, 0 ≤ i → i < r → rd m i ≠ x)) := by
 unfold slices_Index_int_int.f
 exact index_l0 m hm x m.length 0 (by omega) (by omega) (fun i i0 i1 => by omega)

def cnt (l : List S47) (o : List Int) (k : Int) : Nat := l.countP fun p => p.f1 == k && !(decide (p.f0 ∈ o))
theorem cnt_nil (l : List S47) (k : Int) : cnt l [] k = (bef l k).length := by
 unfold cnt bef
 rw [List.length_map, List.countP_eq_length_filter]
 congr 1
 apply List.filter_congr
 intro p _
 simp
theorem cnt_zero (l : List S47) (o : List Int) (k : Int) : cnt l o k = 0 ↔ rdy l o k = true := by
 unfold cnt rdy
 rw [List.countP_eq_zero, List.all_eq_true]
 constructor
 ·intro h p hp
  have := h p hp
  simp only [Bool.and_eq_true, beq_iff_eq, Bool.not_eq_true', decide_eq_false_iff_not, not_and, Classical.not_not] at this
  exact decide_eq_true this
 ·intro h p hp
  have := of_decide_eq_true (h p hp)
  simp only [Bool.and_eq_true, beq_iff_eq, Bool.not_eq_true', decide_eq_false_iff_not, not_and, Classical.not_not]
  exact this
theorem cnt_cons (p : S47) (l : List S47) (o : List Int) (k : Int) : cnt (p :: l) o k = cnt l o k + if p.f1 = k ∧ ¬ p.f0 ∈ o then 1 else 0 := by
 unfold cnt
 rw [List.countP_cons]
 congr 1
 by_cases h1 : p.f1 = k <;> by_cases h2 : p.f0 ∈ o <;> simp [h1, h2]
theorem beh_cons (p : S47) (l : List S47) (i k : Int) : (beh (p :: l) i).count k = (beh l i).count k + if p.f0 = i ∧ p.f1 = k then 1 else 0 := by
 unfold beh
 rw [List.filter_cons]
 by_cases h0 : p.f0 = i
 ·rw [if_pos (show (p.f0 == i) = true by simpa using h0), List.map_cons, List.count_cons]
  by_cases h1 : p.f1 = k <;> simp [h0, h1]
 ·rw [if_neg (show ¬ (p.f0 == i) = true by simpa using h0), if_neg (fun h => h0 h.1)]; rfl
theorem cnt_snoc (l : List S47) (o : List Int) (i k : Int) (hi : ¬ i ∈ o) : cnt l o k = cnt l (o ++ [i]) k + (beh l i).count k := by
 induction l with
 | nil => rfl
 | cons p l ih =>
  rw [cnt_cons, cnt_cons, beh_cons, ih]
  by_cases h1 : p.f1 = k
  ·by_cases h0 : p.f0 = i
   ·have h2 : ¬ p.f0 ∈ o := by rw [h0]; exact hi
    have h3 : p.f0 ∈ o ++ [i] := by rw [h0]; simp
    rw [if_pos ⟨h1, h2⟩, if_neg (fun h => h.2 h3), if_pos ⟨h0, h1⟩]
    omega
   ·rw [if_neg (show ¬ (p.f0 = i ∧ p.f1 = k) from fun h => h0 h.1)]
    by_cases h2 : p.f0 ∈ o
    ·rw [if_neg (fun h => h.2 h2), if_neg (fun h => h.2 (List.mem_append_left _ h2))]
     omega
    ·rw [if_pos ⟨h1, h2⟩, if_pos ⟨h1, fun h => by simp [h2, h0] at h⟩]
     omega
  ·rw [if_neg (fun h => h1 h.1), if_neg (fun h => h1 h.1), if_neg (fun h => h1 h.2)]
   omega
theorem cnt_le (l : List S47) (o : List Int) (k : Int) : cnt l o k ≤ l.length := List.countP_le_length
def Mis (n : Int) (l : List S47) (o ms : List Int) : Prop := (ms.length : Int) = n ∧ ∀ k, 0 ≤ k → k < n → rd ms k = if k ∈ o then -1 else (cnt l o k : Int)
def Mid (n : Int) (l : List S47) (o : List Int) (i : Int) (t ms : List Int) : Prop := (ms.length : Int) = n ∧ ∀ k, 0 ≤ k → k < n → rd ms k = if k ∈ o ++ [i] then -1 else (cnt l o k : Int) - (t.count k : Int)
theorem order_l2 {n : Int} {l : List S47} (hn : 0 ≤ n ∧ n ≤ 200) (hl : l.length ≤ 2000) (hok : ∀ p ∈ l, okp n p = true) (o : List Int) (hlst : Lst n l o) (i : Int) (hi : Can n l o i) (x1 x2 : List (List Int)) (Post : List Int × Int → Prop)
  (hk : ∀ ms, Mis n l (o ++ [i]) ms → EvP (fun f => precedence_Order.l1 f n ms (o ++ [i]) x1 x2) Post) (d : Nat) : ∀ (j : Int) (ms : List Int), 0 ≤ j → j + d = (beh l i).length → Mid n l o i ((beh l i).take j.toNat) ms → EvP (fun f => precedence_Order.l2 f n ms o i (beh l i) ((beh l i).length : Int) j x1 x2) Post := by
 have hln := hlst.len hn.1
 induction d with
 | zero =>
  intro j ms j0 hj h
  rw [show (beh l i).take j.toNat = beh l i from List.take_of_length_le (by omega)] at h
  refine EvP.step (fun f => ?_) (hk ms ⟨h.1, fun k k0 k1 => ?_⟩)
  ·simp only [precedence_Order.l2]
   rw [if_neg (by omega), if_pos (by omega)]
  ·rw [h.2 k k0 k1, cnt_snoc l o i k hi.2.1]
   split
   ·rfl
   ·omega
 | succ d ih =>
  intro j ms j0 hj h
  have hlb := beh_len l i
  have hw := wrap_succ j j0 (by omega)
  have hmem := rd_mem (beh l i) j j0 (by omega)
  have ht := take_rd (beh l i) j j0 (by omega)
  have hdr := drop_rd (beh l i) j j0 (by omega)
  have hcount : ((beh l i).take (j + 1).toNat).count (rd (beh l i) j) ≤ (beh l i).count (rd (beh l i) j) := (List.take_sublist _ _).count_le _
  generalize hc : rd (beh l i) j = c at hmem ht hdr hcount
  have hR := (mem_beh l i c).1 hmem
  have hok2 := (okp_iff _ _).1 (hok _ hR)
  simp only at hok2
  have hco : ¬ c ∈ o := fun hm => by
   obtain ⟨q, hq⟩ := List.getElem?_of_mem hm
   exact hi.2.1 (List.mem_of_mem_take (hlst.2.2 q c hq i hR))
  have hci : ¬ c = i := fun e => hok2.1 e.symm
  have hv := h.2 c hok2.2.2.1 hok2.2.2.2
  rw [if_neg (by simp [hco, hci])] at hv
  have h1 := cnt_snoc l o i c hi.2.1
  have h2 := cnt_le l o c
  rw [ht, List.count_append, List.count_singleton, if_pos (by simp)] at hcount
  have hwm : wrap64 (rd ms c - 1) = rd ms c - 1 := wrap_mid _ (by omega) (by omega)
  have hlm := h.1
  refine EvP.step (fun f => ?_) (ih (j + 1) (ms.set c.toNat (rd ms c - 1)) (by omega) (by omega) ⟨by rw [List.length_set]; exact h.1, fun k k0 k1 => ?_⟩)
  ·simp only [precedence_Order.l2]
   rw [hc, if_pos (by omega), if_pos j0, if_pos (by omega), if_pos hok2.2.2.1, if_pos (by omega), hwm, hw]
  ·rw [rd_set ms c k _ hok2.2.2.1 (by omega) k0, ht, List.count_append, List.count_singleton]
   by_cases e : k = c
   ·subst e
    rw [if_pos rfl, hv, if_neg (by simp [hco, hci]), if_pos (by simp)]
    omega
   ·rw [if_neg e, h.2 k k0 k1, if_neg (show ¬ (c == k) = true by simpa using Ne.symm e)]
    rfl
theorem Mis.idx {n : Int} {l : List S47} {o ms : List Int} (h : Mis n l o ms) (k : Int) (k0 : 0 ≤ k) (k1 : k < n) : rd ms k = 0 ↔ Can n l o k := by
 rw [h.2 k k0 k1]
 by_cases hm : k ∈ o
 ·rw [if_pos hm]
  exact ⟨fun e => by omega, fun hc => absurd hm hc.2.1⟩
 ·rw [if_neg hm]
  constructor
  ·intro e
   exact ⟨⟨k0, k1⟩, hm, (cnt_zero l o k).1 (by omega)⟩
  ·intro hc
   have := (cnt_zero l o k).2 hc.2.2
   omega
theorem order_l1 {n : Int} {l : List S47} (hn : 0 ≤ n ∧ n ≤ 200) (hl : l.length ≤ 2000) (hok : ∀ p ∈ l, okp n p = true) (hz : vErr n l = 0) (x1 x2 : List (List Int)) (hx : RdOk n l (x1, x2)) (d : Nat) : ∀ (o ms : List Int), Greedy n l o → (o.length : Int) + d = n → Mis n l o ms → EvP (fun f => precedence_Order.l1 f n ms o x1 x2) (OrdOk n l) := by
 induction d with
 | zero =>
  intro o ms hg hd hm
  exact EvP.stop (o, 0) (fun f => by simp only [precedence_Order.l1]; rw [if_neg (by omega)]) (.inr (.inr ⟨hz, hg.lst.acyc hok (by simpa using hd), rfl, hg, by simpa using hd⟩))
 | succ d ih =>
  intro o ms hg hd hm
  refine EvP.step (f := fun f => (slices_Index_int_int.f f ms 0).bind fun t117 => (if t117 < 0 then (some (([] : List Int), 12)) else (if 0 ≤ t117 then (if t117 < (ms.length : Int) then (if t117 < (x2.length : Int) then (precedence_Order.l2 f n (ms.set (t117 : Int).toNat (-1)) o t117 (rd_L3 x2 t117) ((rd_L3 x2 t117).length : Int) 0 x1 x2) else (none)) else (none)) else (none)))) (fun f => ?_) ?_
  ·simp only [precedence_Order.l1]
   rw [if_pos (by omega)]
  ·have hml := hm.1
   have hx2 := hx.2.1
   simp only at hx2
   refine EvP.bindP (index_ev ms (by omega) 0) (fun r hr => ?_)
   rcases hr with ⟨rfl, hr⟩ | ⟨hr1, hr2, hr3⟩
   ·simp only [if_pos (show (-1 : Int) < 0 by omega)]
    refine ⟨_, Ev.now _, .inr (.inl ⟨hz, fun ha => ?_, rfl⟩)⟩
    obtain ⟨i, hi⟩ := can_of_acyc hok ha (show (o.length : Int) < n by omega)
    exact hr i hi.1.1.1 (by have := hi.1.1; omega) ((hm.idx i hi.1.1.1 hi.1.1.2).2 hi.1)
   ·have hc : Can n l o r := (hm.idx r hr1.1 (by omega)).1 hr2
    have hnx : Nxt n l o r := ⟨hc, fun j hj hcj => hr3 j hcj.1.1 hj ((hm.idx j hcj.1.1 hcj.1.2).2 hcj)⟩
    simp only [if_neg (show ¬ r < 0 by omega), if_pos hr1.1, if_pos hr1.2, if_pos (show r < (x2.length : Int) by omega)]
    rw [(hx.2.2 r hr1.1 (by omega)).2]
    refine order_l2 hn hl hok o hg.lst r hc x1 x2 _ (fun ms' h' => ih (o ++ [r]) ms' (hg.snoc hnx) (by rw [List.length_append]; simp; omega) h') (beh l r).length 0 _ (by omega) (by omega) ⟨by rw [List.length_set]; exact hm.1, fun k k0 k1 => ?_⟩
    rw [rd_set ms r k (-1) hr1.1 hr1.2 k0, show (0 : Int).toNat = 0 from rfl, List.take_zero, List.count_nil]
    by_cases e : k = r
    ·subst e
     rw [if_pos rfl, if_pos (by simp)]
    ·rw [if_neg e, hm.2 k k0 k1]
     by_cases hmo : k ∈ o
     ·rw [if_pos hmo, if_pos (List.mem_append_left _ hmo)]
     ·rw [if_neg hmo, if_neg (by simp [hmo, e])]
      omega
theorem order_l0 {n : Int} {l : List S47} (hn : 0 ≤ n ∧ n ≤ 200) (hl : l.length ≤ 2000) (hok : ∀ p ∈ l, okp n p = true) (hz : vErr n l = 0) (x1 x2 : List (List Int)) (hx : RdOk n l (x1, x2)) (d : Nat) : ∀ (j : Int) (ms : List Int), 0 ≤ j → j + d = n → (ms.length : Int) = n → (∀ k, 0 ≤ k → k < j → rd ms k = ((bef l k).length : Int)) → EvP (fun f => precedence_Order.l0 f n ms x1 n j x1 x2) (OrdOk n l) := by
 induction d with
 | zero =>
  intro j ms j0 hj hm h
  refine EvP.step (fun f => ?_) (order_l1 hn hl hok hz x1 x2 hx n.toNat [] ms .nil (by simp; omega) ⟨hm, fun k k0 k1 => ?_⟩)
  ·simp only [precedence_Order.l0]
   rw [if_neg (by omega)]
  ·rw [if_neg (by simp), cnt_nil]
   exact h k k0 (by omega)
 | succ d ih =>
  intro j ms j0 hj hm h
  have hw := wrap_succ j j0 (by omega)
  have hx1 := hx.1
  simp only at hx1
  refine EvP.step (fun f => ?_) (ih (j + 1) (ms.set j.toNat ((rd_L3 x1 j).length : Int)) (by omega) (by omega) (by rw [List.length_set]; exact hm) (fun k k0 k1 => ?_))
  ·simp only [precedence_Order.l0]
   rw [if_pos (by omega), if_pos j0, if_pos (by omega), if_pos (by omega), hw]
  ·rw [rd_set ms j k _ j0 (by omega) k0]
   by_cases e : k = j
   ·subst e
    rw [if_pos rfl, (hx.2.2 k k0 (by omega)).1]
   ·rw [if_neg e]
    exact h k k0 (by omega)
theorem order_ev (n : Int) (l : List S47) (hl : l.length ≤ 100000000000000) : EvP (fun f => precedence_Order.f f n l) (OrdOk n l) := by
 unfold precedence_Order.f
 refine EvP.bind (valid_ev n l hl) ?_
 by_cases z : vErr n l = 0
 ·simp only [if_pos z]
  obtain ⟨k1, k2, k3, k4⟩ := vErr_zero z
  refine EvP.bindP (read_ev z) (fun u hu => ?_)
  obtain ⟨x1, x2⟩ := u
  have hx1 := hu.1
  simp only at hx1
  simp only [if_pos k1, if_pos (show n.toNat ≤ 35184372088832 by omega), hx1]
  exact order_l0 ⟨k1, k2⟩ k3 k4 z x1 x2 hu n.toNat 0 _ (by omega) (by omega) (by simp; omega) (fun k k0 k1 => by omega)
 ·simp only [if_neg z]
  exact ⟨_, Ev.now _, .inl ⟨z, rfl⟩⟩
end Go.Proofs.Ytbbkclcfmcjlgaa.B
