import Derived.Test.YtbbkclcfmcjlgaaT8M21
import Derived.Test.YtbbkclcfmcjlgaaT8Px35
import Derived.Test.YtbbkclcfmcjlgaaT8M26
import Derived.Test.YtbbkclcfmcjlgaaT8M27
import Derived.Test.YtbbkclcfmcjlgaaT8M24
import Derived.Test.YtbbkclcfmcjlgaaT8M23


namespace Go.Proofs.Ytbbkclcfmcjlgaa.P
open Go.RowKit Go.Proofs.YtbbkclcfmcjlgaaW.PrintWords Go.Proofs.YtbbkclcfmcjlgaaW.PrintLast Go.Proofs.YtbbkclcfmcjlgaaW.PrintMore
attribute [local go_sem] max2_int min2_int max_two min_two max_three min_three max_four min_four
set_option linter.unusedVariables false
set_option linter.unusedSimpArgs false

def swarfref29_Cyclic.l0 : Nat → Int → List (List Bool) → Int → Option (Bool)
 | 0, _, _, _ => none
 | k + 1, x0, x5, x6 => if x6 < x0 then (if 0 ≤ x6 then (if x6 < (x5.length : Int) then (if x6 < ((rd_L7 x5 x6).length : Int) then (if rdOf false (rd_L7 x5 x6) x6 = true then (some true) else (swarfref29_Cyclic.l0 k x0 x5 (wrap64 (x6 + 1)))) else (none)) else (none)) else (none)) else (some false)
def swarfref29_Cyclic.f (k : Nat) (a0 : Int) (l1 : List (S47)) : Option (Bool) := (swarfref29_Depends.f k a0 l1).bind fun t307 => (swarfref29_Cyclic.l0 k a0 t307 0)
set_option maxHeartbeats 8000000 in
set_option maxRecDepth 100000 in
theorem swarfref29_Cyclic.calls (k : Nat) (a0 : Int) (A1 : Option Addr) (c1 : Nat) (l1 : List (S47)) (r : Bool) (w : World) (hr1 : Kd.C k47 w A1 l1.length l1) (hc1 : l1.length ≤ c1) (h : swarfref29_Cyclic.f k a0 l1 = some r) :
  Calls Try.prog 23 #[.int .i64 a0, .slice A1 l1.length c1] w fun e w' => e = .returned (.bool r) ∧ Below w.heap.size w w' := by
 have HR1 := aK hr1
 have HC1 := aK hc1
 clear hr1 hc1
 have HB := aK (Below.refl w.heap.size w)
 have H : ((swarfref29_Depends.f k a0 l1).bind fun t307 => (swarfref29_Cyclic.l0 k a0 t307 0)) = some r := h
 clear h
 replace H := oB_ H
 obtain ⟨t307, A30, H⟩ := H
 replace H : (swarfref29_Cyclic.l0 k a0 t307 0) = some r := H
 have A3 := aK A30
 clear A30
 have H' := aK H
 clear H
 go_enter Try.func23, Try.ntmps23
 go_wp2_with (first | ((with_reducible refine gate_callee (f := 44) rfl ?_); refine goesL_ (some 9) rfl rfl Try.func44 (by kernel_rfl) rfl #[.int .i64 a0, .slice A1 l1.length c1] rfl (by (try simp only [List.map_toArray, List.map_cons, List.map_nil]); first | done | rfl | (simp only [List.length_drop, List.length_take]; rfl)) ?_; (with_reducible refine (swarfref29_Depends.calls k a0 _ _ l1 t307 _ ?side1 ?side2 A3.out).mono ?_); (case side1 => repeat (first | exact HR1.out | (with_reducible refine Kd.C_alloc ?_ _) | (with_reducible refine Kd.C_drewN ?_ _) | (with_reducible refine Kd.C_drew ?_))); (case side2 => exact HC1.out); rintro e w4 ⟨v308, rfl, ho0, hb⟩; refine ⟨_, rfl, ?_⟩; have n0_ := aK (Kd.S_lower ho0 (bZ_ (by repeat (first | (with_reducible first | exact HB.out | apply bA_ | apply bN_ | apply bD_) | exact HB.out)))); have n1_ := aK (bT_ (by repeat (first | (with_reducible first | exact HB.out | apply bA_ | apply bN_ | apply bD_) | exact HB.out)) hb); clear HB; have HO309 := n0_; have HB := n1_; clear n0_ n1_; (try clear hb); (try clear hb2); (try clear hk); (try clear hi); (try clear ho0)))
 go_loopg [6] k (fun kq v6 w' => ∃ (x6_1 : Int), v6 = .int .i64 x6_1 ∧ Aside0 (swarfref29_Cyclic.l0 kq a0 t307 x6_1 = some r) ∧ Aside0 (kq ≤ k) ∧ Aside0 (Kd.S (Kd.slice 4 Kd.bool) 52 w' w.heap.size (fun _ => True) v308 t307) ∧ Aside0 (Below w.heap.size w w'))
 case atStart => exact ⟨(0), (by first | rfl | (simp; done) | (simp [*]; done)), H', ⟨Nat.le_refl _⟩, ⟨by (with_reducible repeat (first | apply Kd.S_alloc | apply Kd.S_drewN | apply Kd.S_drew)); exact HO309.out⟩, ⟨by repeat (first | (with_reducible first | exact HB.out | apply bA_ | apply bN_ | apply bD_) | exact HB.out)⟩⟩
 case round =>
  clear H'; try clear c1; try clear c2; try clear p2; try clear c4
  obtain ⟨x6_1, rfl, HA, HK1, HO_5, HB⟩ := hrel
  cases gk with
  | zero => exact absurd HA.out (by simp [swarfref29_Cyclic.l0])
  | succ k1 =>
   have H := HA.out
   clear HA
   simp only [swarfref29_Cyclic.l0] at H
   by_cases c5 : x6_1 < a0
   ·rw [if_pos c5] at H
    have c5b0 : decide (x6_1 < a0) = true := decide_eq_true c5
    clear c5
    by_cases c6 : 0 ≤ x6_1
    ·rw [if_pos c6] at H
     have c6b0 : decide (0 ≤ x6_1) = true := decide_eq_true c6
     clear c6
     by_cases c7 : x6_1 < (t307.length : Int)
     ·rw [if_pos c7] at H
      have c7b0 : decide (x6_1 < (t307.length : Int)) = true := decide_eq_true c7
      clear c7
      by_cases c8 : x6_1 < ((rd_L7 t307 x6_1).length : Int)
      ·rw [if_pos c8] at H
       have c8b0 : decide (x6_1 < ((rd_L7 t307 x6_1).length : Int)) = true := decide_eq_true c8
       clear c8
       obtain ⟨bq9, hbq9⟩ : ∃ b_ : Bool, b_ = (rdOf false (rd_L7 t307 x6_1) x6_1) := ⟨_, rfl⟩
       replace H : (if bq9 = true then (some true) else (swarfref29_Cyclic.l0 k1 a0 t307 (wrap64 (x6_1 + 1)))) = some r := by rw [← hbq9] at H; exact H
       have Nbq9 := aK hbq9; clear hbq9
       by_cases c10 : bq9 = true
       ·subst c10
        have H1 : (some true) = some r := by rw [if_pos rfl] at H; exact H
        clear H; have H := H1; clear H1; obtain rfl := Option.some.inj H
        obtain ⟨Ao11, co11, eo11⟩ := Kd.S_slice HO_5.out
        subst eo11
        have p310 : 0 ≤ (x6_1 : Int) := of_decide_eq_true (by first | (with_reducible assumption) | assumption)
        have q310 : x6_1 < (t307.length : Int) := of_decide_eq_true (by first | (with_reducible assumption) | assumption)
        obtain ⟨ad310, A310_0, c310_0, e310, hx310_0, hl310_0, hi310_0⟩ := at_L7 (Kd.S_reads' HO_5.out).2.2 x6_1 p310 q310
        cases e310
        obtain ⟨ce310, hce310, hMe310, hcc310⟩ := Kd.S_get HO_5.out [] x6_1 p310 (by first | exact q310 | exact of_decide_eq_true (by first | (with_reducible assumption) | assumption) | (have e_ := (Kd.S_reads' HO_5.out).1; omega))
        obtain ⟨ve310_0, rfl, ge310_0⟩ := hMe310
        have hv310_0 := hcc310 0 _ rfl
        rw [Nat.add_zero, show ((Kd.slice 4 Kd.bool)).sz = 1 from rfl, Nat.mul_one] at hv310_0
        replace hv310_0 := Option.some.inj (hv310_0.symm.trans hx310_0)
        rw [hv310_0] at ge310_0
        have HL310_0 := aK (show Kd.R Kd.bool 4 _ _ _ _ (rd_L7 t307 x6_1) from ge310_0)
        clear hv310_0 ge310_0; clear hcc310 hce310; have HR310_0 := aK hi310_0; have HC310_0 := aK hl310_0; clear hi310_0 hl310_0; replace p310 := eq_true p310; replace q310 := eq_true q310
        have p311 : 0 ≤ (x6_1 : Int) := of_decide_eq_true (by first | (with_reducible assumption) | assumption)
        have q311 : x6_1 < ((rd_L7 t307 x6_1).length : Int) := of_decide_eq_true (by first | (with_reducible assumption) | assumption)
        obtain ⟨ad311, e311, hx311_0⟩ := Kd.at_bool (by repeat (first | (with_reducible exact HR310_0.out) | (with_reducible refine Kd.C_alloc ?_ _) | (with_reducible refine Kd.C_drewN ?_ _) | (with_reducible refine Kd.C_drew ?_) | exact HR310_0.out)) x6_1 p311 q311
        (try rw [← Nbq9.out] at hx311_0)
        cases e311; replace p311 := eq_true p311; replace q311 := eq_true q311; go_wp2; go_ret
        exact ⟨by first | rfl | (simp [errW_none, errW_some] <;> rfl) | (simp [*, errW_none, errW_some] <;> rfl), by repeat (first | (with_reducible first | exact HB.out | apply bA_ | apply bN_ | apply bD_) | exact HB.out)⟩
       ·replace c10 := Bool.eq_false_iff.mpr c10
        subst c10
        have H1 : (swarfref29_Cyclic.l0 k1 a0 t307 (wrap64 (x6_1 + 1))) = some r := by rw [if_neg (show ¬ (false = true) by decide)] at H; exact H
        clear H; have H := H1; clear H1; have H' := aK H; clear H
        obtain ⟨Ao12, co12, eo12⟩ := Kd.S_slice HO_5.out
        subst eo12
        have p310 : 0 ≤ (x6_1 : Int) := of_decide_eq_true (by first | (with_reducible assumption) | assumption)
        have q310 : x6_1 < (t307.length : Int) := of_decide_eq_true (by first | (with_reducible assumption) | assumption)
        obtain ⟨ad310, A310_0, c310_0, e310, hx310_0, hl310_0, hi310_0⟩ := at_L7 (Kd.S_reads' HO_5.out).2.2 x6_1 p310 q310
        cases e310
        obtain ⟨ce310, hce310, hMe310, hcc310⟩ := Kd.S_get HO_5.out [] x6_1 p310 (by first | exact q310 | exact of_decide_eq_true (by first | (with_reducible assumption) | assumption) | (have e_ := (Kd.S_reads' HO_5.out).1; omega))
        obtain ⟨ve310_0, rfl, ge310_0⟩ := hMe310
        have hv310_0 := hcc310 0 _ rfl
        rw [Nat.add_zero, show ((Kd.slice 4 Kd.bool)).sz = 1 from rfl, Nat.mul_one] at hv310_0
        replace hv310_0 := Option.some.inj (hv310_0.symm.trans hx310_0)
        rw [hv310_0] at ge310_0
        have HL310_0 := aK (show Kd.R Kd.bool 4 _ _ _ _ (rd_L7 t307 x6_1) from ge310_0)
        clear hv310_0 ge310_0; clear hcc310 hce310; have HR310_0 := aK hi310_0; have HC310_0 := aK hl310_0; clear hi310_0 hl310_0; replace p310 := eq_true p310; replace q310 := eq_true q310
        have p311 : 0 ≤ (x6_1 : Int) := of_decide_eq_true (by first | (with_reducible assumption) | assumption)
        have q311 : x6_1 < ((rd_L7 t307 x6_1).length : Int) := of_decide_eq_true (by first | (with_reducible assumption) | assumption)
        obtain ⟨ad311, e311, hx311_0⟩ := Kd.at_bool (by repeat (first | (with_reducible exact HR310_0.out) | (with_reducible refine Kd.C_alloc ?_ _) | (with_reducible refine Kd.C_drewN ?_ _) | (with_reducible refine Kd.C_drew ?_) | exact HR310_0.out)) x6_1 p311 q311
        (try rw [← Nbq9.out] at hx311_0)
        cases e311; replace p311 := eq_true p311; replace q311 := eq_true q311; go_wp2
        go_roundg k1
        case measure => have := HK1.out; omega
        case rel => exact ⟨(wrap64 (x6_1 + 1)), (by first | rfl | (simp; done) | (simp [*]; done)), H', ⟨by have := HK1.out; omega⟩, ⟨by (with_reducible repeat (first | apply Kd.S_alloc | apply Kd.S_drewN | apply Kd.S_drew)); exact HO_5.out⟩, ⟨by repeat (first | (with_reducible first | exact HB.out | apply bA_ | apply bN_ | apply bD_) | exact HB.out)⟩⟩
      ·rw [if_neg c8] at H
       exact absurd H (by simp)
     ·rw [if_neg c7] at H
      exact absurd H (by simp)
    ·rw [if_neg c6] at H
     exact absurd H (by simp)
   ·rw [if_neg c5] at H
    have c5b0 : decide (x6_1 < a0) = false := decide_eq_false c5
    clear c5; obtain rfl := Option.some.inj H; go_wp2; go_ret
    exact ⟨by first | rfl | (simp [errW_none, errW_some] <;> rfl) | (simp [*, errW_none, errW_some] <;> rfl), by repeat (first | (with_reducible first | exact HB.out | apply bA_ | apply bN_ | apply bD_) | exact HB.out)⟩

end Go.Proofs.Ytbbkclcfmcjlgaa.P


namespace Go.Proofs.Ytbbkclcfmcjlgaa.P
open Go.RowKit Go.Proofs.YtbbkclcfmcjlgaaW.PrintWords Go.Proofs.YtbbkclcfmcjlgaaW.PrintLast Go.Proofs.YtbbkclcfmcjlgaaW.PrintMore
attribute [local go_sem] max2_int min2_int max_two min_two max_three min_three max_four min_four
set_option linter.unusedVariables false
set_option linter.unusedSimpArgs false

mutual
def swarfref29_Changes.l0 : Nat → List Int → List Int → Int → Int → Option (Int)
 | 0, _, _, _, _ => none
 | k + 1, x0, x1, x5, x6 => if x6 < (x0.length : Int) then (if 0 ≤ x6 then (if (rd x0 x6) < 0 then (swarfref29_Changes.j1 k x0 x1 x5 x6 true) else (swarfref29_Changes.j1 k x0 x1 x5 x6 (decide ((rd x0 x6) ≥ (x1.length : Int))))) else (none)) else (some x5)
def swarfref29_Changes.j1 : Nat → List Int → List Int → Int → Int → Bool → Option (Int)
 | 0, _, _, _, _, _ => none
 | k + 1, x0, x1, x5, x6, x26 => if x26 = true then (some (-1)) else (if x6 > 0 then (if 0 ≤ x6 then (if x6 < (x0.length : Int) then (if 0 ≤ (rd x0 x6) then (if (rd x0 x6) < (x1.length : Int) then (if 0 ≤ (wrap64 (x6 - 1)) then (if (wrap64 (x6 - 1)) < (x0.length : Int) then (if 0 ≤ (rd x0 (wrap64 (x6 - 1))) then (if (rd x0 (wrap64 (x6 - 1))) < (x1.length : Int) then (if (rd x1 (rd x0 x6)) = (rd x1 (rd x0 (wrap64 (x6 - 1)))) then (swarfref29_Changes.l0 k x0 x1 x5 (wrap64 (x6 + 1))) else (swarfref29_Changes.l0 k x0 x1 (wrap64 (x5 + 1)) (wrap64 (x6 + 1)))) else (none)) else (none)) else (none)) else (none)) else (none)) else (none)) else (none)) else (none)) else (swarfref29_Changes.l0 k x0 x1 x5 (wrap64 (x6 + 1))))
end
def swarfref29_Changes.f (k : Nat) (l0 : List Int) (l1 : List Int) : Option (Int) := swarfref29_Changes.l0 k l0 l1 0 0
set_option maxHeartbeats 8000000 in
set_option maxRecDepth 100000 in
theorem swarfref29_Changes.calls (k : Nat) (A0 : Option Addr) (c0 : Nat) (l0 : List Int) (A1 : Option Addr) (c1 : Nat) (l1 : List Int) (r : Int) (w : World) (hr0 : Kd.C (Kd.int .i64) w A0 l0.length l0) (hc0 : l0.length ≤ c0) (hr1 : Kd.C (Kd.int .i64) w A1 l1.length l1) (hc1 : l1.length ≤ c1) (h : swarfref29_Changes.f k l0 l1 = some r) :
  Calls Try.prog 30 #[.slice A0 l0.length c0, .slice A1 l1.length c1] w fun e w' => e = .returned (.int .i64 r) ∧ Drawn0 w w' := by
 have HR0 := aK hr0
 have HC0 := aK hc0
 clear hr0 hc0
 have HR1 := aK hr1
 have HC1 := aK hc1
 clear hr1 hc1
 have H : (swarfref29_Changes.l0 k l0 l1 0 0) = some r := h
 clear h
 have H' := aK H
 clear H
 go_enter Try.func30, Try.ntmps30
 go_wp2
 repeat (go_quiet (fail); try go_wp2)
 go_loopg [5, 6] k (fun kq v5 v6 w' => ∃ (x5_1 : Int) (x6_1 : Int), v5 = .int .i64 x5_1 ∧ v6 = .int .i64 x6_1 ∧ Aside0 (swarfref29_Changes.l0 kq l0 l1 x5_1 x6_1 = some r) ∧ Aside0 (kq ≤ k) ∧ Drawn0 w w')
 case atStart => exact ⟨(0), (0), (by first | rfl | (simp; done) | (simp [*]; done)), (by first | rfl | (simp; done) | (simp [*]; done)), H', ⟨Nat.le_refl _⟩, by repeat (first | exact Drawn0.refl _ | apply Drawn0.step)⟩
 case round =>
  clear H'; try clear c1; try clear p2
  obtain ⟨x5_1, x6_1, rfl, rfl, HA, HK1, ⟨m1, rfl⟩⟩ := hrel
  cases gk with
  | zero => exact absurd HA.out (by simp [swarfref29_Changes.l0])
  | succ k1 =>
   have H := HA.out
   clear HA
   simp only [swarfref29_Changes.l0] at H
   by_cases c3 : x6_1 < (l0.length : Int)
   ·rw [if_pos c3] at H
    have c3b0 : decide (x6_1 < (l0.length : Int)) = true := decide_eq_true c3
    clear c3; have HC4 := aK H; clear H
    go_upto_region 5 with (fail)
    repeat (go_quiet (fail); go_upto_region 5 with (fail))
    go_cut [26] (fun v26 wc => ∃ (kq : Nat) (x26_3 : Bool), v26 = .bool x26_3 ∧ Aside0 (swarfref29_Changes.j1 kq l0 l1 x5_1 x6_1 x26_3 = some r) ∧ Aside0 (kq ≤ k1) ∧ Drawn0 w wc)
    case first =>
     have H := HC4.out
     clear HC4
     by_cases c5 : 0 ≤ x6_1
     ·rw [if_pos c5] at H
      have c5b0 : decide (0 ≤ x6_1) = true := decide_eq_true c5
      clear c5
      (first | rw [c5b0] | (simp only [i64_w, i32_w]; rw [c5b0]) | skip)
      by_cases c6 : (rd l0 x6_1) < 0
      ·rw [if_pos c6] at H
       have c6b0 : decide ((rd l0 x6_1) < 0) = true := decide_eq_true c6
       clear c6; have H' := aK H; clear H
       have p349 : 0 ≤ (x6_1 : Int) := of_decide_eq_true (by first | (with_reducible assumption) | assumption)
       have q349 : x6_1 < (l0.length : Int) := of_decide_eq_true (by first | (with_reducible assumption) | assumption)
       obtain ⟨ad349, e349, hx349_0⟩ := Kd.at_int HR0.out x6_1 p349 q349
       cases e349; replace p349 := eq_true p349; replace q349 := eq_true q349; go_wp2
       repeat (go_quiet (fail); try go_wp2)
       go_meet
       case rel => exact ⟨_, (true), (by first | rfl | (simp; done) | (simp [*]; done)), H', ⟨by have := HK1.out; first | omega | exact Nat.le_refl _⟩, by repeat (first | exact Drawn0.refl _ | apply Drawn0.step)⟩
      ·rw [if_neg c6] at H
       have c6b0 : decide ((rd l0 x6_1) < 0) = false := decide_eq_false c6
       clear c6; have H' := aK H; clear H
       have p349 : 0 ≤ (x6_1 : Int) := of_decide_eq_true (by first | (with_reducible assumption) | assumption)
       have q349 : x6_1 < (l0.length : Int) := of_decide_eq_true (by first | (with_reducible assumption) | assumption)
       obtain ⟨ad349, e349, hx349_0⟩ := Kd.at_int HR0.out x6_1 p349 q349
       cases e349; replace p349 := eq_true p349; replace q349 := eq_true q349
       have p350 : 0 ≤ (x6_1 : Int) := of_decide_eq_true (by first | (with_reducible assumption) | assumption)
       have q350 : x6_1 < (l0.length : Int) := of_decide_eq_true (by first | (with_reducible assumption) | assumption)
       obtain ⟨ad350, e350, hx350_0⟩ := Kd.at_int HR0.out x6_1 p350 q350
       obtain rfl : ad349 = ad350 := (by injection e350)
       replace p350 := eq_true p350; replace q350 := eq_true q350; go_wp2
       repeat (go_quiet (fail); try go_wp2)
       go_meet
       case rel => exact ⟨_, (decide ((rd l0 x6_1) ≥ (l1.length : Int))), (by first | rfl | (simp; done) | (simp [*]; done)), H', ⟨by have := HK1.out; first | omega | exact Nat.le_refl _⟩, by repeat (first | exact Drawn0.refl _ | apply Drawn0.step)⟩
     ·rw [if_neg c5] at H
      exact absurd H (by simp)
    case rest =>
     clear HC4; try clear c1; try clear p2; try clear c3; try clear c3b0; try clear p3; try clear q3; try clear hx3; try clear c5; try clear c5b0; try clear c6; try clear c6b0; try clear hx349_0; try clear hx350_0; try clear p2; try clear p349; try clear p350; try clear q349; try clear q350
     obtain ⟨kq, x26_3, rfl, HA, HJ3, ⟨mc3, rfl⟩⟩ := hcut
     cases kq with
     | zero => exact absurd HA.out (by simp [swarfref29_Changes.j1])
     | succ kj3 =>
      have H := HA.out
      clear HA
      simp only [swarfref29_Changes.j1] at H
      by_cases c7 : x26_3 = true
      ·subst c7
       have H1 : (some (-1)) = some r := by rw [if_pos rfl] at H; exact H
       clear H; have H := H1; clear H1; obtain rfl := Option.some.inj H; go_wp2
       repeat (go_quiet (fail); try go_wp2)
       go_ret
       exact ⟨by first | rfl | (simp; done) | (simp [*]; done), by repeat (first | exact Drawn0.refl _ | apply Drawn0.step)⟩
      ·replace c7 := Bool.eq_false_iff.mpr c7
       subst c7
       have H1 : (if x6_1 > 0 then (if 0 ≤ x6_1 then (if x6_1 < (l0.length : Int) then (if 0 ≤ (rd l0 x6_1) then (if (rd l0 x6_1) < (l1.length : Int) then (if 0 ≤ (wrap64 (x6_1 - 1)) then (if (wrap64 (x6_1 - 1)) < (l0.length : Int) then (if 0 ≤ (rd l0 (wrap64 (x6_1 - 1))) then (if (rd l0 (wrap64 (x6_1 - 1))) < (l1.length : Int) then (if (rd l1 (rd l0 x6_1)) = (rd l1 (rd l0 (wrap64 (x6_1 - 1)))) then (swarfref29_Changes.l0 kj3 l0 l1 x5_1 (wrap64 (x6_1 + 1))) else (swarfref29_Changes.l0 kj3 l0 l1 (wrap64 (x5_1 + 1)) (wrap64 (x6_1 + 1)))) else (none)) else (none)) else (none)) else (none)) else (none)) else (none)) else (none)) else (none)) else (swarfref29_Changes.l0 kj3 l0 l1 x5_1 (wrap64 (x6_1 + 1)))) = some r := by rw [if_neg (show ¬ (false = true) by decide)] at H; exact H
       clear H; have H := H1; clear H1
       by_cases c8 : x6_1 > 0
       ·rw [if_pos c8] at H
        have c8b0 : decide (0 < x6_1) = true := decide_eq_true c8
        clear c8
        by_cases c9 : 0 ≤ x6_1
        ·rw [if_pos c9] at H
         have c9b0 : decide (0 ≤ x6_1) = true := decide_eq_true c9
         clear c9
         by_cases c10 : x6_1 < (l0.length : Int)
         ·rw [if_pos c10] at H
          have c10b0 : decide (x6_1 < (l0.length : Int)) = true := decide_eq_true c10
          clear c10
          by_cases c11 : 0 ≤ (rd l0 x6_1)
          ·rw [if_pos c11] at H
           have c11b0 : decide (0 ≤ (rd l0 x6_1)) = true := decide_eq_true c11
           clear c11
           by_cases c12 : (rd l0 x6_1) < (l1.length : Int)
           ·rw [if_pos c12] at H
            have c12b0 : decide ((rd l0 x6_1) < (l1.length : Int)) = true := decide_eq_true c12
            clear c12
            obtain ⟨ji13, hji13⟩ : ∃ j_ : Int, (wrap64 (x6_1 - 1)) = j_ := ⟨_, rfl⟩
            replace H : (if 0 ≤ (ji13) then (if (ji13) < (l0.length : Int) then (if 0 ≤ (rd l0 (ji13)) then (if (rd l0 (ji13)) < (l1.length : Int) then (if (rd l1 (rd l0 x6_1)) = (rd l1 (rd l0 (ji13))) then (swarfref29_Changes.l0 kj3 l0 l1 x5_1 (wrap64 (x6_1 + 1))) else (swarfref29_Changes.l0 kj3 l0 l1 (wrap64 (x5_1 + 1)) (wrap64 (x6_1 + 1)))) else (none)) else (none)) else (none)) else (none)) = some r := by first | (rw [hji13] at H; exact H) | (simp only [hji13] at H ⊢; exact H)
            have hji13w : (IntKind.i64.wrap (x6_1 - 1)) = ji13 := (i64_w _).trans hji13
            by_cases c14 : 0 ≤ (ji13)
            ·rw [if_pos c14] at H
             have c14b0 : decide (0 ≤ (ji13)) = true := decide_eq_true c14
             clear c14
             by_cases c15 : (ji13) < (l0.length : Int)
             ·rw [if_pos c15] at H
              have c15b0 : decide ((ji13) < (l0.length : Int)) = true := decide_eq_true c15
              clear c15
              by_cases c16 : 0 ≤ (rd l0 (ji13))
              ·rw [if_pos c16] at H
               have c16b0 : decide (0 ≤ (rd l0 (ji13))) = true := decide_eq_true c16
               clear c16
               by_cases c17 : (rd l0 (ji13)) < (l1.length : Int)
               ·rw [if_pos c17] at H
                have c17b0 : decide ((rd l0 (ji13)) < (l1.length : Int)) = true := decide_eq_true c17
                clear c17
                by_cases c18 : (rd l1 (rd l0 x6_1)) = (rd l1 (rd l0 (ji13)))
                ·rw [if_pos c18] at H
                 have c18b0 : ((rd l1 (rd l0 x6_1)) == (rd l1 (rd l0 (ji13)))) = true := beq_iff_eq.mpr c18
                 have c18b1 : ((rd l1 (rd l0 x6_1)) != (rd l1 (rd l0 (ji13)))) = false := bne_eq_false_iff_eq.mpr c18
                 clear c18; have H' := aK H; clear H
                 have p351 : 0 ≤ (x6_1 : Int) := of_decide_eq_true (by first | (with_reducible assumption) | assumption)
                 have q351 : x6_1 < (l0.length : Int) := of_decide_eq_true (by first | (with_reducible assumption) | assumption)
                 obtain ⟨ad351, e351, hx351_0⟩ := Kd.at_int HR0.out x6_1 p351 q351
                 cases e351; replace p351 := eq_true p351; replace q351 := eq_true q351
                 have p352 : 0 ≤ ((rd l0 x6_1) : Int) := of_decide_eq_true (by first | (with_reducible assumption) | assumption)
                 have q352 : (rd l0 x6_1) < (l1.length : Int) := of_decide_eq_true (by first | (with_reducible assumption) | assumption)
                 obtain ⟨ad352, e352, hx352_0⟩ := Kd.at_int HR1.out (rd l0 x6_1) p352 q352
                 cases e352; replace p352 := eq_true p352; replace q352 := eq_true q352
                 have p353 : 0 ≤ ((ji13) : Int) := of_decide_eq_true (by first | (with_reducible assumption) | assumption)
                 have q353 : (ji13) < (l0.length : Int) := of_decide_eq_true (by first | (with_reducible assumption) | assumption)
                 obtain ⟨ad353, e353, hx353_0⟩ := Kd.at_int HR0.out (ji13) p353 q353
                 obtain rfl : ad351 = ad353 := (by injection e353)
                 replace p353 := eq_true p353; replace q353 := eq_true q353
                 have p354 : 0 ≤ ((rd l0 (ji13)) : Int) := of_decide_eq_true (by first | (with_reducible assumption) | assumption)
                 have q354 : (rd l0 (ji13)) < (l1.length : Int) := of_decide_eq_true (by first | (with_reducible assumption) | assumption)
                 obtain ⟨ad354, e354, hx354_0⟩ := Kd.at_int HR1.out (rd l0 (ji13)) p354 q354
                 obtain rfl : ad352 = ad354 := (by injection e354)
                 replace p354 := eq_true p354; replace q354 := eq_true q354; go_wp2
                 repeat (go_quiet (fail); try go_wp2)
                 go_roundg kj3
                 case measure => have := HK1.out; have := HJ3.out; omega
                 case rel => exact ⟨(x5_1), (wrap64 (x6_1 + 1)), (by first | rfl | (simp; done) | (simp [*]; done)), (by first | rfl | (simp; done) | (simp [*]; done)), H', ⟨by have := HK1.out; have := HJ3.out; omega⟩, by repeat (first | exact Drawn0.refl _ | apply Drawn0.step)⟩
                ·rw [if_neg c18] at H
                 have c18b0 : ((rd l1 (rd l0 x6_1)) == (rd l1 (rd l0 (ji13)))) = false := beq_eq_false_iff_ne.mpr c18
                 have c18b1 : ((rd l1 (rd l0 x6_1)) != (rd l1 (rd l0 (ji13)))) = true := bne_iff_ne.mpr c18
                 have H' := aK H; clear H
                 have p351 : 0 ≤ (x6_1 : Int) := of_decide_eq_true (by first | (with_reducible assumption) | assumption)
                 have q351 : x6_1 < (l0.length : Int) := of_decide_eq_true (by first | (with_reducible assumption) | assumption)
                 obtain ⟨ad351, e351, hx351_0⟩ := Kd.at_int HR0.out x6_1 p351 q351
                 cases e351; replace p351 := eq_true p351; replace q351 := eq_true q351
                 have p352 : 0 ≤ ((rd l0 x6_1) : Int) := of_decide_eq_true (by first | (with_reducible assumption) | assumption)
                 have q352 : (rd l0 x6_1) < (l1.length : Int) := of_decide_eq_true (by first | (with_reducible assumption) | assumption)
                 obtain ⟨ad352, e352, hx352_0⟩ := Kd.at_int HR1.out (rd l0 x6_1) p352 q352
                 cases e352; replace p352 := eq_true p352; replace q352 := eq_true q352
                 have p353 : 0 ≤ ((ji13) : Int) := of_decide_eq_true (by first | (with_reducible assumption) | assumption)
                 have q353 : (ji13) < (l0.length : Int) := of_decide_eq_true (by first | (with_reducible assumption) | assumption)
                 obtain ⟨ad353, e353, hx353_0⟩ := Kd.at_int HR0.out (ji13) p353 q353
                 obtain rfl : ad351 = ad353 := (by injection e353)
                 replace p353 := eq_true p353; replace q353 := eq_true q353
                 have p354 : 0 ≤ ((rd l0 (ji13)) : Int) := of_decide_eq_true (by first | (with_reducible assumption) | assumption)
                 have q354 : (rd l0 (ji13)) < (l1.length : Int) := of_decide_eq_true (by first | (with_reducible assumption) | assumption)
                 obtain ⟨ad354, e354, hx354_0⟩ := Kd.at_int HR1.out (rd l0 (ji13)) p354 q354
                 obtain rfl : ad352 = ad354 := (by injection e354)
                 replace p354 := eq_true p354; replace q354 := eq_true q354; go_wp2
                 repeat (go_quiet (fail); try go_wp2)
                 go_roundg kj3
                 case measure => have := HK1.out; have := HJ3.out; omega
                 case rel => exact ⟨(wrap64 (x5_1 + 1)), (wrap64 (x6_1 + 1)), (by first | rfl | (simp; done) | (simp [*]; done)), (by first | rfl | (simp; done) | (simp [*]; done)), H', ⟨by have := HK1.out; have := HJ3.out; omega⟩, by repeat (first | exact Drawn0.refl _ | apply Drawn0.step)⟩
               ·rw [if_neg c17] at H
                exact absurd H (by simp)
              ·rw [if_neg c16] at H
               exact absurd H (by simp)
             ·rw [if_neg c15] at H
              exact absurd H (by simp)
            ·rw [if_neg c14] at H
             exact absurd H (by simp)
           ·rw [if_neg c12] at H
            exact absurd H (by simp)
          ·rw [if_neg c11] at H
           exact absurd H (by simp)
         ·rw [if_neg c10] at H
          exact absurd H (by simp)
        ·rw [if_neg c9] at H
         exact absurd H (by simp)
       ·rw [if_neg c8] at H
        have c8b0 : decide (0 < x6_1) = false := decide_eq_false c8
        clear c8; have H' := aK H; clear H; go_wp2
        repeat (go_quiet (fail); try go_wp2)
        go_roundg kj3
        case measure => have := HK1.out; have := HJ3.out; omega
        case rel => exact ⟨(x5_1), (wrap64 (x6_1 + 1)), (by first | rfl | (simp; done) | (simp [*]; done)), (by first | rfl | (simp; done) | (simp [*]; done)), H', ⟨by have := HK1.out; have := HJ3.out; omega⟩, by repeat (first | exact Drawn0.refl _ | apply Drawn0.step)⟩
   ·rw [if_neg c3] at H
    have c3b0 : decide (x6_1 < (l0.length : Int)) = false := decide_eq_false c3
    clear c3; obtain rfl := Option.some.inj H; go_wp2
    repeat (go_quiet (fail); try go_wp2)
    go_ret
    exact ⟨by first | rfl | (simp; done) | (simp [*]; done), by repeat (first | exact Drawn0.refl _ | apply Drawn0.step)⟩

end Go.Proofs.Ytbbkclcfmcjlgaa.P



namespace Go.Proofs.Ytbbkclcfmcjlgaa.P
open Go.RowKit Go.Proofs.YtbbkclcfmcjlgaaW.PrintWords Go.Proofs.YtbbkclcfmcjlgaaW.PrintLast Go.Proofs.YtbbkclcfmcjlgaaW.PrintMore
attribute [local go_sem] max2_int min2_int max_two min_two max_three min_three max_four min_four
set_option linter.unusedVariables false
set_option linter.unusedSimpArgs false

mutual
def swarflaw29_PrecedenceFewest.j0 : Nat → List (S47) → List Int → List Int → Int → Bool → Option (Bool)
 | 0, _, _, _, _, _ => none
 | k + 1, x0, x1, x2, x7, x29 => if x29 = true then ((swarflaw29_awake.f k).bind fun t374 => (some t374)) else ((swarflaw29_cp.f x0).bind fun t375 => ((some (([] : List Int) : List Int)).bind fun y378 => (if y378.length + x1.length < 17592186044416 then ((precedence_Best.f k x7 t375 (y378 ++ x1)).bind fun bt384 => ((swarfref29_Valid.f k x7 x0).bind fun t389 => (if t389 = 0 then (if bt384.2.2 = 0 then ((swarfref29_Linear.f k x7 x0 bt384.1).bind fun t391 => (if t391 = true then ((swarfref29_Changes.f k bt384.1 x1).bind fun t392 => (swarflaw29_PrecedenceFewest.j1 k x0 x1 x2 x7 bt384.2.1 (t392 != bt384.2.1))) else (swarflaw29_PrecedenceFewest.j1 k x0 x1 x2 x7 bt384.2.1 true))) else (if bt384.2.2 = 12 then ((swarfref29_Cyclic.f k x7 x0).bind fun t390 => (some t390)) else (some false))) else (some (bt384.2.2 == t389))))) else (none))))
def swarflaw29_PrecedenceFewest.j1 : Nat → List (S47) → List Int → List Int → Int → Int → Bool → Option (Bool)
 | 0, _, _, _, _, _, _ => none
 | k + 1, x0, x1, x2, x7, x9, x70 => if x70 = true then (some false) else ((swarfref29_Linear.f k x7 x0 x2).bind fun t393 => (if t393 = true then ((swarfref29_Changes.f k x2 x1).bind fun t394 => (some (decide (t394 ≥ x9)))) else (some true)))
end
def swarflaw29_PrecedenceFewest.f (k : Nat) (l0 : List (S47)) (l1 : List Int) (l2 : List Int) : Option (Bool) := (swarflaw29_awake.f k).bind fun t373 => (if t373 = true then (if (l1.length : Int) > 12 then (swarflaw29_PrecedenceFewest.j0 k l0 l1 l2 (l1.length : Int) true) else (if (l0.length : Int) > 60 then (swarflaw29_PrecedenceFewest.j0 k l0 l1 l2 (l1.length : Int) true) else (swarflaw29_PrecedenceFewest.j0 k l0 l1 l2 (l1.length : Int) (decide ((l2.length : Int) > 20))))) else (swarflaw29_PrecedenceFewest.j0 k l0 l1 l2 (l1.length : Int) true))
set_option maxHeartbeats 8000000 in
set_option maxRecDepth 100000 in
theorem swarflaw29_PrecedenceFewest.calls (k : Nat) (A0 : Option Addr) (c0 : Nat) (l0 : List (S47)) (A1 : Option Addr) (c1 : Nat) (l1 : List Int) (A2 : Option Addr) (c2 : Nat) (l2 : List Int) (r : Bool) (w : World) (hr0 : Kd.C k47 w A0 l0.length l0) (hc0 : l0.length ≤ c0) (hr1 : Kd.C (Kd.int .i64) w A1 l1.length l1) (hc1 : l1.length ≤ c1) (hr2 : Kd.C (Kd.int .i64) w A2 l2.length l2) (hc2 : l2.length ≤ c2) (h : swarflaw29_PrecedenceFewest.f k l0 l1 l2 = some r) (hr : r = true) :
  Calls Try.prog 9 #[.slice A0 l0.length c0, .slice A1 l1.length c1, .slice A2 l2.length c2] w fun e w' => e = .returned (.bool r) ∧ Below w.heap.size w w' := by
 have HRT := aK hr
 clear hr
 have HR0 := aK hr0
 have HC0 := aK hc0
 clear hr0 hc0
 have HR1 := aK hr1
 have HC1 := aK hc1
 clear hr1 hc1
 have HR2 := aK hr2
 have HC2 := aK hc2
 clear hr2 hc2
 have HB := aK (Below.refl w.heap.size w)
 have H : ((swarflaw29_awake.f k).bind fun t373 => (if t373 = true then (if (l1.length : Int) > 12 then (swarflaw29_PrecedenceFewest.j0 k l0 l1 l2 (l1.length : Int) true) else (if (l0.length : Int) > 60 then (swarflaw29_PrecedenceFewest.j0 k l0 l1 l2 (l1.length : Int) true) else (swarflaw29_PrecedenceFewest.j0 k l0 l1 l2 (l1.length : Int) (decide ((l2.length : Int) > 20))))) else (swarflaw29_PrecedenceFewest.j0 k l0 l1 l2 (l1.length : Int) true))) = some r := h
 clear h
 have HC4 := aK H
 clear H
 go_enter Try.func9, Try.ntmps9
 go_upto_region 2 with (fail)
 go_cut [29] (fun v29 wc => ∃ (kq : Nat) (x29_3 : Bool), v29 = .bool x29_3 ∧ Aside0 (swarflaw29_PrecedenceFewest.j0 kq l0 l1 l2 (l1.length : Int) x29_3 = some r) ∧ Aside0 (kq ≤ k) ∧ Aside0 (Below w.heap.size w wc))
 case first =>
  have H := HC4.out
  clear HC4; replace H := oB_ H
  obtain ⟨t373, A50, H⟩ := H
  replace H : (if t373 = true then (if (l1.length : Int) > 12 then (swarflaw29_PrecedenceFewest.j0 k l0 l1 l2 (l1.length : Int) true) else (if (l0.length : Int) > 60 then (swarflaw29_PrecedenceFewest.j0 k l0 l1 l2 (l1.length : Int) true) else (swarflaw29_PrecedenceFewest.j0 k l0 l1 l2 (l1.length : Int) (decide ((l2.length : Int) > 20))))) else (swarflaw29_PrecedenceFewest.j0 k l0 l1 l2 (l1.length : Int) true)) = some r := H
  have A5 := aK A50; clear A50
  by_cases c6 : t373 = true
  ·subst c6
   have H1 : (if (l1.length : Int) > 12 then (swarflaw29_PrecedenceFewest.j0 k l0 l1 l2 (l1.length : Int) true) else (if (l0.length : Int) > 60 then (swarflaw29_PrecedenceFewest.j0 k l0 l1 l2 (l1.length : Int) true) else (swarflaw29_PrecedenceFewest.j0 k l0 l1 l2 (l1.length : Int) (decide ((l2.length : Int) > 20))))) = some r := by rw [if_pos rfl] at H; exact H
   clear H; have H := H1; clear H1
   by_cases c7 : (l1.length : Int) > 12
   ·rw [if_pos c7] at H
    have c7b0 : decide (12 < (l1.length : Int)) = true := decide_eq_true c7
    have c7b1 : decide (12 < l1.length) = true := decide_eq_true (by omega)
    clear c7
    (first | rw [c7b0] | (simp only [i64_w, i32_w]; rw [c7b0]) | skip)
    have H' := aK H; clear H
    go_wp2_with (first | ((with_reducible refine gate_callee (f := 12) rfl ?_); refine goesL_ (some 14) rfl rfl Try.func12 (by kernel_rfl) rfl #[] rfl (by (try simp only [List.map_toArray, List.map_cons, List.map_nil]); first | done | rfl | (simp only [List.length_drop, List.length_take]; rfl)) ?_; (with_reducible refine (swarflaw29_awake.calls k  true _ A5.out).mono ?_); rintro e w8 ⟨rfl, hb⟩; refine ⟨_, rfl, ?_⟩; have n0_ := aK (bT_ (by repeat (first | (with_reducible first | exact HB.out | apply bA_ | apply bN_ | apply bD_) | exact HB.out)) hb); clear HB; have HB := n0_; clear n0_; (try clear hb); (try clear hb2); (try clear hk); (try clear hi)))
    go_meet
    case rel => exact ⟨_, (true), (by first | rfl | (simp; done) | (simp [*]; done)), H', ⟨by first | omega | exact Nat.le_refl _⟩, ⟨by repeat (first | (with_reducible first | exact HB.out | apply bA_ | apply bN_ | apply bD_) | exact HB.out)⟩⟩
   ·rw [if_neg c7] at H
    have c7b0 : decide (12 < (l1.length : Int)) = false := decide_eq_false c7
    have c7b1 : decide (12 < l1.length) = false := decide_eq_false (by omega)
    clear c7
    (first | rw [c7b0] | (simp only [i64_w, i32_w]; rw [c7b0]) | skip)
    by_cases c9 : (l0.length : Int) > 60
    ·rw [if_pos c9] at H
     have c9b0 : decide (60 < (l0.length : Int)) = true := decide_eq_true c9
     have c9b1 : decide (60 < l0.length) = true := decide_eq_true (by omega)
     clear c9; have H' := aK H; clear H
     go_wp2_with (first | ((with_reducible refine gate_callee (f := 12) rfl ?_); refine goesL_ (some 14) rfl rfl Try.func12 (by kernel_rfl) rfl #[] rfl (by (try simp only [List.map_toArray, List.map_cons, List.map_nil]); first | done | rfl | (simp only [List.length_drop, List.length_take]; rfl)) ?_; (with_reducible refine (swarflaw29_awake.calls k  true _ A5.out).mono ?_); rintro e w10 ⟨rfl, hb⟩; refine ⟨_, rfl, ?_⟩; have n0_ := aK (bT_ (by repeat (first | (with_reducible first | exact HB.out | apply bA_ | apply bN_ | apply bD_) | exact HB.out)) hb); clear HB; have HB := n0_; clear n0_; (try clear hb); (try clear hb2); (try clear hk); (try clear hi)))
     go_meet
     case rel => exact ⟨_, (true), (by first | rfl | (simp; done) | (simp [*]; done)), H', ⟨by first | omega | exact Nat.le_refl _⟩, ⟨by repeat (first | (with_reducible first | exact HB.out | apply bA_ | apply bN_ | apply bD_) | exact HB.out)⟩⟩
    ·rw [if_neg c9] at H
     have c9b0 : decide (60 < (l0.length : Int)) = false := decide_eq_false c9
     have c9b1 : decide (60 < l0.length) = false := decide_eq_false (by omega)
     clear c9; have H' := aK H; clear H
     go_wp2_with (first | ((with_reducible refine gate_callee (f := 12) rfl ?_); refine goesL_ (some 14) rfl rfl Try.func12 (by kernel_rfl) rfl #[] rfl (by (try simp only [List.map_toArray, List.map_cons, List.map_nil]); first | done | rfl | (simp only [List.length_drop, List.length_take]; rfl)) ?_; (with_reducible refine (swarflaw29_awake.calls k  true _ A5.out).mono ?_); rintro e w11 ⟨rfl, hb⟩; refine ⟨_, rfl, ?_⟩; have n0_ := aK (bT_ (by repeat (first | (with_reducible first | exact HB.out | apply bA_ | apply bN_ | apply bD_) | exact HB.out)) hb); clear HB; have HB := n0_; clear n0_; (try clear hb); (try clear hb2); (try clear hk); (try clear hi)))
     go_meet
     case rel => exact ⟨_, (decide ((l2.length : Int) > 20)), (by first | rfl | (simp; done) | (simp [*]; done)), H', ⟨by first | omega | exact Nat.le_refl _⟩, ⟨by repeat (first | (with_reducible first | exact HB.out | apply bA_ | apply bN_ | apply bD_) | exact HB.out)⟩⟩
  ·replace c6 := Bool.eq_false_iff.mpr c6
   subst c6
   have H1 : (swarflaw29_PrecedenceFewest.j0 k l0 l1 l2 (l1.length : Int) true) = some r := by rw [if_neg (show ¬ (false = true) by decide)] at H; exact H
   clear H; have H := H1; clear H1; have H' := aK H; clear H
   go_wp2_with (first | ((with_reducible refine gate_callee (f := 12) rfl ?_); refine goesL_ (some 14) rfl rfl Try.func12 (by kernel_rfl) rfl #[] rfl (by (try simp only [List.map_toArray, List.map_cons, List.map_nil]); first | done | rfl | (simp only [List.length_drop, List.length_take]; rfl)) ?_; (with_reducible refine (swarflaw29_awake.calls k  false _ A5.out).mono ?_); rintro e w12 ⟨rfl, hb⟩; refine ⟨_, rfl, ?_⟩; have n0_ := aK (bT_ (by repeat (first | (with_reducible first | exact HB.out | apply bA_ | apply bN_ | apply bD_) | exact HB.out)) hb); clear HB; have HB := n0_; clear n0_; (try clear hb); (try clear hb2); (try clear hk); (try clear hi)))
   go_meet
   case rel => exact ⟨_, (true), (by first | rfl | (simp; done) | (simp [*]; done)), H', ⟨by first | omega | exact Nat.le_refl _⟩, ⟨by repeat (first | (with_reducible first | exact HB.out | apply bA_ | apply bN_ | apply bD_) | exact HB.out)⟩⟩
 case rest =>
  clear HC4; try clear c1; try clear c2; try clear p2; try clear c6; try clear c7; try clear c7b0; try clear c7b1; try clear c9; try clear c9b0; try clear c9b1; try clear c12
  obtain ⟨kq, x29_3, rfl, HA, HJ3, HB⟩ := hcut
  cases kq with
  | zero => exact absurd HA.out (by simp [swarflaw29_PrecedenceFewest.j0])
  | succ kj3 =>
   have H := HA.out
   clear HA
   simp only [swarflaw29_PrecedenceFewest.j0] at H
   by_cases c13 : x29_3 = true
   ·subst c13
    have H1 : ((swarflaw29_awake.f kj3).bind fun t374 => (some t374)) = some r := by rw [if_pos rfl] at H; exact H
    clear H; have H := H1; clear H1; replace H := oB_ H
    obtain ⟨t374, A140, H⟩ := H
    replace H : (some t374) = some r := H
    have A14 := aK A140; clear A140; obtain rfl := Option.some.inj H
    go_wp2_with (first | ((with_reducible refine gate_callee (f := 12) rfl ?_); refine goesL_ (some 30) rfl rfl Try.func12 (by kernel_rfl) rfl #[] rfl (by (try simp only [List.map_toArray, List.map_cons, List.map_nil]); first | done | rfl | (simp only [List.length_drop, List.length_take]; rfl)) ?_; (with_reducible refine (swarflaw29_awake.calls kj3  t374 _ A14.out).mono ?_); rintro e w15 ⟨rfl, hb⟩; refine ⟨_, rfl, ?_⟩; have n0_ := aK (bT_ (by repeat (first | (with_reducible first | exact HB.out | apply bA_ | apply bN_ | apply bD_) | exact HB.out)) hb); clear HB; have HB := n0_; clear n0_; (try clear hb); (try clear hb2); (try clear hk); (try clear hi)))
    go_ret
    exact ⟨by first | rfl | (simp [errW_none, errW_some] <;> rfl) | (simp [*, errW_none, errW_some] <;> rfl), by repeat (first | (with_reducible first | exact HB.out | apply bA_ | apply bN_ | apply bD_) | exact HB.out)⟩
   ·replace c13 := Bool.eq_false_iff.mpr c13
    subst c13
    have H1 : ((swarflaw29_cp.f l0).bind fun t375 => ((some (([] : List Int) : List Int)).bind fun y378 => (if y378.length + l1.length < 17592186044416 then ((precedence_Best.f kj3 (l1.length : Int) t375 (y378 ++ l1)).bind fun bt384 => ((swarfref29_Valid.f kj3 (l1.length : Int) l0).bind fun t389 => (if t389 = 0 then (if bt384.2.2 = 0 then ((swarfref29_Linear.f kj3 (l1.length : Int) l0 bt384.1).bind fun t391 => (if t391 = true then ((swarfref29_Changes.f kj3 bt384.1 l1).bind fun t392 => (swarflaw29_PrecedenceFewest.j1 kj3 l0 l1 l2 (l1.length : Int) bt384.2.1 (t392 != bt384.2.1))) else (swarflaw29_PrecedenceFewest.j1 kj3 l0 l1 l2 (l1.length : Int) bt384.2.1 true))) else (if bt384.2.2 = 12 then ((swarfref29_Cyclic.f kj3 (l1.length : Int) l0).bind fun t390 => (some t390)) else (some false))) else (some (bt384.2.2 == t389))))) else (none)))) = some r := by rw [if_neg (show ¬ (false = true) by decide)] at H; exact H
    clear H; have H := H1; clear H1; replace H := oB_ H
    obtain ⟨t375, A160, H⟩ := H
    replace H : ((some (([] : List Int) : List Int)).bind fun y378 => (if y378.length + l1.length < 17592186044416 then ((precedence_Best.f kj3 (l1.length : Int) t375 (y378 ++ l1)).bind fun bt384 => ((swarfref29_Valid.f kj3 (l1.length : Int) l0).bind fun t389 => (if t389 = 0 then (if bt384.2.2 = 0 then ((swarfref29_Linear.f kj3 (l1.length : Int) l0 bt384.1).bind fun t391 => (if t391 = true then ((swarfref29_Changes.f kj3 bt384.1 l1).bind fun t392 => (swarflaw29_PrecedenceFewest.j1 kj3 l0 l1 l2 (l1.length : Int) bt384.2.1 (t392 != bt384.2.1))) else (swarflaw29_PrecedenceFewest.j1 kj3 l0 l1 l2 (l1.length : Int) bt384.2.1 true))) else (if bt384.2.2 = 12 then ((swarfref29_Cyclic.f kj3 (l1.length : Int) l0).bind fun t390 => (some t390)) else (some false))) else (some (bt384.2.2 == t389))))) else (none))) = some r := H
    have A16 := aK A160; clear A160
    obtain ⟨y378, hy378⟩ : ∃ y_ : List Int, y_ = (([] : List Int)) := ⟨_, rfl⟩
    replace H : (if y378.length + l1.length < 17592186044416 then ((precedence_Best.f kj3 (l1.length : Int) t375 (y378 ++ l1)).bind fun bt384 => ((swarfref29_Valid.f kj3 (l1.length : Int) l0).bind fun t389 => (if t389 = 0 then (if bt384.2.2 = 0 then ((swarfref29_Linear.f kj3 (l1.length : Int) l0 bt384.1).bind fun t391 => (if t391 = true then ((swarfref29_Changes.f kj3 bt384.1 l1).bind fun t392 => (swarflaw29_PrecedenceFewest.j1 kj3 l0 l1 l2 (l1.length : Int) bt384.2.1 (t392 != bt384.2.1))) else (swarflaw29_PrecedenceFewest.j1 kj3 l0 l1 l2 (l1.length : Int) bt384.2.1 true))) else (if bt384.2.2 = 12 then ((swarfref29_Cyclic.f kj3 (l1.length : Int) l0).bind fun t390 => (some t390)) else (some false))) else (some (bt384.2.2 == t389))))) else (none)) = some r := by first | (rw [hy378]; with_reducible exact H) | (have H2_ := (Option.bind_some _ _).symm.trans H; rw [hy378]; with_reducible exact H2_) | (have H2_ := (Option.bind_some _ _).symm.trans H; with_reducible exact H2_) | with_reducible exact H | (rw [hy378]; exact H) | exact H
    have Ny378 := aK hy378; clear hy378
    by_cases c17 : y378.length + l1.length < 17592186044416
    ·rw [if_pos c17] at H; have LMc17 := aK c17; clear c17
     obtain ⟨y381, hy381⟩ : ∃ y_ : List Int, y_ = (y378 ++ l1) := ⟨_, rfl⟩
     replace H : ((precedence_Best.f kj3 (l1.length : Int) t375 y381).bind fun bt384 => ((swarfref29_Valid.f kj3 (l1.length : Int) l0).bind fun t389 => (if t389 = 0 then (if bt384.2.2 = 0 then ((swarfref29_Linear.f kj3 (l1.length : Int) l0 bt384.1).bind fun t391 => (if t391 = true then ((swarfref29_Changes.f kj3 bt384.1 l1).bind fun t392 => (swarflaw29_PrecedenceFewest.j1 kj3 l0 l1 l2 (l1.length : Int) bt384.2.1 (t392 != bt384.2.1))) else (swarflaw29_PrecedenceFewest.j1 kj3 l0 l1 l2 (l1.length : Int) bt384.2.1 true))) else (if bt384.2.2 = 12 then ((swarfref29_Cyclic.f kj3 (l1.length : Int) l0).bind fun t390 => (some t390)) else (some false))) else (some (bt384.2.2 == t389))))) = some r := by first | (rw [hy381]; with_reducible exact H) | (have H2_ := (Option.bind_some _ _).symm.trans H; rw [hy381]; with_reducible exact H2_) | (have H2_ := (Option.bind_some _ _).symm.trans H; with_reducible exact H2_) | with_reducible exact H | (rw [hy381]; exact H) | exact H
     have Ny381 := aK hy381; clear hy381; replace H := oB_ H
     obtain ⟨⟨t384, t385, t386⟩, A180, H⟩ := H
     replace H : ((swarfref29_Valid.f kj3 (l1.length : Int) l0).bind fun t389 => (if t389 = 0 then (if t386 = 0 then ((swarfref29_Linear.f kj3 (l1.length : Int) l0 t384).bind fun t391 => (if t391 = true then ((swarfref29_Changes.f kj3 t384 l1).bind fun t392 => (swarflaw29_PrecedenceFewest.j1 kj3 l0 l1 l2 (l1.length : Int) t385 (t392 != t385))) else (swarflaw29_PrecedenceFewest.j1 kj3 l0 l1 l2 (l1.length : Int) t385 true))) else (if t386 = 12 then ((swarfref29_Cyclic.f kj3 (l1.length : Int) l0).bind fun t390 => (some t390)) else (some false))) else (some (t386 == t389)))) = some r := H
     have A18 := aK A180; clear A180; replace H := oB_ H
     obtain ⟨t389, A190, H⟩ := H
     replace H : (if t389 = 0 then (if t386 = 0 then ((swarfref29_Linear.f kj3 (l1.length : Int) l0 t384).bind fun t391 => (if t391 = true then ((swarfref29_Changes.f kj3 t384 l1).bind fun t392 => (swarflaw29_PrecedenceFewest.j1 kj3 l0 l1 l2 (l1.length : Int) t385 (t392 != t385))) else (swarflaw29_PrecedenceFewest.j1 kj3 l0 l1 l2 (l1.length : Int) t385 true))) else (if t386 = 12 then ((swarfref29_Cyclic.f kj3 (l1.length : Int) l0).bind fun t390 => (some t390)) else (some false))) else (some (t386 == t389))) = some r := H
     have A19 := aK A190; clear A190
     by_cases c20 : t389 = 0
     ·rw [if_pos c20] at H
      have c20b0 : (t389 == 0) = true := beq_iff_eq.mpr c20
      have c20b1 : (t389 != 0) = false := bne_eq_false_iff_eq.mpr c20
      clear c20
      by_cases c21 : t386 = 0
      ·rw [if_pos c21] at H
       have c21b0 : (t386 == 0) = true := beq_iff_eq.mpr c21
       have c21b1 : (t386 != 0) = false := bne_eq_false_iff_eq.mpr c21
       clear c21; have HC22 := aK H; clear H
       go_upto_region 10 with (first | ((with_reducible refine gate_callee (f := 15) rfl ?_); refine goesL_ (some 34) rfl rfl Try.func15 (by kernel_rfl) rfl #[.slice A0 l0.length c0] rfl (by (try simp only [List.map_toArray, List.map_cons, List.map_nil]); first | done | rfl | (simp only [List.length_drop, List.length_take]; rfl)) ?_; (with_reducible refine (swarflaw29_cp.calls _ _ l0 t375 _ ?side1 ?side2 A16.out).mono ?_); (case side1 => repeat (first | exact (Kd.C_below HR0.out HB.out) | (with_reducible refine Kd.C_alloc ?_ _) | (with_reducible refine Kd.C_drewN ?_ _) | (with_reducible refine Kd.C_drew ?_))); (case side2 => exact HC0.out); rintro e w23 ⟨v376, rfl, ho0, hb⟩; refine ⟨_, rfl, ?_⟩; have n0_ := aK (Kd.R_lower ho0 (bZ_ (by repeat (first | (with_reducible first | exact HB.out | apply bA_ | apply bN_ | apply bD_) | exact HB.out)))); have n1_ := aK (bT_ (by repeat (first | (with_reducible first | exact HB.out | apply bA_ | apply bN_ | apply bD_) | exact HB.out)) hb); clear HB; have HO377 := n0_; have HB := n1_; clear n0_ n1_; (try clear hb); (try clear hb2); (try clear hk); (try clear hi); (try clear ho0)) | ((with_reducible refine gate_dst (N := 35) rfl ?_); (try (refine gate_guard (by rfl) ?_; dsimp only)); refine Kd.R_lit (Kd.int .i64) _ 3 ?hg (N := 35) ?hd (xs := ([] : List Int)) (inner := []) (ok := fun _ => True) (okp := fun _ => True) ?hr ?hp (fun _ hk => hk) trivial (Below.refl _ _) (Nat.le_refl _) (by simp) ?_; (case hd => rfl); (case hg => rfl); (case hr => first | (go_simp; done) | (go_simp; rfl)); (case hp => exact (Reps.none _ _)); intro v379 w24 ho25 hb hg_ hnew_; clear hg_ hnew_; (first | rw [← Ny378.out] at ho25 | (simp only [Int.reduceToNat] at ho25; rw [← Ny378.out] at ho25)); have n0_ := aK (Kd.R_below (by (with_reducible repeat (first | apply Kd.R_alloc | apply Kd.R_drewN | apply Kd.R_drew)); exact HO377.out) hb); have n1_ := aK (Kd.R_lower ho25 (bZ_ (by repeat (first | (with_reducible first | exact HB.out | apply bA_ | apply bN_ | apply bD_) | exact HB.out)))); have n2_ := aK (bT_ (by repeat (first | (with_reducible first | exact HB.out | apply bA_ | apply bN_ | apply bD_) | exact HB.out)) hb); clear HO377; clear HB; have HO377 := n0_; have HO380 := n1_; have HB := n2_; clear n0_ n1_ n2_; clear hb ho25) | ((with_reducible refine gate_builtin (b := .append) (xs := #[.tmp 35, .tmp 36]) rfl ?_); (try (refine gate_guard (by rfl) ?_; dsimp only)); at_builtin; refine Kd.R_append_rows (Kd.int .i64) (w0 := w) w.heap.size rfl (.tmp 35) (.tmp 36) 31 3 (.int .i64 0) 8 rfl Try.underlying31 info3 rfl (by decide) (by omega) v379 y378 l1 _ _ _ (fun _ => True) (fun _ => False) rfl rfl ?aO ?aR (fun _ _ h => h) (fun _ h => h.elim) ?aF ?aB ?aS ?aL ?_; (case aR => repeat (first | exact (Kd.C_below HR1.out HB.out) | (with_reducible refine Kd.C_alloc ?_ _) | (with_reducible refine Kd.C_drewN ?_ _) | (with_reducible refine Kd.C_drew ?_))); (case aB => exact (by repeat (first | (with_reducible first | exact HB.out | apply bA_ | apply bN_ | apply bD_) | exact HB.out))); (case aF => exact (fun _ _ => trivial)); (case aO => exact (by (with_reducible repeat (first | apply Kd.R_alloc | apply Kd.R_drewN | apply Kd.R_drew)); exact HO380.out)); (case aS => exact (bZ_ (by repeat (first | (with_reducible first | exact HB.out | apply bA_ | apply bN_ | apply bD_) | exact HB.out)))); (case aL => have := LMc17.out; omega); intro v382 w26 ho hb hg hat; rw [← Ny381.out] at ho; have n0_ := aK (Kd.R_over' (by (with_reducible repeat (first | apply Kd.R_alloc | apply Kd.R_drewN | apply Kd.R_drew)); exact HO377.out) (Kd.R_typed (by (with_reducible repeat (first | apply Kd.R_alloc | apply Kd.R_drewN | apply Kd.R_drew)); exact HO380.out)) (by decide) hg); have n1_ := aK (hb); have n2_ := aK (ho); clear HO377; clear HB; clear HO380; have HO377 := n0_; have HB := n1_; have HO383 := n2_; clear n0_ n1_ n2_; clear ho hb hg hat; obtain ⟨Ao27, co27, eo27⟩ := Kd.R_slice HO377.out; subst eo27; obtain ⟨Ao28, co28, eo28⟩ := Kd.R_slice HO383.out; subst eo28) | ((with_reducible refine gate_callee (f := 28) rfl ?_); refine goesL_ (some 38) rfl rfl Try.func28 (by kernel_rfl) rfl #[.int .i64 (l1.length : Int), .slice Ao27 t375.length co27, .slice Ao28 y381.length co28] rfl (by (try simp only [List.map_toArray, List.map_cons, List.map_nil]); first | done | rfl | (simp only [List.length_drop, List.length_take]; rfl)) ?_; (with_reducible refine (precedence_Best.calls kj3 (l1.length : Int) _ _ t375 _ _ y381 t384 t385 t386 _ ?side1 ?side2 ?side3 ?side4 A18.out).mono ?_); (case side1 => repeat (first | exact (Kd.R_reads' HO377.out).2.2 | (with_reducible refine Kd.C_alloc ?_ _) | (with_reducible refine Kd.C_drewN ?_ _) | (with_reducible refine Kd.C_drew ?_))); (case side2 => exact (Kd.R_reads' HO377.out).2.1); (case side3 => repeat (first | exact (Kd.R_reads' HO383.out).2.2 | (with_reducible refine Kd.C_alloc ?_ _) | (with_reducible refine Kd.C_drewN ?_ _) | (with_reducible refine Kd.C_drew ?_))); (case side4 => exact (Kd.R_reads' HO383.out).2.1); rintro e w29 ⟨v387, rfl, ho0, hb⟩; refine ⟨_, rfl, ?_⟩; have n0_ := aK (Kd.R_below (by (with_reducible repeat (first | apply Kd.R_alloc | apply Kd.R_drewN | apply Kd.R_drew)); exact HO377.out) hb); have n1_ := aK (Kd.R_elder' (by (with_reducible repeat (first | apply Kd.R_alloc | apply Kd.R_drewN | apply Kd.R_drew)); exact HO383.out) (Kd.R_base ho0) hb); have n2_ := aK (Kd.R_lower (Kd.R_new' ho0 (Kd.R_lt (by (with_reducible repeat (first | apply Kd.R_alloc | apply Kd.R_drewN | apply Kd.R_drew)); exact HO383.out))) (bZ_ (by repeat (first | (with_reducible first | exact HB.out | apply bA_ | apply bN_ | apply bD_) | exact HB.out)))); have n3_ := aK (bT_ (by repeat (first | (with_reducible first | exact HB.out | apply bA_ | apply bN_ | apply bD_) | exact HB.out)) hb); clear HO377; clear HO383; clear HB; have HO377 := n0_; have HO383 := n1_; have HO388 := n2_; have HB := n3_; clear n0_ n1_ n2_ n3_; (try clear hb); (try clear hb2); (try clear hk); (try clear hi); (try clear ho0)) | ((with_reducible refine gate_callee (f := 21) rfl ?_); refine goesL_ (some 44) rfl rfl Try.func21 (by kernel_rfl) rfl #[.int .i64 (l1.length : Int), .slice A0 l0.length c0] rfl (by (try simp only [List.map_toArray, List.map_cons, List.map_nil]); first | done | rfl | (simp only [List.length_drop, List.length_take]; rfl)) ?_; (with_reducible refine (swarfref29_Valid.calls kj3 (l1.length : Int) _ _ l0 t389 _ ?side1 ?side2 A19.out).mono ?_); (case side1 => repeat (first | exact (Kd.C_below HR0.out HB.out) | (with_reducible refine Kd.C_alloc ?_ _) | (with_reducible refine Kd.C_drewN ?_ _) | (with_reducible refine Kd.C_drew ?_))); (case side2 => exact HC0.out); rintro e w' ⟨rfl, ⟨nd, rfl⟩⟩; refine ⟨_, rfl, ?_⟩))
       (try simp only [Act.put, sA_, sZ_, sS_])
       go_cut [70] (fun v70 wc => ∃ (kq : Nat) (x70_21 : Bool), v70 = .bool x70_21 ∧ Aside0 (swarflaw29_PrecedenceFewest.j1 kq l0 l1 l2 (l1.length : Int) t385 x70_21 = some r) ∧ Aside0 (kq ≤ kj3) ∧ Aside0 (Below w.heap.size w wc))
       case first =>
        have H := HC22.out
        clear HC22; replace H := oB_ H
        obtain ⟨t391, A300, H⟩ := H
        replace H : (if t391 = true then ((swarfref29_Changes.f kj3 t384 l1).bind fun t392 => (swarflaw29_PrecedenceFewest.j1 kj3 l0 l1 l2 (l1.length : Int) t385 (t392 != t385))) else (swarflaw29_PrecedenceFewest.j1 kj3 l0 l1 l2 (l1.length : Int) t385 true)) = some r := H
        have A30 := aK A300; clear A300
        by_cases c31 : t391 = true
        ·subst c31
         have H1 : ((swarfref29_Changes.f kj3 t384 l1).bind fun t392 => (swarflaw29_PrecedenceFewest.j1 kj3 l0 l1 l2 (l1.length : Int) t385 (t392 != t385))) = some r := by rw [if_pos rfl] at H; exact H
         clear H; have H := H1; clear H1; replace H := oB_ H
         obtain ⟨t392, A320, H⟩ := H
         replace H : (swarflaw29_PrecedenceFewest.j1 kj3 l0 l1 l2 (l1.length : Int) t385 (t392 != t385)) = some r := H
         have A32 := aK A320; clear A320; have H' := aK H; clear H
         obtain ⟨Ao33, co33, eo33⟩ := Kd.R_slice HO388.out
         subst eo33
         go_wp2_with (first | ((with_reducible refine gate_callee (f := 19) rfl ?_); refine goesL_ (some 62) rfl rfl Try.func19 (by kernel_rfl) rfl #[.int .i64 (l1.length : Int), .slice A0 l0.length c0, .slice Ao33 t384.length co33] rfl (by (try simp only [List.map_toArray, List.map_cons, List.map_nil]); first | done | rfl | (simp only [List.length_drop, List.length_take]; rfl)) ?_; (with_reducible refine (swarfref29_Linear.calls kj3 (l1.length : Int) _ _ l0 _ _ t384 true _ ?side1 ?side2 ?side3 ?side4 A30.out).mono ?_); (case side1 => repeat (first | exact (Kd.C_below HR0.out HB.out) | (with_reducible refine Kd.C_alloc ?_ _) | (with_reducible refine Kd.C_drewN ?_ _) | (with_reducible refine Kd.C_drew ?_))); (case side2 => exact HC0.out); (case side3 => repeat (first | exact (Kd.R_reads' HO388.out).2.2 | (with_reducible refine Kd.C_alloc ?_ _) | (with_reducible refine Kd.C_drewN ?_ _) | (with_reducible refine Kd.C_drew ?_))); (case side4 => exact (Kd.R_reads' HO388.out).2.1); rintro e w34 ⟨rfl, hb⟩; refine ⟨_, rfl, ?_⟩; have n0_ := aK (Kd.R_below (by (with_reducible repeat (first | apply Kd.R_alloc | apply Kd.R_drewN | apply Kd.R_drew)); exact HO377.out) hb); have n1_ := aK (Kd.R_below (by (with_reducible repeat (first | apply Kd.R_alloc | apply Kd.R_drewN | apply Kd.R_drew)); exact HO383.out) hb); have n2_ := aK (Kd.R_below (by (with_reducible repeat (first | apply Kd.R_alloc | apply Kd.R_drewN | apply Kd.R_drew)); exact HO388.out) hb); have n3_ := aK (bT_ (by repeat (first | (with_reducible first | exact HB.out | apply bA_ | apply bN_ | apply bD_) | exact HB.out)) hb); clear HO377; clear HO383; clear HO388; clear HB; have HO377 := n0_; have HO383 := n1_; have HO388 := n2_; have HB := n3_; clear n0_ n1_ n2_ n3_; (try clear hb); (try clear hb2); (try clear hk); (try clear hi)) | (go_at_call 30; (with_reducible refine (swarfref29_Changes.calls kj3 _ _ t384 _ _ l1 t392 _ ?side1 ?side2 ?side3 ?side4 A32.out).mono ?_); (case side1 => repeat (first | exact (Kd.R_reads' HO388.out).2.2 | (with_reducible refine Kd.C_alloc ?_ _) | (with_reducible refine Kd.C_drewN ?_ _) | (with_reducible refine Kd.C_drew ?_))); (case side2 => exact (Kd.R_reads' HO388.out).2.1); (case side3 => repeat (first | exact (Kd.C_below HR1.out HB.out) | (with_reducible refine Kd.C_alloc ?_ _) | (with_reducible refine Kd.C_drewN ?_ _) | (with_reducible refine Kd.C_drew ?_))); (case side4 => exact HC1.out); rintro e w' ⟨rfl, ⟨nd, rfl⟩⟩))
         go_meet
         case rel => exact ⟨_, ((t392 != t385)), (by first | rfl | (simp; done) | (simp [*]; done)), H', ⟨by have := HJ3.out; first | omega | exact Nat.le_refl _⟩, ⟨by repeat (first | (with_reducible first | exact HB.out | apply bA_ | apply bN_ | apply bD_) | exact HB.out)⟩⟩
        ·replace c31 := Bool.eq_false_iff.mpr c31
         subst c31
         have H1 : (swarflaw29_PrecedenceFewest.j1 kj3 l0 l1 l2 (l1.length : Int) t385 true) = some r := by rw [if_neg (show ¬ (false = true) by decide)] at H; exact H
         clear H; have H := H1; clear H1; have H' := aK H; clear H
         obtain ⟨Ao35, co35, eo35⟩ := Kd.R_slice HO388.out
         subst eo35
         go_wp2_with (first | ((with_reducible refine gate_callee (f := 19) rfl ?_); refine goesL_ (some 62) rfl rfl Try.func19 (by kernel_rfl) rfl #[.int .i64 (l1.length : Int), .slice A0 l0.length c0, .slice Ao35 t384.length co35] rfl (by (try simp only [List.map_toArray, List.map_cons, List.map_nil]); first | done | rfl | (simp only [List.length_drop, List.length_take]; rfl)) ?_; (with_reducible refine (swarfref29_Linear.calls kj3 (l1.length : Int) _ _ l0 _ _ t384 false _ ?side1 ?side2 ?side3 ?side4 A30.out).mono ?_); (case side1 => repeat (first | exact (Kd.C_below HR0.out HB.out) | (with_reducible refine Kd.C_alloc ?_ _) | (with_reducible refine Kd.C_drewN ?_ _) | (with_reducible refine Kd.C_drew ?_))); (case side2 => exact HC0.out); (case side3 => repeat (first | exact (Kd.R_reads' HO388.out).2.2 | (with_reducible refine Kd.C_alloc ?_ _) | (with_reducible refine Kd.C_drewN ?_ _) | (with_reducible refine Kd.C_drew ?_))); (case side4 => exact (Kd.R_reads' HO388.out).2.1); rintro e w36 ⟨rfl, hb⟩; refine ⟨_, rfl, ?_⟩; have n0_ := aK (Kd.R_below (by (with_reducible repeat (first | apply Kd.R_alloc | apply Kd.R_drewN | apply Kd.R_drew)); exact HO377.out) hb); have n1_ := aK (Kd.R_below (by (with_reducible repeat (first | apply Kd.R_alloc | apply Kd.R_drewN | apply Kd.R_drew)); exact HO383.out) hb); have n2_ := aK (Kd.R_below (by (with_reducible repeat (first | apply Kd.R_alloc | apply Kd.R_drewN | apply Kd.R_drew)); exact HO388.out) hb); have n3_ := aK (bT_ (by repeat (first | (with_reducible first | exact HB.out | apply bA_ | apply bN_ | apply bD_) | exact HB.out)) hb); clear HO377; clear HO383; clear HO388; clear HB; have HO377 := n0_; have HO383 := n1_; have HO388 := n2_; have HB := n3_; clear n0_ n1_ n2_ n3_; (try clear hb); (try clear hb2); (try clear hk); (try clear hi)))
         go_meet
         case rel => exact ⟨_, (true), (by first | rfl | (simp; done) | (simp [*]; done)), H', ⟨by have := HJ3.out; first | omega | exact Nat.le_refl _⟩, ⟨by repeat (first | (with_reducible first | exact HB.out | apply bA_ | apply bN_ | apply bD_) | exact HB.out)⟩⟩
       case rest =>
        clear HC22; try clear c1; try clear c2; try clear p2; try clear c3; try clear c6; try clear c7; try clear c7b0; try clear c7b1; try clear c9; try clear c9b0; try clear c9b1; try clear c12; try clear c13; try clear c15; try clear c17; try clear c19; try clear c20; try clear c20b0; try clear c20b1; try clear c21; try clear c21b0; try clear c21b1; try clear c28; try clear c31; try clear p2
        obtain ⟨kq, x70_21, rfl, HA, HJ21, HB⟩ := hcut
        cases kq with
        | zero => exact absurd HA.out (by simp [swarflaw29_PrecedenceFewest.j1])
        | succ kj21 =>
         have H := HA.out
         clear HA
         simp only [swarflaw29_PrecedenceFewest.j1] at H
         by_cases c37 : x70_21 = true
         ·subst c37
          have H1 : (some false) = some r := by rw [if_pos rfl] at H; exact H
          clear H; have H := H1; clear H1
          (rw [HRT.out] at H; exact absurd H (by decide))
         ·replace c37 := Bool.eq_false_iff.mpr c37
          subst c37
          have H1 : ((swarfref29_Linear.f kj21 (l1.length : Int) l0 l2).bind fun t393 => (if t393 = true then ((swarfref29_Changes.f kj21 l2 l1).bind fun t394 => (some (decide (t394 ≥ t385)))) else (some true))) = some r := by rw [if_neg (show ¬ (false = true) by decide)] at H; exact H
          clear H; have H := H1; clear H1; replace H := oB_ H
          obtain ⟨t393, A380, H⟩ := H
          replace H : (if t393 = true then ((swarfref29_Changes.f kj21 l2 l1).bind fun t394 => (some (decide (t394 ≥ t385)))) else (some true)) = some r := H
          have A38 := aK A380; clear A380
          by_cases c39 : t393 = true
          ·subst c39
           have H1 : ((swarfref29_Changes.f kj21 l2 l1).bind fun t394 => (some (decide (t394 ≥ t385)))) = some r := by rw [if_pos rfl] at H; exact H
           clear H; have H := H1; clear H1; replace H := oB_ H
           obtain ⟨t394, A400, H⟩ := H
           replace H : (some (decide (t394 ≥ t385))) = some r := H
           have A40 := aK A400; clear A400; obtain rfl := Option.some.inj H
           go_wp2_with (first | ((with_reducible refine gate_callee (f := 19) rfl ?_); refine goesL_ (some 74) rfl rfl Try.func19 (by kernel_rfl) rfl #[.int .i64 (l1.length : Int), .slice A0 l0.length c0, .slice A2 l2.length c2] rfl (by (try simp only [List.map_toArray, List.map_cons, List.map_nil]); first | done | rfl | (simp only [List.length_drop, List.length_take]; rfl)) ?_; (with_reducible refine (swarfref29_Linear.calls kj21 (l1.length : Int) _ _ l0 _ _ l2 true _ ?side1 ?side2 ?side3 ?side4 A38.out).mono ?_); (case side1 => repeat (first | exact (Kd.C_below HR0.out HB.out) | (with_reducible refine Kd.C_alloc ?_ _) | (with_reducible refine Kd.C_drewN ?_ _) | (with_reducible refine Kd.C_drew ?_))); (case side2 => exact HC0.out); (case side3 => repeat (first | exact (Kd.C_below HR2.out HB.out) | (with_reducible refine Kd.C_alloc ?_ _) | (with_reducible refine Kd.C_drewN ?_ _) | (with_reducible refine Kd.C_drew ?_))); (case side4 => exact HC2.out); rintro e w41 ⟨rfl, hb⟩; refine ⟨_, rfl, ?_⟩; have n0_ := aK (bT_ (by repeat (first | (with_reducible first | exact HB.out | apply bA_ | apply bN_ | apply bD_) | exact HB.out)) hb); clear HB; have HB := n0_; clear n0_; (try clear hb); (try clear hb2); (try clear hk); (try clear hi)) | (go_at_call 30; (with_reducible refine (swarfref29_Changes.calls kj21 _ _ l2 _ _ l1 t394 _ ?side1 ?side2 ?side3 ?side4 A40.out).mono ?_); (case side1 => repeat (first | exact (Kd.C_below HR2.out HB.out) | (with_reducible refine Kd.C_alloc ?_ _) | (with_reducible refine Kd.C_drewN ?_ _) | (with_reducible refine Kd.C_drew ?_))); (case side2 => exact HC2.out); (case side3 => repeat (first | exact (Kd.C_below HR1.out HB.out) | (with_reducible refine Kd.C_alloc ?_ _) | (with_reducible refine Kd.C_drewN ?_ _) | (with_reducible refine Kd.C_drew ?_))); (case side4 => exact HC1.out); rintro e w' ⟨rfl, ⟨nd, rfl⟩⟩))
           go_ret
           exact ⟨by first | rfl | (simp [errW_none, errW_some] <;> rfl) | (simp [*, errW_none, errW_some] <;> rfl), by repeat (first | (with_reducible first | exact HB.out | apply bA_ | apply bN_ | apply bD_) | exact HB.out)⟩
          ·replace c39 := Bool.eq_false_iff.mpr c39
           subst c39
           have H1 : (some true) = some r := by rw [if_neg (show ¬ (false = true) by decide)] at H; exact H
           clear H; have H := H1; clear H1; obtain rfl := Option.some.inj H
           go_wp2_with (first | ((with_reducible refine gate_callee (f := 19) rfl ?_); refine goesL_ (some 74) rfl rfl Try.func19 (by kernel_rfl) rfl #[.int .i64 (l1.length : Int), .slice A0 l0.length c0, .slice A2 l2.length c2] rfl (by (try simp only [List.map_toArray, List.map_cons, List.map_nil]); first | done | rfl | (simp only [List.length_drop, List.length_take]; rfl)) ?_; (with_reducible refine (swarfref29_Linear.calls kj21 (l1.length : Int) _ _ l0 _ _ l2 false _ ?side1 ?side2 ?side3 ?side4 A38.out).mono ?_); (case side1 => repeat (first | exact (Kd.C_below HR0.out HB.out) | (with_reducible refine Kd.C_alloc ?_ _) | (with_reducible refine Kd.C_drewN ?_ _) | (with_reducible refine Kd.C_drew ?_))); (case side2 => exact HC0.out); (case side3 => repeat (first | exact (Kd.C_below HR2.out HB.out) | (with_reducible refine Kd.C_alloc ?_ _) | (with_reducible refine Kd.C_drewN ?_ _) | (with_reducible refine Kd.C_drew ?_))); (case side4 => exact HC2.out); rintro e w42 ⟨rfl, hb⟩; refine ⟨_, rfl, ?_⟩; have n0_ := aK (bT_ (by repeat (first | (with_reducible first | exact HB.out | apply bA_ | apply bN_ | apply bD_) | exact HB.out)) hb); clear HB; have HB := n0_; clear n0_; (try clear hb); (try clear hb2); (try clear hk); (try clear hi)))
           go_ret
           exact ⟨by first | rfl | (simp [errW_none, errW_some] <;> rfl) | (simp [*, errW_none, errW_some] <;> rfl), by repeat (first | (with_reducible first | exact HB.out | apply bA_ | apply bN_ | apply bD_) | exact HB.out)⟩
      ·rw [if_neg c21] at H
       have c21b0 : (t386 == 0) = false := beq_eq_false_iff_ne.mpr c21
       have c21b1 : (t386 != 0) = true := bne_iff_ne.mpr c21
       by_cases c43 : t386 = 12
       ·rw [if_pos c43] at H
        have c43b0 : (t386 == 12) = true := beq_iff_eq.mpr c43
        have c43b1 : (t386 != 12) = false := bne_eq_false_iff_eq.mpr c43
        clear c43; replace H := oB_ H
        obtain ⟨t390, A440, H⟩ := H
        replace H : (some t390) = some r := H
        have A44 := aK A440; clear A440; obtain rfl := Option.some.inj H
        go_wp2_with (first | ((with_reducible refine gate_callee (f := 15) rfl ?_); refine goesL_ (some 34) rfl rfl Try.func15 (by kernel_rfl) rfl #[.slice A0 l0.length c0] rfl (by (try simp only [List.map_toArray, List.map_cons, List.map_nil]); first | done | rfl | (simp only [List.length_drop, List.length_take]; rfl)) ?_; (with_reducible refine (swarflaw29_cp.calls _ _ l0 t375 _ ?side1 ?side2 A16.out).mono ?_); (case side1 => repeat (first | exact (Kd.C_below HR0.out HB.out) | (with_reducible refine Kd.C_alloc ?_ _) | (with_reducible refine Kd.C_drewN ?_ _) | (with_reducible refine Kd.C_drew ?_))); (case side2 => exact HC0.out); rintro e w45 ⟨v376, rfl, ho0, hb⟩; refine ⟨_, rfl, ?_⟩; have n0_ := aK (Kd.R_lower ho0 (bZ_ (by repeat (first | (with_reducible first | exact HB.out | apply bA_ | apply bN_ | apply bD_) | exact HB.out)))); have n1_ := aK (bT_ (by repeat (first | (with_reducible first | exact HB.out | apply bA_ | apply bN_ | apply bD_) | exact HB.out)) hb); clear HB; have HO377 := n0_; have HB := n1_; clear n0_ n1_; (try clear hb); (try clear hb2); (try clear hk); (try clear hi); (try clear ho0)) | ((with_reducible refine gate_dst (N := 35) rfl ?_); (try (refine gate_guard (by rfl) ?_; dsimp only)); refine Kd.R_lit (Kd.int .i64) _ 3 ?hg (N := 35) ?hd (xs := ([] : List Int)) (inner := []) (ok := fun _ => True) (okp := fun _ => True) ?hr ?hp (fun _ hk => hk) trivial (Below.refl _ _) (Nat.le_refl _) (by simp) ?_; (case hd => rfl); (case hg => rfl); (case hr => first | (go_simp; done) | (go_simp; rfl)); (case hp => exact (Reps.none _ _)); intro v379 w46 ho47 hb hg_ hnew_; clear hg_ hnew_; (first | rw [← Ny378.out] at ho47 | (simp only [Int.reduceToNat] at ho47; rw [← Ny378.out] at ho47)); have n0_ := aK (Kd.R_below (by (with_reducible repeat (first | apply Kd.R_alloc | apply Kd.R_drewN | apply Kd.R_drew)); exact HO377.out) hb); have n1_ := aK (Kd.R_lower ho47 (bZ_ (by repeat (first | (with_reducible first | exact HB.out | apply bA_ | apply bN_ | apply bD_) | exact HB.out)))); have n2_ := aK (bT_ (by repeat (first | (with_reducible first | exact HB.out | apply bA_ | apply bN_ | apply bD_) | exact HB.out)) hb); clear HO377; clear HB; have HO377 := n0_; have HO380 := n1_; have HB := n2_; clear n0_ n1_ n2_; clear hb ho47) | ((with_reducible refine gate_builtin (b := .append) (xs := #[.tmp 35, .tmp 36]) rfl ?_); (try (refine gate_guard (by rfl) ?_; dsimp only)); at_builtin; refine Kd.R_append_rows (Kd.int .i64) (w0 := w) w.heap.size rfl (.tmp 35) (.tmp 36) 31 3 (.int .i64 0) 8 rfl Try.underlying31 info3 rfl (by decide) (by omega) v379 y378 l1 _ _ _ (fun _ => True) (fun _ => False) rfl rfl ?aO ?aR (fun _ _ h => h) (fun _ h => h.elim) ?aF ?aB ?aS ?aL ?_; (case aR => repeat (first | exact (Kd.C_below HR1.out HB.out) | (with_reducible refine Kd.C_alloc ?_ _) | (with_reducible refine Kd.C_drewN ?_ _) | (with_reducible refine Kd.C_drew ?_))); (case aB => exact (by repeat (first | (with_reducible first | exact HB.out | apply bA_ | apply bN_ | apply bD_) | exact HB.out))); (case aF => exact (fun _ _ => trivial)); (case aO => exact (by (with_reducible repeat (first | apply Kd.R_alloc | apply Kd.R_drewN | apply Kd.R_drew)); exact HO380.out)); (case aS => exact (bZ_ (by repeat (first | (with_reducible first | exact HB.out | apply bA_ | apply bN_ | apply bD_) | exact HB.out)))); (case aL => have := LMc17.out; omega); intro v382 w48 ho hb hg hat; rw [← Ny381.out] at ho; have n0_ := aK (Kd.R_over' (by (with_reducible repeat (first | apply Kd.R_alloc | apply Kd.R_drewN | apply Kd.R_drew)); exact HO377.out) (Kd.R_typed (by (with_reducible repeat (first | apply Kd.R_alloc | apply Kd.R_drewN | apply Kd.R_drew)); exact HO380.out)) (by decide) hg); have n1_ := aK (hb); have n2_ := aK (ho); clear HO377; clear HB; clear HO380; have HO377 := n0_; have HB := n1_; have HO383 := n2_; clear n0_ n1_ n2_; clear ho hb hg hat; obtain ⟨Ao49, co49, eo49⟩ := Kd.R_slice HO377.out; subst eo49; obtain ⟨Ao50, co50, eo50⟩ := Kd.R_slice HO383.out; subst eo50) | ((with_reducible refine gate_callee (f := 28) rfl ?_); refine goesL_ (some 38) rfl rfl Try.func28 (by kernel_rfl) rfl #[.int .i64 (l1.length : Int), .slice Ao49 t375.length co49, .slice Ao50 y381.length co50] rfl (by (try simp only [List.map_toArray, List.map_cons, List.map_nil]); first | done | rfl | (simp only [List.length_drop, List.length_take]; rfl)) ?_; (with_reducible refine (precedence_Best.calls kj3 (l1.length : Int) _ _ t375 _ _ y381 t384 t385 t386 _ ?side1 ?side2 ?side3 ?side4 A18.out).mono ?_); (case side1 => repeat (first | exact (Kd.R_reads' HO377.out).2.2 | (with_reducible refine Kd.C_alloc ?_ _) | (with_reducible refine Kd.C_drewN ?_ _) | (with_reducible refine Kd.C_drew ?_))); (case side2 => exact (Kd.R_reads' HO377.out).2.1); (case side3 => repeat (first | exact (Kd.R_reads' HO383.out).2.2 | (with_reducible refine Kd.C_alloc ?_ _) | (with_reducible refine Kd.C_drewN ?_ _) | (with_reducible refine Kd.C_drew ?_))); (case side4 => exact (Kd.R_reads' HO383.out).2.1); rintro e w51 ⟨v387, rfl, ho0, hb⟩; refine ⟨_, rfl, ?_⟩; have n0_ := aK (Kd.R_below (by (with_reducible repeat (first | apply Kd.R_alloc | apply Kd.R_drewN | apply Kd.R_drew)); exact HO377.out) hb); have n1_ := aK (Kd.R_elder' (by (with_reducible repeat (first | apply Kd.R_alloc | apply Kd.R_drewN | apply Kd.R_drew)); exact HO383.out) (Kd.R_base ho0) hb); have n2_ := aK (Kd.R_lower (Kd.R_new' ho0 (Kd.R_lt (by (with_reducible repeat (first | apply Kd.R_alloc | apply Kd.R_drewN | apply Kd.R_drew)); exact HO383.out))) (bZ_ (by repeat (first | (with_reducible first | exact HB.out | apply bA_ | apply bN_ | apply bD_) | exact HB.out)))); have n3_ := aK (bT_ (by repeat (first | (with_reducible first | exact HB.out | apply bA_ | apply bN_ | apply bD_) | exact HB.out)) hb); clear HO377; clear HO383; clear HB; have HO377 := n0_; have HO383 := n1_; have HO388 := n2_; have HB := n3_; clear n0_ n1_ n2_ n3_; (try clear hb); (try clear hb2); (try clear hk); (try clear hi); (try clear ho0)) | ((with_reducible refine gate_callee (f := 21) rfl ?_); refine goesL_ (some 44) rfl rfl Try.func21 (by kernel_rfl) rfl #[.int .i64 (l1.length : Int), .slice A0 l0.length c0] rfl (by (try simp only [List.map_toArray, List.map_cons, List.map_nil]); first | done | rfl | (simp only [List.length_drop, List.length_take]; rfl)) ?_; (with_reducible refine (swarfref29_Valid.calls kj3 (l1.length : Int) _ _ l0 t389 _ ?side1 ?side2 A19.out).mono ?_); (case side1 => repeat (first | exact (Kd.C_below HR0.out HB.out) | (with_reducible refine Kd.C_alloc ?_ _) | (with_reducible refine Kd.C_drewN ?_ _) | (with_reducible refine Kd.C_drew ?_))); (case side2 => exact HC0.out); rintro e w' ⟨rfl, ⟨nd, rfl⟩⟩; refine ⟨_, rfl, ?_⟩) | (go_at_call 23; (with_reducible refine (swarfref29_Cyclic.calls kj3 (l1.length : Int) _ _ l0 t390 _ ?side1 ?side2 A44.out).mono ?_); (case side1 => repeat (first | exact (Kd.C_below HR0.out (by repeat (first | (with_reducible first | exact HB.out | apply bA_ | apply bN_ | apply bD_) | exact HB.out))) | (with_reducible refine Kd.C_alloc ?_ _) | (with_reducible refine Kd.C_drewN ?_ _) | (with_reducible refine Kd.C_drew ?_))); (case side2 => exact HC0.out); rintro e w52 ⟨rfl, hb⟩; have n0_ := aK (Kd.R_below (by (with_reducible repeat (first | apply Kd.R_alloc | apply Kd.R_drewN | apply Kd.R_drew)); exact HO377.out) hb); have n1_ := aK (Kd.R_below (by (with_reducible repeat (first | apply Kd.R_alloc | apply Kd.R_drewN | apply Kd.R_drew)); exact HO383.out) hb); have n2_ := aK (Kd.R_below (by (with_reducible repeat (first | apply Kd.R_alloc | apply Kd.R_drewN | apply Kd.R_drew)); exact HO388.out) hb); have n3_ := aK (bT_ (by repeat (first | (with_reducible first | exact HB.out | apply bA_ | apply bN_ | apply bD_) | exact HB.out)) hb); clear HO377; clear HO383; clear HO388; clear HB; have HO377 := n0_; have HO383 := n1_; have HO388 := n2_; have HB := n3_; clear n0_ n1_ n2_ n3_; (try clear hb); (try clear hb2); (try clear hk); (try clear hi)))
        go_ret
        exact ⟨by first | rfl | (simp [errW_none, errW_some] <;> rfl) | (simp [*, errW_none, errW_some] <;> rfl), by repeat (first | (with_reducible first | exact HB.out | apply bA_ | apply bN_ | apply bD_) | exact HB.out)⟩
       ·rw [if_neg c43] at H
        have c43b0 : (t386 == 12) = false := beq_eq_false_iff_ne.mpr c43
        have c43b1 : (t386 != 12) = true := bne_iff_ne.mpr c43
        (rw [HRT.out] at H; exact absurd H (by decide))
     ·rw [if_neg c20] at H
      have c20b0 : (t389 == 0) = false := beq_eq_false_iff_ne.mpr c20
      have c20b1 : (t389 != 0) = true := bne_iff_ne.mpr c20
      obtain rfl := Option.some.inj H
      go_wp2_with (first | ((with_reducible refine gate_callee (f := 15) rfl ?_); refine goesL_ (some 34) rfl rfl Try.func15 (by kernel_rfl) rfl #[.slice A0 l0.length c0] rfl (by (try simp only [List.map_toArray, List.map_cons, List.map_nil]); first | done | rfl | (simp only [List.length_drop, List.length_take]; rfl)) ?_; (with_reducible refine (swarflaw29_cp.calls _ _ l0 t375 _ ?side1 ?side2 A16.out).mono ?_); (case side1 => repeat (first | exact (Kd.C_below HR0.out HB.out) | (with_reducible refine Kd.C_alloc ?_ _) | (with_reducible refine Kd.C_drewN ?_ _) | (with_reducible refine Kd.C_drew ?_))); (case side2 => exact HC0.out); rintro e w60 ⟨v376, rfl, ho0, hb⟩; refine ⟨_, rfl, ?_⟩; have n0_ := aK (Kd.R_lower ho0 (bZ_ (by repeat (first | (with_reducible first | exact HB.out | apply bA_ | apply bN_ | apply bD_) | exact HB.out)))); have n1_ := aK (bT_ (by repeat (first | (with_reducible first | exact HB.out | apply bA_ | apply bN_ | apply bD_) | exact HB.out)) hb); clear HB; have HO377 := n0_; have HB := n1_; clear n0_ n1_; (try clear hb); (try clear hb2); (try clear hk); (try clear hi); (try clear ho0)) | ((with_reducible refine gate_dst (N := 35) rfl ?_); (try (refine gate_guard (by rfl) ?_; dsimp only)); refine Kd.R_lit (Kd.int .i64) _ 3 ?hg (N := 35) ?hd (xs := ([] : List Int)) (inner := []) (ok := fun _ => True) (okp := fun _ => True) ?hr ?hp (fun _ hk => hk) trivial (Below.refl _ _) (Nat.le_refl _) (by simp) ?_; (case hd => rfl); (case hg => rfl); (case hr => first | (go_simp; done) | (go_simp; rfl)); (case hp => exact (Reps.none _ _)); intro v379 w61 ho62 hb hg_ hnew_; clear hg_ hnew_; (first | rw [← Ny378.out] at ho62 | (simp only [Int.reduceToNat] at ho62; rw [← Ny378.out] at ho62)); have n0_ := aK (Kd.R_below (by (with_reducible repeat (first | apply Kd.R_alloc | apply Kd.R_drewN | apply Kd.R_drew)); exact HO377.out) hb); have n1_ := aK (Kd.R_lower ho62 (bZ_ (by repeat (first | (with_reducible first | exact HB.out | apply bA_ | apply bN_ | apply bD_) | exact HB.out)))); have n2_ := aK (bT_ (by repeat (first | (with_reducible first | exact HB.out | apply bA_ | apply bN_ | apply bD_) | exact HB.out)) hb); clear HO377; clear HB; have HO377 := n0_; have HO380 := n1_; have HB := n2_; clear n0_ n1_ n2_; clear hb ho62) | ((with_reducible refine gate_builtin (b := .append) (xs := #[.tmp 35, .tmp 36]) rfl ?_); (try (refine gate_guard (by rfl) ?_; dsimp only)); at_builtin; refine Kd.R_append_rows (Kd.int .i64) (w0 := w) w.heap.size rfl (.tmp 35) (.tmp 36) 31 3 (.int .i64 0) 8 rfl Try.underlying31 info3 rfl (by decide) (by omega) v379 y378 l1 _ _ _ (fun _ => True) (fun _ => False) rfl rfl ?aO ?aR (fun _ _ h => h) (fun _ h => h.elim) ?aF ?aB ?aS ?aL ?_; (case aR => repeat (first | exact (Kd.C_below HR1.out HB.out) | (with_reducible refine Kd.C_alloc ?_ _) | (with_reducible refine Kd.C_drewN ?_ _) | (with_reducible refine Kd.C_drew ?_))); (case aB => exact (by repeat (first | (with_reducible first | exact HB.out | apply bA_ | apply bN_ | apply bD_) | exact HB.out))); (case aF => exact (fun _ _ => trivial)); (case aO => exact (by (with_reducible repeat (first | apply Kd.R_alloc | apply Kd.R_drewN | apply Kd.R_drew)); exact HO380.out)); (case aS => exact (bZ_ (by repeat (first | (with_reducible first | exact HB.out | apply bA_ | apply bN_ | apply bD_) | exact HB.out)))); (case aL => have := LMc17.out; omega); intro v382 w63 ho hb hg hat; rw [← Ny381.out] at ho; have n0_ := aK (Kd.R_over' (by (with_reducible repeat (first | apply Kd.R_alloc | apply Kd.R_drewN | apply Kd.R_drew)); exact HO377.out) (Kd.R_typed (by (with_reducible repeat (first | apply Kd.R_alloc | apply Kd.R_drewN | apply Kd.R_drew)); exact HO380.out)) (by decide) hg); have n1_ := aK (hb); have n2_ := aK (ho); clear HO377; clear HB; clear HO380; have HO377 := n0_; have HB := n1_; have HO383 := n2_; clear n0_ n1_ n2_; clear ho hb hg hat; obtain ⟨Ao64, co64, eo64⟩ := Kd.R_slice HO377.out; subst eo64; obtain ⟨Ao65, co65, eo65⟩ := Kd.R_slice HO383.out; subst eo65) | ((with_reducible refine gate_callee (f := 28) rfl ?_); refine goesL_ (some 38) rfl rfl Try.func28 (by kernel_rfl) rfl #[.int .i64 (l1.length : Int), .slice Ao64 t375.length co64, .slice Ao65 y381.length co65] rfl (by (try simp only [List.map_toArray, List.map_cons, List.map_nil]); first | done | rfl | (simp only [List.length_drop, List.length_take]; rfl)) ?_; (with_reducible refine (precedence_Best.calls kj3 (l1.length : Int) _ _ t375 _ _ y381 t384 t385 t386 _ ?side1 ?side2 ?side3 ?side4 A18.out).mono ?_); (case side1 => repeat (first | exact (Kd.R_reads' HO377.out).2.2 | (with_reducible refine Kd.C_alloc ?_ _) | (with_reducible refine Kd.C_drewN ?_ _) | (with_reducible refine Kd.C_drew ?_))); (case side2 => exact (Kd.R_reads' HO377.out).2.1); (case side3 => repeat (first | exact (Kd.R_reads' HO383.out).2.2 | (with_reducible refine Kd.C_alloc ?_ _) | (with_reducible refine Kd.C_drewN ?_ _) | (with_reducible refine Kd.C_drew ?_))); (case side4 => exact (Kd.R_reads' HO383.out).2.1); rintro e w66 ⟨v387, rfl, ho0, hb⟩; refine ⟨_, rfl, ?_⟩; have n0_ := aK (Kd.R_below (by (with_reducible repeat (first | apply Kd.R_alloc | apply Kd.R_drewN | apply Kd.R_drew)); exact HO377.out) hb); have n1_ := aK (Kd.R_elder' (by (with_reducible repeat (first | apply Kd.R_alloc | apply Kd.R_drewN | apply Kd.R_drew)); exact HO383.out) (Kd.R_base ho0) hb); have n2_ := aK (Kd.R_lower (Kd.R_new' ho0 (Kd.R_lt (by (with_reducible repeat (first | apply Kd.R_alloc | apply Kd.R_drewN | apply Kd.R_drew)); exact HO383.out))) (bZ_ (by repeat (first | (with_reducible first | exact HB.out | apply bA_ | apply bN_ | apply bD_) | exact HB.out)))); have n3_ := aK (bT_ (by repeat (first | (with_reducible first | exact HB.out | apply bA_ | apply bN_ | apply bD_) | exact HB.out)) hb); clear HO377; clear HO383; clear HB; have HO377 := n0_; have HO383 := n1_; have HO388 := n2_; have HB := n3_; clear n0_ n1_ n2_ n3_; (try clear hb); (try clear hb2); (try clear hk); (try clear hi); (try clear ho0)) | ((with_reducible refine gate_callee (f := 21) rfl ?_); refine goesL_ (some 44) rfl rfl Try.func21 (by kernel_rfl) rfl #[.int .i64 (l1.length : Int), .slice A0 l0.length c0] rfl (by (try simp only [List.map_toArray, List.map_cons, List.map_nil]); first | done | rfl | (simp only [List.length_drop, List.length_take]; rfl)) ?_; (with_reducible refine (swarfref29_Valid.calls kj3 (l1.length : Int) _ _ l0 t389 _ ?side1 ?side2 A19.out).mono ?_); (case side1 => repeat (first | exact (Kd.C_below HR0.out HB.out) | (with_reducible refine Kd.C_alloc ?_ _) | (with_reducible refine Kd.C_drewN ?_ _) | (with_reducible refine Kd.C_drew ?_))); (case side2 => exact HC0.out); rintro e w' ⟨rfl, ⟨nd, rfl⟩⟩; refine ⟨_, rfl, ?_⟩))
      go_ret
      exact ⟨by first | rfl | (simp [errW_none, errW_some] <;> rfl) | (simp [*, errW_none, errW_some] <;> rfl), by repeat (first | (with_reducible first | exact HB.out | apply bA_ | apply bN_ | apply bD_) | exact HB.out)⟩
    ·rw [if_neg c17] at H
     exact absurd H (by simp)

end Go.Proofs.Ytbbkclcfmcjlgaa.P


namespace Go.Proofs.Ytbbkclcfmcjlgaa.B
open Go.RowKit Go.Proofs.Ytbbkclcfmcjlgaa.P Go.Proofs.YtbbkclcfmcjlgaaW.PrintWords Go.Proofs.YtbbkclcfmcjlgaaW.PrintLast
theorem awake_ev : Ev (fun k => swarflaw29_awake.f k) true := Ev.of swarflaw29_awake.mono swarflaw29_awake.small
end Go.Proofs.Ytbbkclcfmcjlgaa.B



namespace Go.Proofs.Ytbbkclcfmcjlgaa.P
open Go.RowKit Go.Proofs.YtbbkclcfmcjlgaaW.PrintWords Go.Proofs.YtbbkclcfmcjlgaaW.PrintLast Go.Proofs.YtbbkclcfmcjlgaaW.PrintMore
attribute [local go_sem] max2_int min2_int max_two min_two max_three min_three max_four min_four
set_option linter.unusedVariables false
set_option linter.unusedSimpArgs false

def swarflaw29_few.f (k : Nat) (a0 : Int) (a1 : Int) (l2 : List (S47)) : Option (Bool) := if (l2.length : Int) ≤ 60 then (if a0 ≤ a1 then (some true) else ((swarfref29_Valid.f k a0 l2).bind fun t189 => (some (t189 != 0)))) else (some false)
set_option maxHeartbeats 8000000 in
set_option maxRecDepth 100000 in
theorem swarflaw29_few.calls (k : Nat) (a0 : Int) (a1 : Int) (A2 : Option Addr) (c2 : Nat) (l2 : List (S47)) (r : Bool) (w : World) (hr2 : Kd.C k47 w A2 l2.length l2) (hc2 : l2.length ≤ c2) (h : swarflaw29_few.f k a0 a1 l2 = some r) :
  Calls Try.prog 13 #[.int .i64 a0, .int .i64 a1, .slice A2 l2.length c2] w fun e w' => e = .returned (.bool r) ∧ Drawn0 w w' := by
 have HR2 := aK hr2
 have HC2 := aK hc2
 clear hr2 hc2
 have H : (if (l2.length : Int) ≤ 60 then (if a0 ≤ a1 then (some true) else ((swarfref29_Valid.f k a0 l2).bind fun t189 => (some (t189 != 0)))) else (some false)) = some r := h
 clear h
 by_cases c4 : (l2.length : Int) ≤ 60
 ·rw [if_pos c4] at H
  have c4b0 : decide ((l2.length : Int) ≤ 60) = true := decide_eq_true c4
  have c4b1 : decide (l2.length ≤ 60) = true := decide_eq_true (by omega)
  clear c4
  by_cases c5 : a0 ≤ a1
  ·rw [if_pos c5] at H
   have c5b0 : decide (a0 ≤ a1) = true := decide_eq_true c5
   clear c5; obtain rfl := Option.some.inj H
   go_enter Try.func13, Try.ntmps13
   go_wp2; go_ret
   exact ⟨by first | rfl | (simp; done) | (simp [*]; done), by repeat (first | exact Drawn0.refl _ | apply Drawn0.step)⟩
  ·rw [if_neg c5] at H
   have c5b0 : decide (a0 ≤ a1) = false := decide_eq_false c5
   clear c5; replace H := oB_ H
   obtain ⟨t189, A60, H⟩ := H
   replace H : (some (t189 != 0)) = some r := H
   have A6 := aK A60; clear A60; obtain rfl := Option.some.inj H
   go_enter Try.func13, Try.ntmps13
   go_wp2_with (first | (go_at_call 21; (with_reducible refine (swarfref29_Valid.calls k a0 _ _ l2 t189 _ ?side1 ?side2 A6.out).mono ?_); (case side1 => repeat (first | exact HR2.out | (with_reducible refine Kd.C_alloc ?_ _) | (with_reducible refine Kd.C_drewN ?_ _) | (with_reducible refine Kd.C_drew ?_))); (case side2 => exact HC2.out); rintro e w' ⟨rfl, ⟨nd, rfl⟩⟩))
   go_ret
   exact ⟨by first | rfl | (simp; done) | (simp [*]; done), by repeat (first | exact Drawn0.refl _ | apply Drawn0.step)⟩
 ·rw [if_neg c4] at H
  have c4b0 : decide ((l2.length : Int) ≤ 60) = false := decide_eq_false c4
  have c4b1 : decide (l2.length ≤ 60) = false := decide_eq_false (by omega)
  clear c4; obtain rfl := Option.some.inj H
  go_enter Try.func13, Try.ntmps13
  go_wp2; go_ret
  exact ⟨by first | rfl | (simp; done) | (simp [*]; done), by repeat (first | exact Drawn0.refl _ | apply Drawn0.step)⟩

end Go.Proofs.Ytbbkclcfmcjlgaa.P



namespace Go.Proofs.Ytbbkclcfmcjlgaa.B
open Go.RowKit Go.Proofs.Ytbbkclcfmcjlgaa.P Go.Proofs.YtbbkclcfmcjlgaaW.PrintWords Go.Proofs.YtbbkclcfmcjlgaaW.PrintLast Go.Proofs.YtbbkclcfmcjlgaaW.PrintMore
set_option linter.unusedVariables false
set_option linter.unusedSimpArgs false

theorem wrap_mid (x : Int) (h0 : -4000000000000000 ≤ x) (h1 : x ≤ 4000000000000000) : wrap64 x = x := by unfold wrap64; omega
theorem wrap_succ (x : Int) (h0 : 0 ≤ x) (h1 : x ≤ 1000000000000000) : wrap64 (x + 1) = x + 1 := wrap_mid _ (by omega) (by omega)
theorem ev_end {α : Type} {g : Nat → Option α} {r : α} (h : ∀ k, g (k + 1) = some r) : Ev g r := Ev.step (f := fun _ => some r) h (Ev.now r)
def EvP {α : Type} (g : Nat → Option α) (Post : α → Prop) : Prop := ∃ r, Ev g r ∧ Post r
theorem EvP.step {α : Type} {g f : Nat → Option α} {Post : α → Prop} (h : ∀ k, g (k + 1) = f k) (k : EvP f Post) : EvP g Post := by
 obtain ⟨r, h1, h2⟩ := k
 exact ⟨r, Ev.step h h1, h2⟩
theorem EvP.stop {α : Type} {g : Nat → Option α} {Post : α → Prop} (r : α) (h : ∀ k, g (k + 1) = some r) (hp : Post r) : EvP g Post := ⟨r, ev_end h, hp⟩
theorem EvP.bind {α β : Type} {g : Nat → Option α} {f : Nat → α → Option β} {a : α} {Post : β → Prop} (h : Ev g a) (k : EvP (fun n => f n a) Post) : EvP (fun n => (g n).bind (f n)) Post := by
 obtain ⟨r, h1, h2⟩ := k
 exact ⟨r, Ev.bind h h1, h2⟩
theorem EvP.bindP {α β : Type} {g : Nat → Option α} {f : Nat → α → Option β} {P1 : α → Prop} {Post : β → Prop} (h : EvP g P1) (k : ∀ a, P1 a → EvP (fun n => f n a) Post) : EvP (fun n => (g n).bind (f n)) Post := by
 obtain ⟨a, h1, h2⟩ := h
 exact EvP.bind h1 (k a h2)
theorem EvP.mono {α : Type} {g : Nat → Option α} {P Q : α → Prop} (h : EvP g P) (hq : ∀ a, P a → Q a) : EvP g Q := by
 obtain ⟨r, h1, h2⟩ := h
 exact ⟨r, h1, hq _ h2⟩
theorem EvP.same {α : Type} {g f : Nat → Option α} {Post : α → Prop} (h : ∀ k, g k = f k) (k : EvP f Post) : EvP g Post := by
 have : g = f := funext h
 rw [this]; exact k

theorem drop_T47 (l : List S47) (j : Int) (h0 : 0 ≤ j) (h : j < (l.length : Int)) : l.drop j.toNat = rd_T47 l j :: l.drop (j + 1).toNat := by
 have h1 : j.toNat < l.length := by omega
 rw [List.drop_eq_getElem_cons h1, show (j + 1).toNat = j.toNat + 1 by omega]
 congr 1
 unfold rd_T47
 simp [List.getD, h1]
theorem drop_rd (l : List Int) (j : Int) (h0 : 0 ≤ j) (h : j < (l.length : Int)) : l.drop j.toNat = rd l j :: l.drop (j + 1).toNat := by
 have h1 : j.toNat < l.length := by omega
 rw [List.drop_eq_getElem_cons h1, show (j + 1).toNat = j.toNat + 1 by omega]
 congr 1
 unfold rd
 simp [List.getD, h1]
theorem drop_end {α : Type} (l : List α) (j : Int) (h : (l.length : Int) ≤ j) : l.drop j.toNat = [] := List.drop_eq_nil_of_le (by omega)

def okp (n : Int) (p : S47) : Bool := decide (p.f0 ≠ p.f1) && (decide (0 ≤ p.f0) && decide (p.f0 < n)) && (decide (0 ≤ p.f1) && decide (p.f1 < n))
theorem okp_iff (n : Int) (p : S47) : okp n p = true ↔ p.f0 ≠ p.f1 ∧ (0 ≤ p.f0 ∧ p.f0 < n) ∧ (0 ≤ p.f1 ∧ p.f1 < n) := by simp [okp, and_assoc]
def vErr (n : Int) (l : List S47) : Int := if n > 200 ∨ (l.length : Int) > 2000 then 3 else if n < 0 then 1 else if l.all (okp n) = true then 0 else 1
theorem vErr_zero {n : Int} {l : List S47} (h : vErr n l = 0) : 0 ≤ n ∧ n ≤ 200 ∧ l.length ≤ 2000 ∧ ∀ p ∈ l, okp n p = true := by
 unfold vErr at h
 split at h
 ·cases h
 ·split at h
  ·cases h
  ·split at h
   ·rename_i h1 h2 h3
    refine ⟨by omega, by omega, by omega, ?_⟩
    rw [List.all_eq_true] at h3
    exact h3
   ·cases h
theorem valid_l0 (n : Int) (l : List S47) (hn : l.length ≤ 100000000000000) (d : Nat) : ∀ j : Int, 0 ≤ j → j + d = l.length → Ev (fun k => precedence_Valid.l0 k n l (l.length : Int) j) (if (l.drop j.toNat).all (okp n) = true then 0 else 1) := by
 induction d with
 | zero =>
  intro j h0 hj
  rw [drop_end l j (by omega)]
  exact ev_end (fun k => by simp only [precedence_Valid.l0]; rw [if_neg (by omega)]; rfl)
 | succ d ih =>
  intro j h0 hj
  have hw := wrap_succ j h0 (by omega)
  rw [drop_T47 l j h0 (by omega)]
  generalize hp : rd_T47 l j = p
  by_cases ho : okp n p = true
  ·have hi := ih (j + 1) (by omega) (by omega)
   rw [List.all_cons, ho, Bool.true_and]
   refine Ev.step (fun k => ?_) hi
   rw [okp_iff] at ho
   simp only [precedence_Valid.l0]
   rw [if_pos (by omega), if_pos (by omega), if_pos (by omega), hp, if_neg ho.1, if_neg (by unfold mn; split <;> omega), if_neg (by unfold mx; split <;> omega), hw]
  ·rw [List.all_cons, show okp n p = false by simpa using ho, Bool.false_and]
   refine ev_end (fun k => ?_)
   rw [okp_iff] at ho
   simp only [precedence_Valid.l0]
   rw [if_pos (by omega), if_pos (by omega), if_pos (by omega), hp]
   by_cases h1 : p.f0 = p.f1
   ·rw [if_pos h1]; rfl
   ·rw [if_neg h1]
    by_cases h2 : mn p.f0 p.f1 < 0
    ·rw [if_pos h2]; rfl
    ·rw [if_neg h2, if_pos (by unfold mn at h2; unfold mx; split at h2 <;> split <;> omega)]; rfl
theorem rvalid_l0 (n : Int) (l : List S47) (hn : l.length ≤ 100000000000000) (d : Nat) : ∀ j : Int, 0 ≤ j → j + d = l.length → Ev (fun k => swarfref29_Valid.l0 k n l j) (if (l.drop j.toNat).all (okp n) = true then 0 else 1) := by
 induction d with
 | zero =>
  intro j h0 hj
  rw [drop_end l j (by omega)]
  exact ev_end (fun k => by simp only [swarfref29_Valid.l0]; rw [if_neg (by omega)]; rfl)
 | succ d ih =>
  intro j h0 hj
  have hw := wrap_succ j h0 (by omega)
  rw [drop_T47 l j h0 (by omega)]
  generalize hp : rd_T47 l j = p
  by_cases ho : okp n p = true
  ·have hi := ih (j + 1) (by omega) (by omega)
   rw [List.all_cons, ho, Bool.true_and]
   refine Ev.step (fun k => ?_) hi
   rw [okp_iff] at ho
   simp only [swarfref29_Valid.l0]
   rw [if_pos (by omega), if_pos (by omega), hp, if_neg (by omega), if_neg (by omega), if_neg (by omega), if_neg (by omega), if_neg ho.1, hw]
  ·rw [List.all_cons, show okp n p = false by simpa using ho, Bool.false_and]
   refine ev_end (fun k => ?_)
   rw [okp_iff] at ho
   simp only [swarfref29_Valid.l0]
   rw [if_pos (by omega), if_pos (by omega), hp]
   by_cases h1 : p.f0 < 0
   ·rw [if_pos h1]; rfl
   ·rw [if_neg h1]
    by_cases h2 : p.f0 ≥ n
    ·rw [if_pos h2]; rfl
    ·rw [if_neg h2]
     by_cases h3 : p.f1 < 0
     ·rw [if_pos h3]; rfl
     ·rw [if_neg h3]
      by_cases h4 : p.f1 ≥ n
      ·rw [if_pos h4]; rfl
      ·rw [if_neg h4, if_pos (by omega)]; rfl
theorem valid_ev (n : Int) (l : List S47) (hn : l.length ≤ 100000000000000) : Ev (fun k => precedence_Valid.f k n l) (vErr n l) := by
 have h := valid_l0 n l hn l.length 0 (by omega) (by omega)
 rw [show (0 : Int).toNat = 0 from rfl, List.drop_zero] at h
 unfold precedence_Valid.f vErr
 by_cases c : n > 200
 ·simp only [if_pos c, if_pos (show n > 200 ∨ (l.length : Int) > 2000 from .inl c)]
  exact ev_end (fun k => by simp [precedence_Valid.j0])
 ·simp only [if_neg c]
  by_cases c2 : (l.length : Int) > 2000
  ·simp only [if_pos (show n > 200 ∨ (l.length : Int) > 2000 from .inr c2), decide_eq_true c2]
   exact ev_end (fun k => by simp [precedence_Valid.j0])
  ·simp only [if_neg (show ¬ (n > 200 ∨ (l.length : Int) > 2000) by omega), decide_eq_false c2]
   by_cases c3 : n < 0
   ·simp only [if_pos c3]
    exact ev_end (fun k => by simp [precedence_Valid.j0, c3])
   ·simp only [if_neg c3]
    refine Ev.step (fun k => ?_) h
    simp only [precedence_Valid.j0]
    rw [if_neg (by decide), if_neg c3]
theorem rvalid_ev (n : Int) (l : List S47) (hn : l.length ≤ 100000000000000) : Ev (fun k => swarfref29_Valid.f k n l) (vErr n l) := by
 have h := rvalid_l0 n l hn l.length 0 (by omega) (by omega)
 rw [show (0 : Int).toNat = 0 from rfl, List.drop_zero] at h
 unfold swarfref29_Valid.f vErr
 by_cases c : n > 200
 ·simp only [if_pos c, if_pos (show n > 200 ∨ (l.length : Int) > 2000 from .inl c)]
  exact ev_end (fun k => by simp [swarfref29_Valid.j0])
 ·simp only [if_neg c]
  by_cases c2 : (l.length : Int) > 2000
  ·simp only [if_pos (show n > 200 ∨ (l.length : Int) > 2000 from .inr c2), decide_eq_true c2]
   exact ev_end (fun k => by simp [swarfref29_Valid.j0])
  ·simp only [if_neg (show ¬ (n > 200 ∨ (l.length : Int) > 2000) by omega), decide_eq_false c2]
   by_cases c3 : n < 0
   ·simp only [if_pos c3]
    exact ev_end (fun k => by simp [swarfref29_Valid.j0, c3])
   ·simp only [if_neg c3]
    refine Ev.step (fun k => ?_) h
    simp only [swarfref29_Valid.j0]
    rw [if_neg (by decide), if_neg c3]
theorem cp_eq (l : List S47) (hn : l.length < 8796093022208) : swarflaw29_cp.f l = some l := by
 unfold swarflaw29_cp.f
 simp only [Option.bind_some]
 rw [if_pos (by simpa using hn)]
 rfl

theorem S47.eta (p q : S47) : p = q ↔ p.f0 = q.f0 ∧ p.f1 = q.f1 := by
 constructor
 ·rintro rfl; exact ⟨rfl, rfl⟩
 ·cases p; cases q; rintro ⟨rfl, rfl⟩; rfl
instance : DecidableEq S47 := fun p q => if h : p.f0 = q.f0 ∧ p.f1 = q.f1 then isTrue ((S47.eta p q).2 h) else isFalse (fun e => h ((S47.eta p q).1 e))
theorem in_l0 (o : List Int) (hl : o.length ≤ 100000000000000) (x : Int) (d : Nat) : ∀ j : Int, 0 ≤ j → j + d = o.length → Ev (fun k => swarfref29_in.l0 k o x j) (decide (x ∈ o.drop j.toNat)) := by
 induction d with
 | zero =>
  intro j h0 hj
  rw [drop_end o j (by omega)]
  exact ev_end (fun k => by simp only [swarfref29_in.l0]; rw [if_neg (by omega)]; simp)
 | succ d ih =>
  intro j h0 hj
  have hw := wrap_succ j h0 (by omega)
  rw [drop_rd o j h0 (by omega)]
  generalize hy : rd o j = y
  by_cases h : y = x
  ·rw [show decide (x ∈ y :: o.drop (j + 1).toNat) = true by simp [h]]
   exact ev_end (fun k => by simp only [swarfref29_in.l0]; rw [if_pos (by omega), if_pos (by omega), hy, if_pos h])
  ·rw [show decide (x ∈ y :: o.drop (j + 1).toNat) = decide (x ∈ o.drop (j + 1).toNat) by simp [Ne.symm h]]
   refine Ev.step (fun k => ?_) (ih (j + 1) (by omega) (by omega))
   simp only [swarfref29_in.l0]
   rw [if_pos (by omega), if_pos (by omega), hy, if_neg h, hw]
theorem in_ev (o : List Int) (hl : o.length ≤ 100000000000000) (x : Int) : Ev (fun k => swarfref29_in.f k o x) (decide (x ∈ o)) := by
 unfold swarfref29_in.f
 exact in_l0 o hl x o.length 0 (by omega) (by omega)
def rdy (l : List S47) (o : List Int) (x : Int) : Bool := l.all fun p => decide (p.f1 = x → p.f0 ∈ o)
theorem rdy_iff (l : List S47) (o : List Int) (x : Int) : rdy l o x = true ↔ ∀ a, (⟨a, x⟩ : S47) ∈ l → a ∈ o := by
 unfold rdy
 rw [List.all_eq_true]
 constructor
 ·intro h a ha
  have := h _ ha
  simpa using this
 ·intro h p hp
  rw [decide_eq_true_iff]
  intro e
  exact h p.f0 (by rw [← e]; exact hp)
theorem ready_l0 (l : List S47) (hl : l.length ≤ 100000000000000) (o : List Int) (ho : o.length ≤ 100000000000000) (x : Int) (d : Nat) : ∀ j : Int, 0 ≤ j → j + d = l.length → Ev (fun k => swarfref29_ready.l0 k l o x j) (rdy (l.drop j.toNat) o x) := by
 induction d with
 | zero =>
  intro j h0 hj
  rw [drop_end l j (by omega)]
  exact ev_end (fun k => by simp only [swarfref29_ready.l0]; rw [if_neg (by omega)]; rfl)
 | succ d ih =>
  intro j h0 hj
  have hw := wrap_succ j h0 (by omega)
  rw [drop_T47 l j h0 (by omega)]
  generalize hy : rd_T47 l j = y
  have hi := ih (j + 1) (by omega) (by omega)
  by_cases h : y.f1 = x
  ·by_cases h2 : y.f0 ∈ o
   ·rw [show rdy (y :: l.drop (j + 1).toNat) o x = rdy (l.drop (j + 1).toNat) o x by simp [rdy, h2]]
    refine Ev.step (f := fun k => (swarfref29_in.f k o y.f0).bind fun t241 => if t241 = true then swarfref29_ready.l0 k l o x (j + 1) else some false) (fun k => ?_) (Ev.bind (in_ev o ho y.f0) ?_)
    ·simp only [swarfref29_ready.l0]
     rw [if_pos (by omega), if_pos (by omega), hy, if_pos h, hw]
    ·simp only [h2, decide_true, if_true]; exact hi
   ·rw [show rdy (y :: l.drop (j + 1).toNat) o x = false by simp [rdy, h2, h]]
    refine Ev.step (f := fun k => (swarfref29_in.f k o y.f0).bind fun t241 => if t241 = true then swarfref29_ready.l0 k l o x (j + 1) else some false) (fun k => ?_) (Ev.bind (in_ev o ho y.f0) ?_)
    ·simp only [swarfref29_ready.l0]
     rw [if_pos (by omega), if_pos (by omega), hy, if_pos h, hw]
    ·simp only [h2, decide_false]; exact Ev.now _
  ·rw [show rdy (y :: l.drop (j + 1).toNat) o x = rdy (l.drop (j + 1).toNat) o x by simp [rdy, h]]
   refine Ev.step (fun k => ?_) hi
   simp only [swarfref29_ready.l0]
   rw [if_pos (by omega), if_pos (by omega), hy, if_neg h, hw]
theorem ready_ev (l : List S47) (hl : l.length ≤ 100000000000000) (o : List Int) (ho : o.length ≤ 100000000000000) (x : Int) : Ev (fun k => swarfref29_ready.f k l o x) (rdy l o x) := by
 unfold swarfref29_ready.f
 exact ready_l0 l hl o ho x l.length 0 (by omega) (by omega)
end Go.Proofs.Ytbbkclcfmcjlgaa.B


namespace Go.Proofs.Ytbbkclcfmcjlgaa.P
open Go.RowKit Go.Proofs.YtbbkclcfmcjlgaaW.PrintWords Go.Proofs.YtbbkclcfmcjlgaaW.PrintLast Go.Proofs.YtbbkclcfmcjlgaaW.PrintMore
attribute [local go_sem] max2_int min2_int max_two min_two max_three min_three max_four min_four
set_option linter.unusedVariables false
set_option linter.unusedSimpArgs false

mutual
def precedence_Changes.l0 : Nat → List Int → List Int → Int → List Int → Int → Int → Option (Int)
 | 0, _, _, _, _, _, _ => none
 | k + 1, x0, x1, x5, x8, x9, x10 => if x10 < x9 then (if 0 ≤ x10 then (if x10 < (x8.length : Int) then (if (rd x8 x10) < 0 then (precedence_Changes.j1 k x0 x1 x5 x10 (rd x8 x10) x8 x9 x10 true) else (precedence_Changes.j1 k x0 x1 x5 x10 (rd x8 x10) x8 x9 x10 (decide ((rd x8 x10) ≥ (x1.length : Int))))) else (none)) else (none)) else (some x5)
def precedence_Changes.j1 : Nat → List Int → List Int → Int → Int → Int → List Int → Int → Int → Bool → Option (Int)
 | 0, _, _, _, _, _, _, _, _, _ => none
 | k + 1, x0, x1, x5, x6, x7, x8, x9, x10, x22 => if x22 = true then (some (-1)) else (if x6 > 0 then (if 0 ≤ (wrap64 (x6 - 1)) then (if (wrap64 (x6 - 1)) < (x0.length : Int) then (if 0 ≤ (rd x0 (wrap64 (x6 - 1))) then (if (rd x0 (wrap64 (x6 - 1))) < (x1.length : Int) then (if 0 ≤ x7 then (if x7 < (x1.length : Int) then (if (rd x1 (rd x0 (wrap64 (x6 - 1)))) = (rd x1 x7) then (precedence_Changes.l0 k x0 x1 x5 x8 x9 (wrap64 (x10 + 1))) else (precedence_Changes.l0 k x0 x1 (wrap64 (x5 + 1)) x8 x9 (wrap64 (x10 + 1)))) else (none)) else (none)) else (none)) else (none)) else (none)) else (none)) else (precedence_Changes.l0 k x0 x1 x5 x8 x9 (wrap64 (x10 + 1))))
end
def precedence_Changes.f (k : Nat) (l0 : List Int) (l1 : List Int) : Option (Int) := precedence_Changes.l0 k l0 l1 0 l0 (l0.length : Int) 0
set_option maxHeartbeats 8000000 in
set_option maxRecDepth 100000 in
theorem precedence_Changes.calls (k : Nat) (A0 : Option Addr) (c0 : Nat) (l0 : List Int) (A1 : Option Addr) (c1 : Nat) (l1 : List Int) (r : Int) (w : World) (hr0 : Kd.C (Kd.int .i64) w A0 l0.length l0) (hc0 : l0.length ≤ c0) (hr1 : Kd.C (Kd.int .i64) w A1 l1.length l1) (hc1 : l1.length ≤ c1) (h : precedence_Changes.f k l0 l1 = some r) :
  Calls Try.prog 31 #[.slice A0 l0.length c0, .slice A1 l1.length c1] w fun e w' => e = .returned (.int .i64 r) ∧ Drawn0 w w' := by
 have HR0 := aK hr0
 have HC0 := aK hc0
 clear hr0 hc0
 have HR1 := aK hr1
 have HC1 := aK hc1
 clear hr1 hc1
 have H : (precedence_Changes.l0 k l0 l1 0 l0 (l0.length : Int) 0) = some r := h
 clear h
 have H' := aK H
 clear H
 go_enter Try.func31, Try.ntmps31
 go_wp2
 repeat (go_quiet (fail); try go_wp2)
 go_loopg [5, 10] k (fun kq v5 v10 w' => ∃ (x5_1 : Int) (x10_1 : Int), v5 = .int .i64 x5_1 ∧ v10 = .int .i64 x10_1 ∧ Aside0 (precedence_Changes.l0 kq l0 l1 x5_1 l0 (l0.length : Int) x10_1 = some r) ∧ Aside0 (kq ≤ k) ∧ Drawn0 w w')
 case atStart => exact ⟨(0), (0), (by first | rfl | (simp; done) | (simp [*]; done)), (by first | rfl | (simp; done) | (simp [*]; done)), H', ⟨Nat.le_refl _⟩, by repeat (first | exact Drawn0.refl _ | apply Drawn0.step)⟩
 case round =>
  clear H'; try clear c1; try clear p2
  obtain ⟨x5_1, x10_1, rfl, rfl, HA, HK1, ⟨m1, rfl⟩⟩ := hrel
  cases gk with
  | zero => exact absurd HA.out (by simp [precedence_Changes.l0])
  | succ k1 =>
   have H := HA.out
   clear HA
   simp only [precedence_Changes.l0] at H
   by_cases c3 : x10_1 < (l0.length : Int)
   ·rw [if_pos c3] at H
    have c3b0 : decide (x10_1 < (l0.length : Int)) = true := decide_eq_true c3
    clear c3
    by_cases c4 : 0 ≤ x10_1
    ·rw [if_pos c4] at H
     have c4b0 : decide (0 ≤ x10_1) = true := decide_eq_true c4
     clear c4
     by_cases c5 : x10_1 < (l0.length : Int)
     ·rw [if_pos c5] at H
      have c5b0 : decide (x10_1 < (l0.length : Int)) = true := decide_eq_true c5
      clear c5; have HC6 := aK H; clear H
      have p395 : 0 ≤ (x10_1 : Int) := of_decide_eq_true (by first | (with_reducible assumption) | assumption)
      have q395 : x10_1 < (l0.length : Int) := of_decide_eq_true (by first | (with_reducible assumption) | assumption)
      obtain ⟨ad395, e395, hx395_0⟩ := Kd.at_int HR0.out x10_1 p395 q395
      cases e395; replace p395 := eq_true p395; replace q395 := eq_true q395
      go_upto_region 5 with (fail)
      repeat (go_quiet (fail); go_upto_region 5 with (fail))
      go_cut [22] (fun v22 wc => ∃ (kq : Nat) (x22_5 : Bool), v22 = .bool x22_5 ∧ Aside0 (precedence_Changes.j1 kq l0 l1 x5_1 x10_1 (rd l0 x10_1) l0 (l0.length : Int) x10_1 x22_5 = some r) ∧ Aside0 (kq ≤ k1) ∧ Drawn0 w wc)
      case first =>
       have H := HC6.out
       clear HC6
       by_cases c7 : (rd l0 x10_1) < 0
       ·rw [if_pos c7] at H
        have c7b0 : decide ((rd l0 x10_1) < 0) = true := decide_eq_true c7
        clear c7
        (first | rw [c7b0] | (simp only [i64_w, i32_w]; rw [c7b0]) | skip)
        have H' := aK H; clear H; go_wp2
        repeat (go_quiet (fail); try go_wp2)
        go_meet
        case rel => exact ⟨_, (true), (by first | rfl | (simp; done) | (simp [*]; done)), H', ⟨by have := HK1.out; first | omega | exact Nat.le_refl _⟩, by repeat (first | exact Drawn0.refl _ | apply Drawn0.step)⟩
       ·rw [if_neg c7] at H
        have c7b0 : decide ((rd l0 x10_1) < 0) = false := decide_eq_false c7
        clear c7
        (first | rw [c7b0] | (simp only [i64_w, i32_w]; rw [c7b0]) | skip)
        have H' := aK H; clear H; go_wp2
        repeat (go_quiet (fail); try go_wp2)
        go_meet
        case rel => exact ⟨_, (decide ((rd l0 x10_1) ≥ (l1.length : Int))), (by first | rfl | (simp; done) | (simp [*]; done)), H', ⟨by have := HK1.out; first | omega | exact Nat.le_refl _⟩, by repeat (first | exact Drawn0.refl _ | apply Drawn0.step)⟩
      case rest =>
       clear HC6; try clear c1; try clear p2; try clear c3; try clear c3b0; try clear p3; try clear q3; try clear hx3; try clear c4; try clear c4b0; try clear c5; try clear c5b0; try clear c7; try clear c7b0; try clear hx395_0; try clear p2; try clear p395; try clear q395
       obtain ⟨kq, x22_5, rfl, HA, HJ5, ⟨mc5, rfl⟩⟩ := hcut
       cases kq with
       | zero => exact absurd HA.out (by simp [precedence_Changes.j1])
       | succ kj5 =>
        have H := HA.out
        clear HA
        simp only [precedence_Changes.j1] at H
        by_cases c8 : x22_5 = true
        ·subst c8
         have H1 : (some (-1)) = some r := by rw [if_pos rfl] at H; exact H
         clear H; have H := H1; clear H1; obtain rfl := Option.some.inj H; go_wp2
         repeat (go_quiet (fail); try go_wp2)
         go_ret
         exact ⟨by first | rfl | (simp; done) | (simp [*]; done), by repeat (first | exact Drawn0.refl _ | apply Drawn0.step)⟩
        ·replace c8 := Bool.eq_false_iff.mpr c8
         subst c8
         have H1 : (if x10_1 > 0 then (if 0 ≤ (wrap64 (x10_1 - 1)) then (if (wrap64 (x10_1 - 1)) < (l0.length : Int) then (if 0 ≤ (rd l0 (wrap64 (x10_1 - 1))) then (if (rd l0 (wrap64 (x10_1 - 1))) < (l1.length : Int) then (if 0 ≤ (rd l0 x10_1) then (if (rd l0 x10_1) < (l1.length : Int) then (if (rd l1 (rd l0 (wrap64 (x10_1 - 1)))) = (rd l1 (rd l0 x10_1)) then (precedence_Changes.l0 kj5 l0 l1 x5_1 l0 (l0.length : Int) (wrap64 (x10_1 + 1))) else (precedence_Changes.l0 kj5 l0 l1 (wrap64 (x5_1 + 1)) l0 (l0.length : Int) (wrap64 (x10_1 + 1)))) else (none)) else (none)) else (none)) else (none)) else (none)) else (none)) else (precedence_Changes.l0 kj5 l0 l1 x5_1 l0 (l0.length : Int) (wrap64 (x10_1 + 1)))) = some r := by rw [if_neg (show ¬ (false = true) by decide)] at H; exact H
         clear H; have H := H1; clear H1
         by_cases c9 : x10_1 > 0
         ·rw [if_pos c9] at H
          have c9b0 : decide (0 < x10_1) = true := decide_eq_true c9
          clear c9
          obtain ⟨ji10, hji10⟩ : ∃ j_ : Int, (wrap64 (x10_1 - 1)) = j_ := ⟨_, rfl⟩
          replace H : (if 0 ≤ (ji10) then (if (ji10) < (l0.length : Int) then (if 0 ≤ (rd l0 (ji10)) then (if (rd l0 (ji10)) < (l1.length : Int) then (if 0 ≤ (rd l0 x10_1) then (if (rd l0 x10_1) < (l1.length : Int) then (if (rd l1 (rd l0 (ji10))) = (rd l1 (rd l0 x10_1)) then (precedence_Changes.l0 kj5 l0 l1 x5_1 l0 (l0.length : Int) (wrap64 (x10_1 + 1))) else (precedence_Changes.l0 kj5 l0 l1 (wrap64 (x5_1 + 1)) l0 (l0.length : Int) (wrap64 (x10_1 + 1)))) else (none)) else (none)) else (none)) else (none)) else (none)) else (none)) = some r := by first | (rw [hji10] at H; exact H) | (simp only [hji10] at H ⊢; exact H)
          have hji10w : (IntKind.i64.wrap (x10_1 - 1)) = ji10 := (i64_w _).trans hji10
          by_cases c11 : 0 ≤ (ji10)
          ·rw [if_pos c11] at H
           have c11b0 : decide (0 ≤ (ji10)) = true := decide_eq_true c11
           clear c11
           by_cases c12 : (ji10) < (l0.length : Int)
           ·rw [if_pos c12] at H
            have c12b0 : decide ((ji10) < (l0.length : Int)) = true := decide_eq_true c12
            clear c12
            by_cases c13 : 0 ≤ (rd l0 (ji10))
            ·rw [if_pos c13] at H
             have c13b0 : decide (0 ≤ (rd l0 (ji10))) = true := decide_eq_true c13
             clear c13
             by_cases c14 : (rd l0 (ji10)) < (l1.length : Int)
             ·rw [if_pos c14] at H
              have c14b0 : decide ((rd l0 (ji10)) < (l1.length : Int)) = true := decide_eq_true c14
              clear c14
              by_cases c15 : 0 ≤ (rd l0 x10_1)
              ·rw [if_pos c15] at H
               have c15b0 : decide (0 ≤ (rd l0 x10_1)) = true := decide_eq_true c15
               clear c15
               by_cases c16 : (rd l0 x10_1) < (l1.length : Int)
               ·rw [if_pos c16] at H
                have c16b0 : decide ((rd l0 x10_1) < (l1.length : Int)) = true := decide_eq_true c16
                clear c16
                by_cases c17 : (rd l1 (rd l0 (ji10))) = (rd l1 (rd l0 x10_1))
                ·rw [if_pos c17] at H
                 have c17b0 : ((rd l1 (rd l0 (ji10))) == (rd l1 (rd l0 x10_1))) = true := beq_iff_eq.mpr c17
                 have c17b1 : ((rd l1 (rd l0 (ji10))) != (rd l1 (rd l0 x10_1))) = false := bne_eq_false_iff_eq.mpr c17
                 clear c17; have H' := aK H; clear H
                 have p396 : 0 ≤ ((ji10) : Int) := of_decide_eq_true (by first | (with_reducible assumption) | assumption)
                 have q396 : (ji10) < (l0.length : Int) := of_decide_eq_true (by first | (with_reducible assumption) | assumption)
                 obtain ⟨ad396, e396, hx396_0⟩ := Kd.at_int HR0.out (ji10) p396 q396
                 obtain rfl : ad395 = ad396 := (by injection e396)
                 replace p396 := eq_true p396; replace q396 := eq_true q396
                 have p397 : 0 ≤ ((rd l0 (ji10)) : Int) := of_decide_eq_true (by first | (with_reducible assumption) | assumption)
                 have q397 : (rd l0 (ji10)) < (l1.length : Int) := of_decide_eq_true (by first | (with_reducible assumption) | assumption)
                 obtain ⟨ad397, e397, hx397_0⟩ := Kd.at_int HR1.out (rd l0 (ji10)) p397 q397
                 cases e397; replace p397 := eq_true p397; replace q397 := eq_true q397
                 have p398 : 0 ≤ ((rd l0 x10_1) : Int) := of_decide_eq_true (by first | (with_reducible assumption) | assumption)
                 have q398 : (rd l0 x10_1) < (l1.length : Int) := of_decide_eq_true (by first | (with_reducible assumption) | assumption)
                 obtain ⟨ad398, e398, hx398_0⟩ := Kd.at_int HR1.out (rd l0 x10_1) p398 q398
                 obtain rfl : ad397 = ad398 := (by injection e398)
                 replace p398 := eq_true p398; replace q398 := eq_true q398; go_wp2
                 repeat (go_quiet (fail); try go_wp2)
                 go_roundg kj5
                 case measure => have := HK1.out; have := HJ5.out; omega
                 case rel => exact ⟨(x5_1), (wrap64 (x10_1 + 1)), (by first | rfl | (simp; done) | (simp [*]; done)), (by first | rfl | (simp; done) | (simp [*]; done)), H', ⟨by have := HK1.out; have := HJ5.out; omega⟩, by repeat (first | exact Drawn0.refl _ | apply Drawn0.step)⟩
                ·rw [if_neg c17] at H
                 have c17b0 : ((rd l1 (rd l0 (ji10))) == (rd l1 (rd l0 x10_1))) = false := beq_eq_false_iff_ne.mpr c17
                 have c17b1 : ((rd l1 (rd l0 (ji10))) != (rd l1 (rd l0 x10_1))) = true := bne_iff_ne.mpr c17
                 have H' := aK H; clear H
                 have p396 : 0 ≤ ((ji10) : Int) := of_decide_eq_true (by first | (with_reducible assumption) | assumption)
                 have q396 : (ji10) < (l0.length : Int) := of_decide_eq_true (by first | (with_reducible assumption) | assumption)
                 obtain ⟨ad396, e396, hx396_0⟩ := Kd.at_int HR0.out (ji10) p396 q396
                 obtain rfl : ad395 = ad396 := (by injection e396)
                 replace p396 := eq_true p396; replace q396 := eq_true q396
                 have p397 : 0 ≤ ((rd l0 (ji10)) : Int) := of_decide_eq_true (by first | (with_reducible assumption) | assumption)
                 have q397 : (rd l0 (ji10)) < (l1.length : Int) := of_decide_eq_true (by first | (with_reducible assumption) | assumption)
                 obtain ⟨ad397, e397, hx397_0⟩ := Kd.at_int HR1.out (rd l0 (ji10)) p397 q397
                 cases e397; replace p397 := eq_true p397; replace q397 := eq_true q397
                 have p398 : 0 ≤ ((rd l0 x10_1) : Int) := of_decide_eq_true (by first | (with_reducible assumption) | assumption)
                 have q398 : (rd l0 x10_1) < (l1.length : Int) := of_decide_eq_true (by first | (with_reducible assumption) | assumption)
                 obtain ⟨ad398, e398, hx398_0⟩ := Kd.at_int HR1.out (rd l0 x10_1) p398 q398
                 obtain rfl : ad397 = ad398 := (by injection e398)
                 replace p398 := eq_true p398; replace q398 := eq_true q398; go_wp2
                 repeat (go_quiet (fail); try go_wp2)
                 go_roundg kj5
                 case measure => have := HK1.out; have := HJ5.out; omega
                 case rel => exact ⟨(wrap64 (x5_1 + 1)), (wrap64 (x10_1 + 1)), (by first | rfl | (simp; done) | (simp [*]; done)), (by first | rfl | (simp; done) | (simp [*]; done)), H', ⟨by have := HK1.out; have := HJ5.out; omega⟩, by repeat (first | exact Drawn0.refl _ | apply Drawn0.step)⟩
               ·rw [if_neg c16] at H
                exact absurd H (by simp)
              ·rw [if_neg c15] at H
               exact absurd H (by simp)
             ·rw [if_neg c14] at H
              exact absurd H (by simp)
            ·rw [if_neg c13] at H
             exact absurd H (by simp)
           ·rw [if_neg c12] at H
            exact absurd H (by simp)
          ·rw [if_neg c11] at H
           exact absurd H (by simp)
         ·rw [if_neg c9] at H
          have c9b0 : decide (0 < x10_1) = false := decide_eq_false c9
          clear c9; have H' := aK H; clear H; go_wp2
          repeat (go_quiet (fail); try go_wp2)
          go_roundg kj5
          case measure => have := HK1.out; have := HJ5.out; omega
          case rel => exact ⟨(x5_1), (wrap64 (x10_1 + 1)), (by first | rfl | (simp; done) | (simp [*]; done)), (by first | rfl | (simp; done) | (simp [*]; done)), H', ⟨by have := HK1.out; have := HJ5.out; omega⟩, by repeat (first | exact Drawn0.refl _ | apply Drawn0.step)⟩
     ·rw [if_neg c5] at H
      exact absurd H (by simp)
    ·rw [if_neg c4] at H
     exact absurd H (by simp)
   ·rw [if_neg c3] at H
    have c3b0 : decide (x10_1 < (l0.length : Int)) = false := decide_eq_false c3
    clear c3; obtain rfl := Option.some.inj H; go_wp2
    repeat (go_quiet (fail); try go_wp2)
    go_ret
    exact ⟨by first | rfl | (simp; done) | (simp [*]; done), by repeat (first | exact Drawn0.refl _ | apply Drawn0.step)⟩

end Go.Proofs.Ytbbkclcfmcjlgaa.P



namespace Go.Proofs.Ytbbkclcfmcjlgaa.B
open Go.RowKit Go.Proofs.Ytbbkclcfmcjlgaa.P Go.Proofs.YtbbkclcfmcjlgaaW.PrintWords Go.Proofs.YtbbkclcfmcjlgaaW.PrintLast Go.Proofs.YtbbkclcfmcjlgaaW.PrintMore
set_option linter.unusedVariables false
set_option linter.unusedSimpArgs false

def cst (tl : List Int) : Int → List Int → Int
 | _, [] => 0
 | la, i :: w => (if 0 ≤ la ∧ rd tl la ≠ rd tl i then 1 else 0) + cst tl i w
def inr (m : Int) (x : Int) : Bool := decide (0 ≤ x) && decide (x < m)
theorem inr_iff (m x : Int) : inr m x = true ↔ 0 ≤ x ∧ x < m := by simp [inr]
def chgs (o tl : List Int) : Int := if o.all (inr tl.length) = true then cst tl (-1) o else -1
def prv (o : List Int) (j : Int) : Int := if j = 0 then -1 else rd o (j - 1)
def rest (tl o : List Int) (c j : Int) : Int := if (o.drop j.toNat).all (inr tl.length) = true then c + cst tl (prv o j) (o.drop j.toNat) else -1
theorem rest_end (tl o : List Int) (c j : Int) (h : (o.length : Int) ≤ j) : rest tl o c j = c := by
 unfold rest
 rw [drop_end o j h]
 simp [cst]
theorem rest_bad (tl o : List Int) (c j : Int) (h0 : 0 ≤ j) (h : j < (o.length : Int)) (hb : ¬ (0 ≤ rd o j ∧ rd o j < (tl.length : Int))) : rest tl o c j = -1 := by
 unfold rest
 rw [drop_rd o j h0 h, List.all_cons]
 rw [show inr tl.length (rd o j) = false by rw [← Bool.not_eq_true, inr_iff]; exact hb]
 simp
theorem rest_step (tl o : List Int) (c j : Int) (h0 : 0 ≤ j) (h : j < (o.length : Int)) (hb : 0 ≤ rd o j ∧ rd o j < (tl.length : Int)) : rest tl o c j = rest tl o (c + (if 0 ≤ prv o j ∧ rd tl (prv o j) ≠ rd tl (rd o j) then 1 else 0)) (j + 1) := by
 unfold rest
 rw [drop_rd o j h0 h, List.all_cons, (inr_iff _ _).2 hb, Bool.true_and]
 split
 ·rw [cst, show prv o (j + 1) = rd o j by unfold prv; rw [if_neg (by omega)]; congr 1; omega]
  omega
 ·rfl
theorem rchanges_l0 (o tl : List Int) (ho : o.length ≤ 100000000000000) (d : Nat) : ∀ (j c : Int), 0 ≤ j → j + d = o.length → 0 ≤ c → c ≤ j → (j = 0 ∨ (0 ≤ rd o (j - 1) ∧ rd o (j - 1) < (tl.length : Int))) → Ev (fun k => swarfref29_Changes.l0 k o tl c j) (rest tl o c j) := by
 induction d with
 | zero =>
  intro j c h0 hj _ _ _
  rw [rest_end tl o c j (by omega)]
  exact ev_end (fun k => by simp only [swarfref29_Changes.l0]; rw [if_neg (by omega)])
 | succ d ih =>
  intro j c h0 hj c0 c1 hp
  have hw := wrap_succ j h0 (by omega)
  have hwc := wrap_succ c c0 (by omega)
  have hwm : wrap64 (j - 1) = j - 1 := wrap_mid _ (by omega) (by omega)
  by_cases hb : 0 ≤ rd o j ∧ rd o j < (tl.length : Int)
  ·rw [rest_step tl o c j h0 (by omega) hb]
   have hstep : ∀ x, Ev (fun k => swarfref29_Changes.j1 k o tl c j false) x → Ev (fun k => swarfref29_Changes.l0 k o tl c j) x := by
    intro x hx
    refine Ev.step (fun k => ?_) hx
    simp only [swarfref29_Changes.l0]
    rw [if_pos (by omega), if_pos h0, if_neg (by omega), decide_eq_false (show ¬ rd o j ≥ (tl.length : Int) by omega)]
   refine hstep _ ?_
   by_cases z : j = 0
   ·subst z
    rw [show prv o 0 = -1 from rfl, if_neg (by omega), Int.add_zero]
    refine Ev.step (fun k => ?_) (ih 1 c (by omega) (by omega) c0 (by omega) (.inr (by simpa using hb)))
    simp only [swarfref29_Changes.j1]
    rw [if_neg (by decide), if_neg (by omega), hw]
    rfl
   ·have hq : 0 ≤ rd o (j - 1) ∧ rd o (j - 1) < (tl.length : Int) := hp.resolve_left z
    rw [show prv o j = rd o (j - 1) by unfold prv; rw [if_neg z]]
    by_cases e : rd tl (rd o (j - 1)) = rd tl (rd o j)
    ·rw [if_neg (fun h => h.2 e), Int.add_zero]
     refine Ev.step (fun k => ?_) (ih (j + 1) c (by omega) (by omega) c0 (by omega) (.inr (by rw [show j + 1 - 1 = j by omega]; exact hb)))
     simp only [swarfref29_Changes.j1]
     rw [if_neg (by decide), if_pos (by omega), if_pos h0, if_pos (by omega), if_pos hb.1, if_pos hb.2, hwm, if_pos (by omega), if_pos (by omega), if_pos hq.1, if_pos hq.2, if_pos e.symm, hw]
    ·rw [if_pos ⟨hq.1, e⟩]
     refine Ev.step (fun k => ?_) (ih (j + 1) (c + 1) (by omega) (by omega) (by omega) (by omega) (.inr (by rw [show j + 1 - 1 = j by omega]; exact hb)))
     simp only [swarfref29_Changes.j1]
     rw [if_neg (by decide), if_pos (by omega), if_pos h0, if_pos (by omega), if_pos hb.1, if_pos hb.2, hwm, if_pos (by omega), if_pos (by omega), if_pos hq.1, if_pos hq.2, if_neg (fun h => e h.symm), hw, hwc]
  ·rw [rest_bad tl o c j h0 (by omega) hb]
   by_cases h1 : rd o j < 0
   ·refine Ev.step (f := fun k => swarfref29_Changes.j1 k o tl c j true) (fun k => ?_) (ev_end (fun k => by simp [swarfref29_Changes.j1]))
    simp only [swarfref29_Changes.l0]
    rw [if_pos (by omega), if_pos h0, if_pos h1]
   ·refine Ev.step (f := fun k => swarfref29_Changes.j1 k o tl c j true) (fun k => ?_) (ev_end (fun k => by simp [swarfref29_Changes.j1]))
    simp only [swarfref29_Changes.l0]
    rw [if_pos (by omega), if_pos h0, if_neg h1, decide_eq_true (show rd o j ≥ (tl.length : Int) by omega)]
theorem rchanges_ev (o tl : List Int) (ho : o.length ≤ 100000000000000) : Ev (fun k => swarfref29_Changes.f k o tl) (chgs o tl) := by
 unfold swarfref29_Changes.f
 have h := rchanges_l0 o tl ho o.length 0 0 (by omega) (by omega) (by omega) (by omega) (.inl rfl)
 have e : rest tl o 0 0 = chgs o tl := by
  unfold rest chgs
  simp [prv]
 rwa [e] at h
end Go.Proofs.Ytbbkclcfmcjlgaa.B

namespace Go.Proofs.Ytbbkclcfmcjlgaa.Gr
set_option linter.unusedVariables false

inductive Tc (R : Int → Int → Prop) : Int → Int → Prop
 | one {a b : Int} : R a b → Tc R a b
 | step {a c b : Int} : R a c → Tc R c b → Tc R a b
section
variable {R R' : Int → Int → Prop} {n a b c : Int}
theorem Tc.trans (h : Tc R a b) : Tc R b c → Tc R a c := by
 induction h with
 | one h => exact fun k => .step h k
 | step h _ ih => exact fun k => .step h (ih k)
theorem Tc.mono (hr : ∀ a b, R a b → R' a b) (h : Tc R a b) : Tc R' a b := by
 induction h with
 | one h => exact .one (hr _ _ h)
 | step h _ ih => exact .step (hr _ _ h) ih
def Inn (R : Int → Int → Prop) (n : Int) : Prop := ∀ a b, R a b → (0 ≤ a ∧ a < n) ∧ (0 ≤ b ∧ b < n)
theorem Tc.inn (hr : Inn R n) (h : Tc R a b) : (0 ≤ a ∧ a < n) ∧ (0 ≤ b ∧ b < n) := by
 induction h with
 | one h => exact hr _ _ h
 | step h _ ih => exact ⟨(hr _ _ h).1, ih.2⟩
theorem Tc.head (h : Tc R a b) : ∃ c, R a c ∧ (c = b ∨ Tc R c b) := by
 cases h with
 | one h => exact ⟨_, h, .inl rfl⟩
 | step h k => exact ⟨_, h, .inr k⟩
inductive Pk (R : Int → Int → Prop) (k : Int) : Int → Int → Prop
 | one {a b : Int} : R a b → Pk R k a b
 | step {a c b : Int} : R a c → c < k → Pk R k c b → Pk R k a b
variable {k : Int}
theorem Pk.tc (h : Pk R k a b) : Tc R a b := by
 induction h with
 | one h => exact .one h
 | step h _ _ ih => exact .step h ih
theorem Pk.mono {k' : Int} (hk : k ≤ k') (h : Pk R k a b) : Pk R k' a b := by
 induction h with
 | one h => exact .one h
 | step h hc _ ih => exact .step h (by omega) ih
theorem Pk.of_tc (hr : Inn R n) (h : Tc R a b) : Pk R n a b := by
 induction h with
 | one h => exact .one h
 | step h _ ih => exact .step h (hr _ _ h).2.2 ih
theorem Pk.split (h : Pk R (k + 1) a b) : Pk R k a b ∨ (Pk R k a k ∧ Pk R k k b) := by
 induction h with
 | one h => exact .inl (.one h)
 | @step a c b h hc _ ih =>
  by_cases e : c = k
  ·subst e
   rcases ih with ih | ih
   ·exact .inr ⟨.one h, ih⟩
   ·exact .inr ⟨.one h, ih.2⟩
  ·have hc' : c < k := by omega
   rcases ih with ih | ih
   ·exact .inl (.step h hc' ih)
   ·exact .inr ⟨.step h hc' ih.1, ih.2⟩
theorem Pk.zero (hr : Inn R n) (h : Pk R 0 a b) : R a b := by
 cases h with
 | one h => exact h
 | step h hc _ => have := (hr _ _ h).2.1; omega
end

theorem pig (n : Nat) : ∀ o : List Int, o.Nodup → (∀ x ∈ o, 0 ≤ x ∧ x < (n : Int)) → o.length ≤ n := by
 induction n with
 | zero =>
  intro o _ h
  cases o with
  | nil => exact Nat.le_refl _
  | cons x o => have := h x List.mem_cons_self; omega
 | succ n ih =>
  intro o hd h
  by_cases hm : (n : Int) ∈ o
  ·have h1 := ih (o.erase (n : Int)) (hd.erase _) (fun x hx => by
    have h2 := (hd.mem_erase_iff).1 hx
    have h3 := h x h2.2
    have : x ≠ (n : Int) := h2.1
    omega)
   rw [List.length_erase_of_mem hm] at h1
   omega
  ·have h1 := ih o hd (fun x hx => by
    have h3 := h x hx
    have : x ≠ (n : Int) := fun e => hm (e ▸ hx)
    omega)
   omega
theorem all_in (n : Nat) : ∀ o : List Int, (∀ i : Int, 0 ≤ i → i < (n : Int) → i ∈ o) → n ≤ o.length := by
 induction n with
 | zero => intro o _; omega
 | succ n ih =>
  intro o h
  have hm := h n (by omega) (by omega)
  have h1 := ih (o.erase (n : Int)) (fun i h0 hi => (List.mem_erase_of_ne (by omega)).2 (h i h0 (by omega)))
  rw [List.length_erase_of_mem hm] at h1
  have := List.length_pos_of_mem hm
  omega
theorem some_out {n : Int} {o : List Int} (h : (o.length : Int) < n) : ∃ i : Int, (0 ≤ i ∧ i < n) ∧ ¬ i ∈ o := by
 by_cases hx : ∃ i : Int, (0 ≤ i ∧ i < n) ∧ ¬ i ∈ o
 ·exact hx
 ·have := all_in n.toNat o (fun i h0 hi => by
   by_cases hm : i ∈ o
   ·exact hm
   ·exact absurd ⟨i, ⟨h0, by omega⟩, hm⟩ hx)
  omega
theorem full_in {n : Int} {o : List Int} (hd : o.Nodup) (h : ∀ x ∈ o, 0 ≤ x ∧ x < n) (hl : (o.length : Int) = n) (i : Int) (h0 : 0 ≤ i) (hi : i < n) : i ∈ o := by
 by_cases hm : i ∈ o
 ·exact hm
 ·have := pig n.toNat (i :: o) (List.nodup_cons.2 ⟨hm, hd⟩) (fun x hx => by
   rcases List.mem_cons.1 hx with rfl | hx
   ·omega
   ·have := h x hx; omega)
  simp only [List.length_cons] at this
  omega

def Acyc (R : Int → Int → Prop) : Prop := ∀ a, ¬ Tc R a a
def Topo (R : Int → Int → Prop) (o : List Int) : Prop := ∀ (i : Nat) (x : Int), o[i]? = some x → ∀ j, R j x → j ∈ o.take i
theorem Topo.tc {R : Int → Int → Prop} {o : List Int} (ht : Topo R o) {a b : Int} (h : Tc R a b) : ∀ i : Nat, o[i]? = some b → a ∈ o.take i := by
 induction h with
 | one h => exact fun i hi => ht i _ hi _ h
 | @step a c b h _ ih =>
  intro i hi
  have hc := ih i hi
  obtain ⟨j, hj⟩ := List.getElem?_of_mem hc
  have hji : j < i := by
   rw [List.getElem?_take] at hj
   split at hj
   ·assumption
   ·cases hj
  have hj' : o[j]? = some c := by
   rw [List.getElem?_take, if_pos hji] at hj
   exact hj
  have := ht j c hj' a h
  exact (List.take_subset_take_left o (by omega)) this
theorem Topo.acyc {R : Int → Int → Prop} {o : List Int} {n : Int} (ht : Topo R o) (hd : o.Nodup) (hin : Inn R n) (hall : ∀ i, 0 ≤ i → i < n → i ∈ o) : Acyc R := by
 intro a h
 have ha := (h.inn hin).1
 obtain ⟨i, hi⟩ := List.getElem?_of_mem (hall a ha.1 ha.2)
 have h1 := ht.tc h i hi
 obtain ⟨j, hj⟩ := List.getElem?_of_mem h1
 have hji : j < i := by
  rw [List.getElem?_take] at hj
  split at hj
  ·assumption
  ·cases hj
 rw [List.getElem?_take, if_pos hji] at hj
 obtain ⟨hil, hi2⟩ := List.getElem?_eq_some_iff.1 hi
 obtain ⟨hjl, hj2⟩ := List.getElem?_eq_some_iff.1 hj
 have := (List.getElem_inj (xs := o) (h₀ := hjl) (h₁ := hil) hd).1 (hj2.trans hi2.symm)
 omega
theorem source {R : Int → Int → Prop} {n : Int} (hin : Inn R n) (hac : Acyc R) (o : List Int) (hx : ∃ i : Int, (0 ≤ i ∧ i < n) ∧ ¬ i ∈ o) : ∃ i : Int, (0 ≤ i ∧ i < n) ∧ ¬ i ∈ o ∧ ∀ j, R j i → j ∈ o := by
 by_cases hz : ∃ i : Int, (0 ≤ i ∧ i < n) ∧ ¬ i ∈ o ∧ ∀ j, R j i → j ∈ o
 ·exact hz
 ·exfalso
  have step : ∀ i : Int, (0 ≤ i ∧ i < n) → ¬ i ∈ o → ∃ j, R j i ∧ ¬ j ∈ o := by
   intro i hi ho
   by_cases he : ∃ j, R j i ∧ ¬ j ∈ o
   ·exact he
   ·exact absurd ⟨i, hi, ho, fun j hj => by
     by_cases hm : j ∈ o
     ·exact hm
     ·exact absurd ⟨j, hj, hm⟩ he⟩ hz
  have chain : ∀ m : Nat, ∃ (h : Int) (L : List Int), (h :: L).length = m + 1 ∧ (h :: L).Nodup ∧ (∀ x ∈ h :: L, 0 ≤ x ∧ x < n) ∧ ¬ h ∈ o ∧ ∀ y ∈ L, Tc R h y := by
   intro m
   induction m with
   | zero =>
    obtain ⟨i, hi, ho⟩ := hx
    exact ⟨i, [], rfl, by simp, by simpa using hi, ho, by simp⟩
   | succ m ih =>
    obtain ⟨h, L, hl, hd, hb, ho, ht⟩ := ih
    obtain ⟨j, hj, hjo⟩ := step h (hb h List.mem_cons_self) ho
    refine ⟨j, h :: L, by simp only [List.length_cons] at hl ⊢; omega, List.nodup_cons.2 ⟨fun hm => ?_, hd⟩, fun x hx => ?_, hjo, fun y hy => ?_⟩
    ·rcases List.mem_cons.1 hm with rfl | hm
     ·exact hac _ (.one hj)
     ·exact hac _ (.step hj (ht _ hm))
    ·rcases List.mem_cons.1 hx with rfl | hx
     ·exact (hin _ _ hj).1
     ·exact hb x hx
    ·rcases List.mem_cons.1 hy with rfl | hy
     ·exact .one hj
     ·exact .step hj (ht y hy)
  obtain ⟨h, L, hl, hd, hb, _, _⟩ := chain n.toNat
  have := pig n.toNat (h :: L) hd (fun x hx => by have := hb x hx; omega)
  omega

end Go.Proofs.Ytbbkclcfmcjlgaa.Gr



namespace Go.Proofs.Ytbbkclcfmcjlgaa.P
open Go.RowKit Go.Proofs.YtbbkclcfmcjlgaaW.PrintWords Go.Proofs.YtbbkclcfmcjlgaaW.PrintLast Go.Proofs.YtbbkclcfmcjlgaaW.PrintMore
attribute [local go_sem] max2_int min2_int max_two min_two max_three min_three max_four min_four
set_option linter.unusedVariables false
set_option linter.unusedSimpArgs false

def swarfref29_fault.f (k : Nat) (a0 : Int) (l1 : List (S47)) : Option (Int) := (swarfref29_Valid.f k a0 l1).bind fun t325 => (if t325 = 0 then ((swarfref29_Cyclic.f k a0 l1).bind fun t326 => (if t326 = true then (some 12) else (some 0))) else (some t325))
set_option maxHeartbeats 8000000 in
set_option maxRecDepth 100000 in
theorem swarfref29_fault.calls (k : Nat) (a0 : Int) (A1 : Option Addr) (c1 : Nat) (l1 : List (S47)) (r : Int) (w : World) (hr1 : Kd.C k47 w A1 l1.length l1) (hc1 : l1.length ≤ c1) (h : swarfref29_fault.f k a0 l1 = some r) :
  Calls Try.prog 47 #[.int .i64 a0, .slice A1 l1.length c1] w fun e w' => e = .returned (.int .i64 r) ∧ Below w.heap.size w w' := by
 have HR1 := aK hr1
 have HC1 := aK hc1
 clear hr1 hc1
 have HB := aK (Below.refl w.heap.size w)
 have H : ((swarfref29_Valid.f k a0 l1).bind fun t325 => (if t325 = 0 then ((swarfref29_Cyclic.f k a0 l1).bind fun t326 => (if t326 = true then (some 12) else (some 0))) else (some t325))) = some r := h
 clear h
 replace H := oB_ H
 obtain ⟨t325, A30, H⟩ := H
 replace H : (if t325 = 0 then ((swarfref29_Cyclic.f k a0 l1).bind fun t326 => (if t326 = true then (some 12) else (some 0))) else (some t325)) = some r := H
 have A3 := aK A30
 clear A30
 by_cases c4 : t325 = 0
 ·rw [if_pos c4] at H
  have c4b0 : (t325 == 0) = true := beq_iff_eq.mpr c4
  have c4b1 : (t325 != 0) = false := bne_eq_false_iff_eq.mpr c4
  clear c4; replace H := oB_ H
  obtain ⟨t326, A50, H⟩ := H
  replace H : (if t326 = true then (some 12) else (some 0)) = some r := H
  have A5 := aK A50; clear A50
  by_cases c6 : t326 = true
  ·subst c6
   have H1 : (some 12) = some r := by rw [if_pos rfl] at H; exact H
   clear H; have H := H1; clear H1; obtain rfl := Option.some.inj H
   go_enter Try.func47, Try.ntmps47
   go_wp2_with (first | ((with_reducible refine gate_callee (f := 21) rfl ?_); refine goesL_ (some 8) rfl rfl Try.func21 (by kernel_rfl) rfl #[.int .i64 a0, .slice A1 l1.length c1] rfl (by (try simp only [List.map_toArray, List.map_cons, List.map_nil]); first | done | rfl | (simp only [List.length_drop, List.length_take]; rfl)) ?_; (with_reducible refine (swarfref29_Valid.calls k a0 _ _ l1 t325 _ ?side1 ?side2 A3.out).mono ?_); (case side1 => repeat (first | exact HR1.out | (with_reducible refine Kd.C_alloc ?_ _) | (with_reducible refine Kd.C_drewN ?_ _) | (with_reducible refine Kd.C_drew ?_))); (case side2 => exact HC1.out); rintro e w' ⟨rfl, ⟨nd, rfl⟩⟩; refine ⟨_, rfl, ?_⟩) | ((with_reducible refine gate_callee (f := 23) rfl ?_); refine goesL_ (some 14) rfl rfl Try.func23 (by kernel_rfl) rfl #[.int .i64 a0, .slice A1 l1.length c1] rfl (by (try simp only [List.map_toArray, List.map_cons, List.map_nil]); first | done | rfl | (simp only [List.length_drop, List.length_take]; rfl)) ?_; (with_reducible refine (swarfref29_Cyclic.calls k a0 _ _ l1 true _ ?side1 ?side2 A5.out).mono ?_); (case side1 => repeat (first | exact HR1.out | (with_reducible refine Kd.C_alloc ?_ _) | (with_reducible refine Kd.C_drewN ?_ _) | (with_reducible refine Kd.C_drew ?_))); (case side2 => exact HC1.out); rintro e w7 ⟨rfl, hb⟩; refine ⟨_, rfl, ?_⟩; have n0_ := aK (bT_ (by repeat (first | (with_reducible first | exact HB.out | apply bA_ | apply bN_ | apply bD_) | exact HB.out)) hb); clear HB; have HB := n0_; clear n0_; (try clear hb); (try clear hb2); (try clear hk); (try clear hi)))
   go_ret
   exact ⟨by first | rfl | (simp [errW_none, errW_some] <;> rfl) | (simp [*, errW_none, errW_some] <;> rfl), by repeat (first | (with_reducible first | exact HB.out | apply bA_ | apply bN_ | apply bD_) | exact HB.out)⟩
  ·replace c6 := Bool.eq_false_iff.mpr c6
   subst c6
   have H1 : (some 0) = some r := by rw [if_neg (show ¬ (false = true) by decide)] at H; exact H
   clear H; have H := H1; clear H1; obtain rfl := Option.some.inj H
   go_enter Try.func47, Try.ntmps47
   go_wp2_with (first | ((with_reducible refine gate_callee (f := 21) rfl ?_); refine goesL_ (some 8) rfl rfl Try.func21 (by kernel_rfl) rfl #[.int .i64 a0, .slice A1 l1.length c1] rfl (by (try simp only [List.map_toArray, List.map_cons, List.map_nil]); first | done | rfl | (simp only [List.length_drop, List.length_take]; rfl)) ?_; (with_reducible refine (swarfref29_Valid.calls k a0 _ _ l1 t325 _ ?side1 ?side2 A3.out).mono ?_); (case side1 => repeat (first | exact HR1.out | (with_reducible refine Kd.C_alloc ?_ _) | (with_reducible refine Kd.C_drewN ?_ _) | (with_reducible refine Kd.C_drew ?_))); (case side2 => exact HC1.out); rintro e w' ⟨rfl, ⟨nd, rfl⟩⟩; refine ⟨_, rfl, ?_⟩) | ((with_reducible refine gate_callee (f := 23) rfl ?_); refine goesL_ (some 14) rfl rfl Try.func23 (by kernel_rfl) rfl #[.int .i64 a0, .slice A1 l1.length c1] rfl (by (try simp only [List.map_toArray, List.map_cons, List.map_nil]); first | done | rfl | (simp only [List.length_drop, List.length_take]; rfl)) ?_; (with_reducible refine (swarfref29_Cyclic.calls k a0 _ _ l1 false _ ?side1 ?side2 A5.out).mono ?_); (case side1 => repeat (first | exact HR1.out | (with_reducible refine Kd.C_alloc ?_ _) | (with_reducible refine Kd.C_drewN ?_ _) | (with_reducible refine Kd.C_drew ?_))); (case side2 => exact HC1.out); rintro e w8 ⟨rfl, hb⟩; refine ⟨_, rfl, ?_⟩; have n0_ := aK (bT_ (by repeat (first | (with_reducible first | exact HB.out | apply bA_ | apply bN_ | apply bD_) | exact HB.out)) hb); clear HB; have HB := n0_; clear n0_; (try clear hb); (try clear hb2); (try clear hk); (try clear hi)))
   go_ret
   exact ⟨by first | rfl | (simp [errW_none, errW_some] <;> rfl) | (simp [*, errW_none, errW_some] <;> rfl), by repeat (first | (with_reducible first | exact HB.out | apply bA_ | apply bN_ | apply bD_) | exact HB.out)⟩
 ·rw [if_neg c4] at H
  have c4b0 : (t325 == 0) = false := beq_eq_false_iff_ne.mpr c4
  have c4b1 : (t325 != 0) = true := bne_iff_ne.mpr c4
  obtain rfl := Option.some.inj H
  go_enter Try.func47, Try.ntmps47
  go_wp2_with (first | ((with_reducible refine gate_callee (f := 21) rfl ?_); refine goesL_ (some 8) rfl rfl Try.func21 (by kernel_rfl) rfl #[.int .i64 a0, .slice A1 l1.length c1] rfl (by (try simp only [List.map_toArray, List.map_cons, List.map_nil]); first | done | rfl | (simp only [List.length_drop, List.length_take]; rfl)) ?_; (with_reducible refine (swarfref29_Valid.calls k a0 _ _ l1 t325 _ ?side1 ?side2 A3.out).mono ?_); (case side1 => repeat (first | exact HR1.out | (with_reducible refine Kd.C_alloc ?_ _) | (with_reducible refine Kd.C_drewN ?_ _) | (with_reducible refine Kd.C_drew ?_))); (case side2 => exact HC1.out); rintro e w' ⟨rfl, ⟨nd, rfl⟩⟩; refine ⟨_, rfl, ?_⟩))
  go_ret
  exact ⟨by first | rfl | (simp [errW_none, errW_some] <;> rfl) | (simp [*, errW_none, errW_some] <;> rfl), by repeat (first | (with_reducible first | exact HB.out | apply bA_ | apply bN_ | apply bD_) | exact HB.out)⟩

end Go.Proofs.Ytbbkclcfmcjlgaa.P



namespace Go.Proofs.Ytbbkclcfmcjlgaa.B
open Go.RowKit Go.Proofs.Ytbbkclcfmcjlgaa.P Go.Proofs.Ytbbkclcfmcjlgaa.Gr Go.Proofs.YtbbkclcfmcjlgaaW.PrintWords Go.Proofs.YtbbkclcfmcjlgaaW.PrintLast Go.Proofs.YtbbkclcfmcjlgaaW.PrintMore
set_option linter.unusedVariables false
set_option linter.unusedSimpArgs false

def Rl (l : List S47) (a b : Int) : Prop := (⟨a, b⟩ : S47) ∈ l
theorem rl_inn {n : Int} {l : List S47} (h : ∀ p ∈ l, okp n p = true) : Inn (Rl l) n := fun a b hab => ((okp_iff _ _).1 (h _ hab)).2
def mt (m : List (List Bool)) (a b : Int) : Bool := rdOf false (rd_L7 m a) b
def st (m : List (List Bool)) (a b : Int) (v : Bool) : List (List Bool) := m.set a.toNat ((rd_L7 m a).set b.toNat v)
def Sq (n : Int) (m : List (List Bool)) : Prop := (m.length : Int) = n ∧ ∀ a, 0 ≤ a → a < n → ((rd_L7 m a).length : Int) = n
theorem rd_set_self (m : List (List Bool)) (a : Int) (y : List Bool) (h0 : 0 ≤ a) (h1 : a < (m.length : Int)) : rd_L7 (m.set a.toNat y) a = y := by
 unfold rd_L7
 rw [List.getD_eq_getElem?_getD, List.getElem?_set_self (by omega)]; rfl
theorem rd_set_ne (m : List (List Bool)) (a b : Int) (y : List Bool) (h0 : 0 ≤ a) (hb : 0 ≤ b) (h : b ≠ a) : rd_L7 (m.set a.toNat y) b = rd_L7 m b := by
 unfold rd_L7
 rw [List.getD_eq_getElem?_getD, List.getElem?_set_ne (by omega), List.getD_eq_getElem?_getD]
theorem of_set_self (r : List Bool) (b : Int) (v : Bool) (h0 : 0 ≤ b) (h1 : b < (r.length : Int)) : rdOf false (r.set b.toNat v) b = v := by
 unfold rdOf
 rw [List.getD_eq_getElem?_getD, List.getElem?_set_self (by omega)]; rfl
theorem of_set_ne (r : List Bool) (b c : Int) (v : Bool) (h0 : 0 ≤ b) (hc : 0 ≤ c) (h : c ≠ b) : rdOf false (r.set b.toNat v) c = rdOf false r c := by
 unfold rdOf
 rw [List.getD_eq_getElem?_getD, List.getElem?_set_ne (by omega), List.getD_eq_getElem?_getD]
theorem Sq.st {n : Int} {m : List (List Bool)} (h : Sq n m) {a b : Int} (a0 : 0 ≤ a) (a1 : a < n) (v : Bool) : Sq n (B.st m a b v) := by
 refine ⟨by unfold B.st; rw [List.length_set]; exact h.1, fun c c0 c1 => ?_⟩
 unfold B.st
 by_cases e : c = a
 ·subst e
  rw [rd_set_self _ _ _ a0 (by rw [h.1]; exact a1), List.length_set]
  exact h.2 c c0 c1
 ·rw [rd_set_ne _ _ _ _ a0 c0 e]
  exact h.2 c c0 c1
theorem mt_st {n : Int} {m : List (List Bool)} (h : Sq n m) {a b : Int} (a0 : 0 ≤ a) (a1 : a < n) (b0 : 0 ≤ b) (b1 : b < n) (v : Bool) {c d : Int} (c0 : 0 ≤ c) (d0 : 0 ≤ d) : mt (st m a b v) c d = if c = a ∧ d = b then v else mt m c d := by
 unfold mt st
 by_cases e : c = a
 ·subst e
  rw [rd_set_self _ _ _ a0 (by rw [h.1]; exact a1)]
  by_cases e2 : d = b
  ·subst e2
   rw [if_pos ⟨rfl, rfl⟩, of_set_self _ _ _ b0 (by rw [h.2 c a0 a1]; exact b1)]
  ·rw [if_neg (fun h => e2 h.2), of_set_ne _ _ _ _ b0 d0 e2]
 ·rw [if_neg (fun h => e h.1), rd_set_ne _ _ _ _ a0 c0 e]

def Inv2 (n : Int) (l : List S47) (k : Int) (m : List (List Bool)) : Prop :=
 Sq n m ∧ (∀ a b, 0 ≤ a → 0 ≤ b → mt m a b = true → Tc (Rl l) a b) ∧ (∀ a b, Pk (Rl l) k a b → mt m a b = true)
def Inv4 (n : Int) (l : List S47) (k a b : Int) (m : List (List Bool)) : Prop :=
 Inv2 n l k m ∧ ∀ a' b', (a' < a ∨ (a' = a ∧ b' < b)) → Pk (Rl l) (k + 1) a' b' → mt m a' b' = true
theorem inv4_set {n : Int} {l : List S47} (hin : Inn (Rl l) n) {k a b : Int} {m : List (List Bool)} (h : Inv4 n l k a b m) (a0 : 0 ≤ a) (a1 : a < n) (b0 : 0 ≤ b) (b1 : b < n) (k0 : 0 ≤ k) (v : Bool) (hv : v = (mt m a b || (mt m a k && mt m k b))) : Inv4 n l k a (b + 1) (st m a b v) := by
 obtain ⟨⟨hs, hd, hc⟩, hx⟩ := h
 have hm := fun {c d : Int} (c0 : 0 ≤ c) (d0 : 0 ≤ d) => mt_st hs a0 a1 b0 b1 v c0 d0
 refine ⟨⟨hs.st a0 a1 v, fun c d c0 d0 hcd => ?_, fun c d hcd => ?_⟩, fun c d hlt hcd => ?_⟩
 ·rw [hm c0 d0] at hcd
  split at hcd
  ·rename_i e
   obtain ⟨rfl, rfl⟩ := e
   rw [hv, Bool.or_eq_true, Bool.and_eq_true] at hcd
   rcases hcd with h1 | ⟨h1, h2⟩
   ·exact hd _ _ a0 b0 h1
   ·exact (hd _ _ a0 k0 h1).trans (hd _ _ k0 b0 h2)
  ·exact hd c d c0 d0 hcd
 ·have hr := (hcd.tc.inn hin)
  rw [hm hr.1.1 hr.2.1]
  split
  ·rename_i e
   obtain ⟨rfl, rfl⟩ := e
   rw [hv, hc _ _ hcd]; rfl
  ·exact hc c d hcd
 ·have hr := (hcd.tc.inn hin)
  rw [hm hr.1.1 hr.2.1]
  split
  ·rename_i e
   obtain ⟨rfl, rfl⟩ := e
   rw [hv]
   rcases hcd.split with h1 | ⟨h1, h2⟩
   ·rw [hc _ _ h1]; rfl
   ·rw [hc _ _ h1, hc _ _ h2]; simp
  ·rename_i e
   exact hx c d (by omega) hcd
theorem dep_l4 {n : Int} {l : List S47} (hn : 0 ≤ n ∧ n ≤ 200) (hin : Inn (Rl l) n) (k a : Int) (k0 : 0 ≤ k) (k1 : k < n) (a0 : 0 ≤ a) (a1 : a < n) (Post : List (List Bool) → Prop)
  (hk : ∀ m, Inv4 n l k (a + 1) 0 m → EvP (fun f => swarfref29_Depends.l3 f n m k (a + 1)) Post) (d : Nat) : ∀ (b : Int) (m : List (List Bool)), 0 ≤ b → b + d = n → Inv4 n l k a b m → EvP (fun f => swarfref29_Depends.l4 f n m k a b) Post := by
 induction d with
 | zero =>
  intro b m b0 hb h
  refine EvP.step (fun f => ?_) (hk m ⟨h.1, fun c e hlt hp => h.2 c e ?_ hp⟩)
  ·simp only [swarfref29_Depends.l4]
   rw [if_neg (by omega), wrap_succ a a0 (by omega)]
  ·have := hp.tc.inn hin
   omega
 | succ d ih =>
  intro b m b0 hb h
  have hw := wrap_succ b b0 (by omega)
  have hs := h.1.1
  have la := hs.2 a a0 a1
  have lk := hs.2 k k0 k1
  have lm := hs.1
  by_cases c1 : mt m a b = true
  ·refine EvP.step (fun f => ?_) (ih (b + 1) _ (by omega) (by omega) (inv4_set hin h a0 a1 b0 (by omega) k0 true (by rw [c1]; rfl)))
   simp only [swarfref29_Depends.l4]
   rw [if_pos (by omega), if_pos a0, if_pos (by omega), if_pos b0, if_pos (by omega), if_pos (show rdOf false (rd_L7 m a) b = true from c1), hw]
   rfl
  ·have c1' : mt m a b = false := by simpa using c1
   by_cases c2 : mt m a k = true
   ·refine EvP.step (fun f => ?_) (ih (b + 1) _ (by omega) (by omega) (inv4_set hin h a0 a1 b0 (by omega) k0 (mt m k b) (by rw [c1', c2]; simp)))
    simp only [swarfref29_Depends.l4]
    rw [if_pos (by omega), if_pos a0, if_pos (by omega), if_pos b0, if_pos (by omega), if_neg (show ¬ rdOf false (rd_L7 m a) b = true from c1), if_pos k0, if_pos (by omega), if_pos (show rdOf false (rd_L7 m a) k = true from c2), if_pos (by omega), if_pos (by omega), hw]
    rfl
   ·have c2' : mt m a k = false := by simpa using c2
    refine EvP.step (fun f => ?_) (ih (b + 1) _ (by omega) (by omega) (inv4_set hin h a0 a1 b0 (by omega) k0 false (by rw [c1', c2']; simp)))
    simp only [swarfref29_Depends.l4]
    rw [if_pos (by omega), if_pos a0, if_pos (by omega), if_pos b0, if_pos (by omega), if_neg (show ¬ rdOf false (rd_L7 m a) b = true from c1), if_pos k0, if_pos (by omega), if_neg (show ¬ rdOf false (rd_L7 m a) k = true from c2), hw]
    rfl
theorem dep_l3 {n : Int} {l : List S47} (hn : 0 ≤ n ∧ n ≤ 200) (hin : Inn (Rl l) n) (k : Int) (k0 : 0 ≤ k) (k1 : k < n) (Post : List (List Bool) → Prop)
  (hk : ∀ m, Inv2 n l (k + 1) m → EvP (fun f => swarfref29_Depends.l2 f n m (k + 1)) Post) (d : Nat) : ∀ (a : Int) (m : List (List Bool)), 0 ≤ a → a + d = n → Inv4 n l k a 0 m → EvP (fun f => swarfref29_Depends.l3 f n m k a) Post := by
 induction d with
 | zero =>
  intro a m a0 ha h
  refine EvP.step (fun f => ?_) (hk m ⟨h.1.1, h.1.2.1, fun c e hp => h.2 c e ?_ hp⟩)
  ·simp only [swarfref29_Depends.l3]
   rw [if_neg (by omega), wrap_succ k k0 (by omega)]
  ·have := hp.tc.inn hin
   omega
 | succ d ih =>
  intro a m a0 ha h
  refine EvP.step (fun f => ?_) (dep_l4 hn hin k a k0 k1 a0 (by omega) Post (fun m' h' => ih (a + 1) m' (by omega) (by omega) h') n.toNat 0 m (by omega) (by omega) h)
  simp only [swarfref29_Depends.l3]
  rw [if_pos (by omega)]
def Tab (n : Int) (R : Int → Int → Prop) (m : List (List Bool)) : Prop := Sq n m ∧ ∀ a b, 0 ≤ a → 0 ≤ b → (mt m a b = true ↔ Tc R a b)
theorem dep_l2 {n : Int} {l : List S47} (hn : 0 ≤ n ∧ n ≤ 200) (hin : Inn (Rl l) n) (d : Nat) : ∀ (k : Int) (m : List (List Bool)), 0 ≤ k → k + d = n → Inv2 n l k m → EvP (fun f => swarfref29_Depends.l2 f n m k) (Tab n (Rl l)) := by
 induction d with
 | zero =>
  intro k m k0 hk h
  refine EvP.stop m (fun f => ?_) ⟨h.1, fun a b a0 b0 => ⟨h.2.1 a b a0 b0, fun ht => h.2.2 a b ?_⟩⟩
  ·simp only [swarfref29_Depends.l2]
   rw [if_neg (by omega)]
  ·have : k = n := by omega
   rw [this]
   exact Pk.of_tc hin ht
 | succ d ih =>
  intro k m k0 hk h
  refine EvP.step (fun f => ?_) (dep_l3 hn hin k k0 (by omega) _ (fun m' h' => ih (k + 1) m' (by omega) (by omega) h') n.toNat 0 m (by omega) (by omega) ⟨h, fun c e hlt hp => ?_⟩)
  ·simp only [swarfref29_Depends.l2]
   rw [if_pos (by omega)]
  ·have := hp.tc.inn hin
   omega
theorem dep_l1 {n : Int} {l : List S47} (hn : 0 ≤ n ∧ n ≤ 200) (hl : l.length ≤ 2000) (hok : ∀ p ∈ l, okp n p = true) (d : Nat) : ∀ (j : Int) (m : List (List Bool)), 0 ≤ j → j + d = l.length → Sq n m → (∀ a b, 0 ≤ a → 0 ≤ b → (mt m a b = true ↔ (⟨a, b⟩ : S47) ∈ l.take j.toNat)) → EvP (fun f => swarfref29_Depends.l1 f n l m j) (Tab n (Rl l)) := by
 induction d with
 | zero =>
  intro j m j0 hj hs h
  have hin := rl_inn hok
  rw [show l.take j.toNat = l from List.take_of_length_le (by omega)] at h
  refine EvP.step (fun f => ?_) (dep_l2 hn hin n.toNat 0 m (by omega) (by omega) ⟨hs, fun a b a0 b0 hab => .one ((h a b a0 b0).1 hab), fun a b hab => ?_⟩)
  ·simp only [swarfref29_Depends.l1]
   rw [if_neg (by omega)]
  ·have hr := hab.tc.inn hin
   exact (h a b hr.1.1 hr.2.1).2 (Pk.zero hin hab)
 | succ d ih =>
  intro j m j0 hj hs h
  have hw := wrap_succ j j0 (by omega)
  have hmem : rd_T47 l j ∈ l := by
   have := drop_T47 l j j0 (by omega)
   exact List.mem_of_mem_drop (by rw [this]; exact List.mem_cons_self)
  have ho := (okp_iff _ _).1 (hok _ hmem)
  have htake : l.take (j + 1).toNat = l.take j.toNat ++ [rd_T47 l j] := by
   rw [show (j + 1).toNat = j.toNat + 1 by omega, List.take_succ_eq_append_getElem (by omega)]
   congr 2
   unfold rd_T47
   rw [List.getD_eq_getElem?_getD, List.getElem?_eq_getElem (by omega)]
   rfl
  generalize hp : rd_T47 l j = p at hmem ho htake
  have lm := hs.1
  have lp := hs.2 p.f0 ho.2.1.1 ho.2.1.2
  refine EvP.step (fun f => ?_) (ih (j + 1) (st m p.f0 p.f1 true) (by omega) (by omega) (hs.st ho.2.1.1 ho.2.1.2 true) (fun a b a0 b0 => ?_))
  ·simp only [swarfref29_Depends.l1]
   rw [hp, if_pos (by omega), if_pos j0, if_pos ho.2.1.1, if_pos (by omega), if_pos ho.2.2.1, if_pos (by omega), hw]
   rfl
  ·rw [mt_st hs ho.2.1.1 ho.2.1.2 ho.2.2.1 ho.2.2.2 true a0 b0, htake, List.mem_append, List.mem_singleton, ← h a b a0 b0]
   have e : (⟨a, b⟩ : S47) = p ↔ a = p.f0 ∧ b = p.f1 := S47.eta _ _
   rw [e]
   split
   ·rename_i hc; simp [hc]
   ·rename_i hc; simp [hc]
theorem dep_l0 {n : Int} {l : List S47} (hn : 0 ≤ n ∧ n ≤ 200) (hl : l.length ≤ 2000) (hok : ∀ p ∈ l, okp n p = true) (d : Nat) : ∀ (j : Int) (m : List (List Bool)), 0 ≤ j → j + d = n → (m.length : Int) = n → (∀ a, 0 ≤ a → a < j → rd_L7 m a = List.replicate n.toNat false) → EvP (fun f => swarfref29_Depends.l0 f n l m j) (Tab n (Rl l)) := by
 induction d with
 | zero =>
  intro j m j0 hj hm h
  refine EvP.step (fun f => ?_) (dep_l1 hn hl hok l.length 0 m (by omega) (by omega) ⟨hm, fun a a0 a1 => ?_⟩ (fun a b a0 b0 => ?_))
  ·simp only [swarfref29_Depends.l0]
   rw [if_neg (by omega)]
  ·rw [h a a0 (by omega), List.length_replicate]; omega
  ·have : mt m a b = false := by
    unfold mt
    by_cases ha : a < n
    ·rw [h a a0 (by omega)]
     unfold rdOf
     rw [List.getD_eq_getElem?_getD, List.getElem?_replicate]
     split <;> rfl
    ·have : rd_L7 m a = [] := by
      unfold rd_L7
      rw [List.getD_eq_getElem?_getD, List.getElem?_eq_none (by omega)]; rfl
     rw [this]; unfold rdOf; simp
   simp [this]
 | succ d ih =>
  intro j m j0 hj hm h
  have hw := wrap_succ j j0 (by omega)
  refine EvP.step (fun f => ?_) (ih (j + 1) (m.set j.toNat (List.replicate n.toNat false)) (by omega) (by omega) (by rw [List.length_set]; exact hm) (fun a a0 a1 => ?_))
  ·simp only [swarfref29_Depends.l0]
   rw [if_pos (by omega), if_pos (by omega), if_pos (by omega), if_pos (by omega), if_pos (by omega), hw]
  ·by_cases e : a = j
   ·subst e
    exact rd_set_self _ _ _ a0 (by omega)
   ·rw [rd_set_ne _ _ _ _ j0 a0 e]
    exact h a a0 (by omega)
theorem depends_ev {n : Int} {l : List S47} (h : vErr n l = 0) : EvP (fun f => swarfref29_Depends.f f n l) (Tab n (Rl l)) := by
 obtain ⟨h1, h2, h3, h4⟩ := vErr_zero h
 unfold swarfref29_Depends.f
 simp only [if_pos h1, if_pos (show n.toNat ≤ 11728124029610 by omega)]
 exact dep_l0 ⟨h1, h2⟩ h3 h4 n.toNat 0 _ (by omega) (by omega) (by simp; omega) (fun a a0 a1 => by omega)
theorem cyclic_l0 {n : Int} {R : Int → Int → Prop} {m : List (List Bool)} (hn : 0 ≤ n ∧ n ≤ 200) (hin : Inn R n) (ht : Tab n R m) (d : Nat) : ∀ j : Int, 0 ≤ j → j + d = n → (∀ a, a < j → ¬ Tc R a a) → EvP (fun f => swarfref29_Cyclic.l0 f n m j) (fun r => r = true ↔ ¬ Acyc R) := by
 induction d with
 | zero =>
  intro j j0 hj h
  refine EvP.stop false (fun f => ?_) ⟨(fun h => by cases h), (fun hx => absurd (fun a ha => ?_) hx)⟩
  ·simp only [swarfref29_Cyclic.l0]
   rw [if_neg (by omega)]
  ·exact h a (by have := (ha.inn hin).1; omega) ha
 | succ d ih =>
  intro j j0 hj h
  have hw := wrap_succ j j0 (by omega)
  have lm := ht.1.1
  have lj := ht.1.2 j j0 (by omega)
  by_cases c : mt m j j = true
  ·refine EvP.stop true (fun f => ?_) ⟨fun _ hx => hx j ((ht.2 j j j0 j0).1 c), fun _ => rfl⟩
   simp only [swarfref29_Cyclic.l0]
   rw [if_pos (by omega), if_pos j0, if_pos (by omega), if_pos (by omega)]
   exact if_pos c
  ·refine EvP.step (fun f => ?_) (ih (j + 1) (by omega) (by omega) (fun a ha => ?_))
   ·simp only [swarfref29_Cyclic.l0]
    rw [if_pos (by omega), if_pos j0, if_pos (by omega), if_pos (by omega), hw]
    exact if_neg c
   ·by_cases e : a = j
    ·subst e
     exact fun hx => c ((ht.2 a a j0 j0).2 hx)
    ·exact h a (by omega)
theorem cyclic_ev {n : Int} {l : List S47} (h : vErr n l = 0) : EvP (fun f => swarfref29_Cyclic.f f n l) (fun r => r = true ↔ ¬ Acyc (Rl l)) := by
 obtain ⟨h1, h2, h3, h4⟩ := vErr_zero h
 unfold swarfref29_Cyclic.f
 exact EvP.bindP (depends_ev h) (fun m hm => cyclic_l0 ⟨h1, h2⟩ (rl_inn h4) hm n.toNat 0 (by omega) (by omega) (fun a ha hx => by have := (hx.inn (rl_inn h4)).1; omega))
end Go.Proofs.Ytbbkclcfmcjlgaa.B
