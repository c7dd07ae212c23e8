import Derived.Test.YtbbkclcfmcjlgaaT9M21
import Derived.Test.YtbbkclcfmcjlgaaT9Px35
import Derived.Test.YtbbkclcfmcjlgaaT9M23
import Derived.Test.YtbbkclcfmcjlgaaT9Px31
import Derived.Lib.LazyBuf
import Derived.WalkSpells
import Derived.Test.YtbbkclcfmcjlgaaT9M26
import Derived.Test.YtbbkclcfmcjlgaaT9M24


namespace Go.Proofs.Ytbbkclcfmcjlgaa.P
open Go.RowKit Go.Proofs.YtbbkclcfmcjlgaaW.PrintWords Go.Proofs.YtbbkclcfmcjlgaaW.PrintLast Go.Proofs.YtbbkclcfmcjlgaaW.PrintMore
attribute [local go_sem] max2_int min2_int max_two min_two max_three min_three max_four min_four
set_option linter.unusedVariables false
set_option linter.unusedSimpArgs false

def swarfref29_Cyclic.l0 : Nat → Int → List (List Bool) → Int → Option (Bool)
 | 0, _, _, _ => none
 | k + 1, x0, x5, x6 => if x6 < x0 then (if 0 ≤ x6 then (if x6 < (x5.length : Int) then (if x6 < ((rd_L7 x5 x6).length : Int) then (if rdOf false (rd_L7 x5 x6) x6 = true then (some true) else (swarfref29_Cyclic.l0 k x0 x5 (wrap64 (x6 + 1)))) else (none)) else (none)) else (none)) else (some false)
def swarfref29_Cyclic.f (k : Nat) (a0 : Int) (l1 : List (S47)) : Option (Bool) := (swarfref29_Depends.f k a0 l1).bind fun t307 => (swarfref29_Cyclic.l0 k a0 t307 0)
set_option maxHeartbeats 8000000 in
set_option maxRecDepth 100000 in
theorem swarfref29_Cyclic.calls (k : Nat) (a0 : Int) (A1 : Option Addr) (c1 : Nat) (l1 : List (S47)) (r : Bool) (w : World) (hr1 : Kd.C k47 w A1 l1.length l1) (hc1 : l1.length ≤ c1) (h : swarfref29_Cyclic.f k a0 l1 = some r) :
  Calls Try.prog 23 #[.int .i64 a0, .slice A1 l1.length c1] w fun e w' => e = .returned (.bool r) ∧ Below w.heap.size w w' := by
 have HR1 := aK hr1
 have HC1 := aK hc1
 clear hr1 hc1
 have HB := aK (Below.refl w.heap.size w)
 have H : ((swarfref29_Depends.f k a0 l1).bind fun t307 => (swarfref29_Cyclic.l0 k a0 t307 0)) = some r := h
 clear h
 replace H := oB_ H
 obtain ⟨t307, A30, H⟩ := H
 replace H : (swarfref29_Cyclic.l0 k a0 t307 0) = some r := H
 have A3 := aK A30
 clear A30
 have H' := aK H
 clear H
 go_enter Try.func23, Try.ntmps23
 go_wp2_with (first | ((with_reducible refine gate_callee (f := 44) rfl ?_); refine goesL_ (some 9) rfl rfl Try.func44 (by kernel_rfl) rfl #[.int .i64 a0, .slice A1 l1.length c1] rfl (by (try simp only [List.map_toArray, List.map_cons, List.map_nil]); first | done | rfl | (simp only [List.length_drop, List.length_take]; rfl)) ?_; (with_reducible refine (swarfref29_Depends.calls k a0 _ _ l1 t307 _ ?side1 ?side2 A3.out).mono ?_); (case side1 => repeat (first | exact HR1.out | (with_reducible refine Kd.C_alloc ?_ _) | (with_reducible refine Kd.C_drewN ?_ _) | (with_reducible refine Kd.C_drew ?_))); (case side2 => exact HC1.out); rintro e w4 ⟨v308, rfl, ho0, hb⟩; refine ⟨_, rfl, ?_⟩; have n0_ := aK (Kd.S_lower ho0 (bZ_ (by repeat (first | (with_reducible first | exact HB.out | apply bA_ | apply bN_ | apply bD_) | exact HB.out)))); have n1_ := aK (bT_ (by repeat (first | (with_reducible first | exact HB.out | apply bA_ | apply bN_ | apply bD_) | exact HB.out)) hb); clear HB; have HO309 := n0_; have HB := n1_; clear n0_ n1_; (try clear hb); (try clear hb2); (try clear hk); (try clear hi); (try clear ho0)))
 go_loopg [6] k (fun kq v6 w' => ∃ (x6_1 : Int), v6 = .int .i64 x6_1 ∧ Aside0 (swarfref29_Cyclic.l0 kq a0 t307 x6_1 = some r) ∧ Aside0 (kq ≤ k) ∧ Aside0 (Kd.S (Kd.slice 4 Kd.bool) 52 w' w.heap.size (fun _ => True) v308 t307) ∧ Aside0 (Below w.heap.size w w'))
 case atStart => exact ⟨(0), (by first | rfl | (simp; done) | (simp [*]; done)), H', ⟨Nat.le_refl _⟩, ⟨by (with_reducible repeat (first | apply Kd.S_alloc | apply Kd.S_drewN | apply Kd.S_drew)); exact HO309.out⟩, ⟨by repeat (first | (with_reducible first | exact HB.out | apply bA_ | apply bN_ | apply bD_) | exact HB.out)⟩⟩
 case round =>
  clear H'; try clear c1; try clear c2; try clear p2; try clear c4
  obtain ⟨x6_1, rfl, HA, HK1, HO_5, HB⟩ := hrel
  cases gk with
  | zero => exact absurd HA.out (by simp [swarfref29_Cyclic.l0])
  | succ k1 =>
   have H := HA.out
   clear HA
   simp only [swarfref29_Cyclic.l0] at H
   by_cases c5 : x6_1 < a0
   ·rw [if_pos c5] at H
    have c5b0 : decide (x6_1 < a0) = true := decide_eq_true c5
    clear c5
    by_cases c6 : 0 ≤ x6_1
    ·rw [if_pos c6] at H
     have c6b0 : decide (0 ≤ x6_1) = true := decide_eq_true c6
     clear c6
     by_cases c7 : x6_1 < (t307.length : Int)
     ·rw [if_pos c7] at H
      have c7b0 : decide (x6_1 < (t307.length : Int)) = true := decide_eq_true c7
      clear c7
      by_cases c8 : x6_1 < ((rd_L7 t307 x6_1).length : Int)
      ·rw [if_pos c8] at H
       have c8b0 : decide (x6_1 < ((rd_L7 t307 x6_1).length : Int)) = true := decide_eq_true c8
       clear c8
       obtain ⟨bq9, hbq9⟩ : ∃ b_ : Bool, b_ = (rdOf false (rd_L7 t307 x6_1) x6_1) := ⟨_, rfl⟩
       replace H : (if bq9 = true then (some true) else (swarfref29_Cyclic.l0 k1 a0 t307 (wrap64 (x6_1 + 1)))) = some r := by rw [← hbq9] at H; exact H
       have Nbq9 := aK hbq9; clear hbq9
       by_cases c10 : bq9 = true
       ·subst c10
        have H1 : (some true) = some r := by rw [if_pos rfl] at H; exact H
        clear H; have H := H1; clear H1; obtain rfl := Option.some.inj H
        obtain ⟨Ao11, co11, eo11⟩ := Kd.S_slice HO_5.out
        subst eo11
        have p310 : 0 ≤ (x6_1 : Int) := of_decide_eq_true (by first | (with_reducible assumption) | assumption)
        have q310 : x6_1 < (t307.length : Int) := of_decide_eq_true (by first | (with_reducible assumption) | assumption)
        obtain ⟨ad310, A310_0, c310_0, e310, hx310_0, hl310_0, hi310_0⟩ := at_L7 (Kd.S_reads' HO_5.out).2.2 x6_1 p310 q310
        cases e310
        obtain ⟨ce310, hce310, hMe310, hcc310⟩ := Kd.S_get HO_5.out [] x6_1 p310 (by first | exact q310 | exact of_decide_eq_true (by first | (with_reducible assumption) | assumption) | (have e_ := (Kd.S_reads' HO_5.out).1; omega))
        obtain ⟨ve310_0, rfl, ge310_0⟩ := hMe310
        have hv310_0 := hcc310 0 _ rfl
        rw [Nat.add_zero, show ((Kd.slice 4 Kd.bool)).sz = 1 from rfl, Nat.mul_one] at hv310_0
        replace hv310_0 := Option.some.inj (hv310_0.symm.trans hx310_0)
        rw [hv310_0] at ge310_0
        have HL310_0 := aK (show Kd.R Kd.bool 4 _ _ _ _ (rd_L7 t307 x6_1) from ge310_0)
        clear hv310_0 ge310_0; clear hcc310 hce310; have HR310_0 := aK hi310_0; have HC310_0 := aK hl310_0; clear hi310_0 hl310_0; replace p310 := eq_true p310; replace q310 := eq_true q310
        have p311 : 0 ≤ (x6_1 : Int) := of_decide_eq_true (by first | (with_reducible assumption) | assumption)
        have q311 : x6_1 < ((rd_L7 t307 x6_1).length : Int) := of_decide_eq_true (by first | (with_reducible assumption) | assumption)
        obtain ⟨ad311, e311, hx311_0⟩ := Kd.at_bool (by repeat (first | (with_reducible exact HR310_0.out) | (with_reducible refine Kd.C_alloc ?_ _) | (with_reducible refine Kd.C_drewN ?_ _) | (with_reducible refine Kd.C_drew ?_) | exact HR310_0.out)) x6_1 p311 q311
        (try rw [← Nbq9.out] at hx311_0)
        cases e311; replace p311 := eq_true p311; replace q311 := eq_true q311; go_wp2; go_ret
        exact ⟨by first | rfl | (simp [errW_none, errW_some] <;> rfl) | (simp [*, errW_none, errW_some] <;> rfl), by repeat (first | (with_reducible first | exact HB.out | apply bA_ | apply bN_ | apply bD_) | exact HB.out)⟩
       ·replace c10 := Bool.eq_false_iff.mpr c10
        subst c10
        have H1 : (swarfref29_Cyclic.l0 k1 a0 t307 (wrap64 (x6_1 + 1))) = some r := by rw [if_neg (show ¬ (false = true) by decide)] at H; exact H
        clear H; have H := H1; clear H1; have H' := aK H; clear H
        obtain ⟨Ao12, co12, eo12⟩ := Kd.S_slice HO_5.out
        subst eo12
        have p310 : 0 ≤ (x6_1 : Int) := of_decide_eq_true (by first | (with_reducible assumption) | assumption)
        have q310 : x6_1 < (t307.length : Int) := of_decide_eq_true (by first | (with_reducible assumption) | assumption)
        obtain ⟨ad310, A310_0, c310_0, e310, hx310_0, hl310_0, hi310_0⟩ := at_L7 (Kd.S_reads' HO_5.out).2.2 x6_1 p310 q310
        cases e310
        obtain ⟨ce310, hce310, hMe310, hcc310⟩ := Kd.S_get HO_5.out [] x6_1 p310 (by first | exact q310 | exact of_decide_eq_true (by first | (with_reducible assumption) | assumption) | (have e_ := (Kd.S_reads' HO_5.out).1; omega))
        obtain ⟨ve310_0, rfl, ge310_0⟩ := hMe310
        have hv310_0 := hcc310 0 _ rfl
        rw [Nat.add_zero, show ((Kd.slice 4 Kd.bool)).sz = 1 from rfl, Nat.mul_one] at hv310_0
        replace hv310_0 := Option.some.inj (hv310_0.symm.trans hx310_0)
        rw [hv310_0] at ge310_0
        have HL310_0 := aK (show Kd.R Kd.bool 4 _ _ _ _ (rd_L7 t307 x6_1) from ge310_0)
        clear hv310_0 ge310_0; clear hcc310 hce310; have HR310_0 := aK hi310_0; have HC310_0 := aK hl310_0; clear hi310_0 hl310_0; replace p310 := eq_true p310; replace q310 := eq_true q310
        have p311 : 0 ≤ (x6_1 : Int) := of_decide_eq_true (by first | (with_reducible assumption) | assumption)
        have q311 : x6_1 < ((rd_L7 t307 x6_1).length : Int) := of_decide_eq_true (by first | (with_reducible assumption) | assumption)
        obtain ⟨ad311, e311, hx311_0⟩ := Kd.at_bool (by repeat (first | (with_reducible exact HR310_0.out) | (with_reducible refine Kd.C_alloc ?_ _) | (with_reducible refine Kd.C_drewN ?_ _) | (with_reducible refine Kd.C_drew ?_) | exact HR310_0.out)) x6_1 p311 q311
        (try rw [← Nbq9.out] at hx311_0)
        cases e311; replace p311 := eq_true p311; replace q311 := eq_true q311; go_wp2
        go_roundg k1
        case measure => have := HK1.out; omega
        case rel => exact ⟨(wrap64 (x6_1 + 1)), (by first | rfl | (simp; done) | (simp [*]; done)), H', ⟨by have := HK1.out; omega⟩, ⟨by (with_reducible repeat (first | apply Kd.S_alloc | apply Kd.S_drewN | apply Kd.S_drew)); exact HO_5.out⟩, ⟨by repeat (first | (with_reducible first | exact HB.out | apply bA_ | apply bN_ | apply bD_) | exact HB.out)⟩⟩
      ·rw [if_neg c8] at H
       exact absurd H (by simp)
     ·rw [if_neg c7] at H
      exact absurd H (by simp)
    ·rw [if_neg c6] at H
     exact absurd H (by simp)
   ·rw [if_neg c5] at H
    have c5b0 : decide (x6_1 < a0) = false := decide_eq_false c5
    clear c5; obtain rfl := Option.some.inj H; go_wp2; go_ret
    exact ⟨by first | rfl | (simp [errW_none, errW_some] <;> rfl) | (simp [*, errW_none, errW_some] <;> rfl), by repeat (first | (with_reducible first | exact HB.out | apply bA_ | apply bN_ | apply bD_) | exact HB.out)⟩

end Go.Proofs.Ytbbkclcfmcjlgaa.P


namespace Go.Proofs.Ytbbkclcfmcjlgaa.P
open Go.RowKit Go.Proofs.YtbbkclcfmcjlgaaW.PrintWords Go.Proofs.YtbbkclcfmcjlgaaW.PrintLast Go.Proofs.YtbbkclcfmcjlgaaW.PrintMore
attribute [local go_sem] max2_int min2_int max_two min_two max_three min_three max_four min_four
set_option linter.unusedVariables false
set_option linter.unusedSimpArgs false

mutual
def swarfref29_Changes.l0 : Nat → List Int → List Int → Int → Int → Option (Int)
 | 0, _, _, _, _ => none
 | k + 1, x0, x1, x5, x6 => if x6 < (x0.length : Int) then (if 0 ≤ x6 then (if (rd x0 x6) < 0 then (swarfref29_Changes.j1 k x0 x1 x5 x6 true) else (swarfref29_Changes.j1 k x0 x1 x5 x6 (decide ((rd x0 x6) ≥ (x1.length : Int))))) else (none)) else (some x5)
def swarfref29_Changes.j1 : Nat → List Int → List Int → Int → Int → Bool → Option (Int)
 | 0, _, _, _, _, _ => none
 | k + 1, x0, x1, x5, x6, x26 => if x26 = true then (some (-1)) else (if x6 > 0 then (if 0 ≤ x6 then (if x6 < (x0.length : Int) then (if 0 ≤ (rd x0 x6) then (if (rd x0 x6) < (x1.length : Int) then (if 0 ≤ (wrap64 (x6 - 1)) then (if (wrap64 (x6 - 1)) < (x0.length : Int) then (if 0 ≤ (rd x0 (wrap64 (x6 - 1))) then (if (rd x0 (wrap64 (x6 - 1))) < (x1.length : Int) then (if (rd x1 (rd x0 x6)) = (rd x1 (rd x0 (wrap64 (x6 - 1)))) then (swarfref29_Changes.l0 k x0 x1 x5 (wrap64 (x6 + 1))) else (swarfref29_Changes.l0 k x0 x1 (wrap64 (x5 + 1)) (wrap64 (x6 + 1)))) else (none)) else (none)) else (none)) else (none)) else (none)) else (none)) else (none)) else (none)) else (swarfref29_Changes.l0 k x0 x1 x5 (wrap64 (x6 + 1))))
end
def swarfref29_Changes.f (k : Nat) (l0 : List Int) (l1 : List Int) : Option (Int) := swarfref29_Changes.l0 k l0 l1 0 0
set_option maxHeartbeats 8000000 in
set_option maxRecDepth 100000 in
theorem swarfref29_Changes.calls (k : Nat) (A0 : Option Addr) (c0 : Nat) (l0 : List Int) (A1 : Option Addr) (c1 : Nat) (l1 : List Int) (r : Int) (w : World) (hr0 : Kd.C (Kd.int .i64) w A0 l0.length l0) (hc0 : l0.length ≤ c0) (hr1 : Kd.C (Kd.int .i64) w A1 l1.length l1) (hc1 : l1.length ≤ c1) (h : swarfref29_Changes.f k l0 l1 = some r) :
  Calls Try.prog 30 #[.slice A0 l0.length c0, .slice A1 l1.length c1] w fun e w' => e = .returned (.int .i64 r) ∧ Drawn0 w w' := by
 have HR0 := aK hr0
 have HC0 := aK hc0
 clear hr0 hc0
 have HR1 := aK hr1
 have HC1 := aK hc1
 clear hr1 hc1
 have H : (swarfref29_Changes.l0 k l0 l1 0 0) = some r := h
 clear h
 have H' := aK H
 clear H
 go_enter Try.func30, Try.ntmps30
 go_wp2
 repeat (go_quiet (fail); try go_wp2)
 go_loopg [5, 6] k (fun kq v5 v6 w' => ∃ (x5_1 : Int) (x6_1 : Int), v5 = .int .i64 x5_1 ∧ v6 = .int .i64 x6_1 ∧ Aside0 (swarfref29_Changes.l0 kq l0 l1 x5_1 x6_1 = some r) ∧ Aside0 (kq ≤ k) ∧ Drawn0 w w')
 case atStart => exact ⟨(0), (0), (by first | rfl | (simp; done) | (simp [*]; done)), (by first | rfl | (simp; done) | (simp [*]; done)), H', ⟨Nat.le_refl _⟩, by repeat (first | exact Drawn0.refl _ | apply Drawn0.step)⟩
 case round =>
  clear H'; try clear c1; try clear p2
  obtain ⟨x5_1, x6_1, rfl, rfl, HA, HK1, ⟨m1, rfl⟩⟩ := hrel
  cases gk with
  | zero => exact absurd HA.out (by simp [swarfref29_Changes.l0])
  | succ k1 =>
   have H := HA.out
   clear HA
   simp only [swarfref29_Changes.l0] at H
   by_cases c3 : x6_1 < (l0.length : Int)
   ·rw [if_pos c3] at H
    have c3b0 : decide (x6_1 < (l0.length : Int)) = true := decide_eq_true c3
    clear c3; have HC4 := aK H; clear H
    go_upto_region 5 with (fail)
    repeat (go_quiet (fail); go_upto_region 5 with (fail))
    go_cut [26] (fun v26 wc => ∃ (kq : Nat) (x26_3 : Bool), v26 = .bool x26_3 ∧ Aside0 (swarfref29_Changes.j1 kq l0 l1 x5_1 x6_1 x26_3 = some r) ∧ Aside0 (kq ≤ k1) ∧ Drawn0 w wc)
    case first =>
     have H := HC4.out
     clear HC4
     by_cases c5 : 0 ≤ x6_1
     ·rw [if_pos c5] at H
      have c5b0 : decide (0 ≤ x6_1) = true := decide_eq_true c5
      clear c5
      (first | rw [c5b0] | (simp only [i64_w, i32_w]; rw [c5b0]) | skip)
      by_cases c6 : (rd l0 x6_1) < 0
      ·rw [if_pos c6] at H
       have c6b0 : decide ((rd l0 x6_1) < 0) = true := decide_eq_true c6
       clear c6; have H' := aK H; clear H
       have p349 : 0 ≤ (x6_1 : Int) := of_decide_eq_true (by first | (with_reducible assumption) | assumption)
       have q349 : x6_1 < (l0.length : Int) := of_decide_eq_true (by first | (with_reducible assumption) | assumption)
       obtain ⟨ad349, e349, hx349_0⟩ := Kd.at_int HR0.out x6_1 p349 q349
       cases e349; replace p349 := eq_true p349; replace q349 := eq_true q349; go_wp2
       repeat (go_quiet (fail); try go_wp2)
       go_meet
       case rel => exact ⟨_, (true), (by first | rfl | (simp; done) | (simp [*]; done)), H', ⟨by have := HK1.out; first | omega | exact Nat.le_refl _⟩, by repeat (first | exact Drawn0.refl _ | apply Drawn0.step)⟩
      ·rw [if_neg c6] at H
       have c6b0 : decide ((rd l0 x6_1) < 0) = false := decide_eq_false c6
       clear c6; have H' := aK H; clear H
       have p349 : 0 ≤ (x6_1 : Int) := of_decide_eq_true (by first | (with_reducible assumption) | assumption)
       have q349 : x6_1 < (l0.length : Int) := of_decide_eq_true (by first | (with_reducible assumption) | assumption)
       obtain ⟨ad349, e349, hx349_0⟩ := Kd.at_int HR0.out x6_1 p349 q349
       cases e349; replace p349 := eq_true p349; replace q349 := eq_true q349
       have p350 : 0 ≤ (x6_1 : Int) := of_decide_eq_true (by first | (with_reducible assumption) | assumption)
       have q350 : x6_1 < (l0.length : Int) := of_decide_eq_true (by first | (with_reducible assumption) | assumption)
       obtain ⟨ad350, e350, hx350_0⟩ := Kd.at_int HR0.out x6_1 p350 q350
       obtain rfl : ad349 = ad350 := (by injection e350)
       replace p350 := eq_true p350; replace q350 := eq_true q350; go_wp2
       repeat (go_quiet (fail); try go_wp2)
       go_meet
       case rel => exact ⟨_, (decide ((rd l0 x6_1) ≥ (l1.length : Int))), (by first | rfl | (simp; done) | (simp [*]; done)), H', ⟨by have := HK1.out; first | omega | exact Nat.le_refl _⟩, by repeat (first | exact Drawn0.refl _ | apply Drawn0.step)⟩
     ·rw [if_neg c5] at H
      exact absurd H (by simp)
    case rest =>
     clear HC4; try clear c1; try clear p2; try clear c3; try clear c3b0; try clear p3; try clear q3; try clear hx3; try clear c5; try clear c5b0; try clear c6; try clear c6b0; try clear hx349_0; try clear hx350_0; try clear p2; try clear p349; try clear p350; try clear q349; try clear q350
     obtain ⟨kq, x26_3, rfl, HA, HJ3, ⟨mc3, rfl⟩⟩ := hcut
     cases kq with
     | zero => exact absurd HA.out (by simp [swarfref29_Changes.j1])
     | succ kj3 =>
      have H := HA.out
      clear HA
      simp only [swarfref29_Changes.j1] at H
      by_cases c7 : x26_3 = true
      ·subst c7
       have H1 : (some (-1)) = some r := by rw [if_pos rfl] at H; exact H
       clear H; have H := H1; clear H1; obtain rfl := Option.some.inj H; go_wp2
       repeat (go_quiet (fail); try go_wp2)
       go_ret
       exact ⟨by first | rfl | (simp; done) | (simp [*]; done), by repeat (first | exact Drawn0.refl _ | apply Drawn0.step)⟩
      ·replace c7 := Bool.eq_false_iff.mpr c7
       subst c7
       have H1 : (if x6_1 > 0 then (if 0 ≤ x6_1 then (if x6_1 < (l0.length : Int) then (if 0 ≤ (rd l0 x6_1) then (if (rd l0 x6_1) < (l1.length : Int) then (if 0 ≤ (wrap64 (x6_1 - 1)) then (if (wrap64 (x6_1 - 1)) < (l0.length : Int) then (if 0 ≤ (rd l0 (wrap64 (x6_1 - 1))) then (if (rd l0 (wrap64 (x6_1 - 1))) < (l1.length : Int) then (if (rd l1 (rd l0 x6_1)) = (rd l1 (rd l0 (wrap64 (x6_1 - 1)))) then (swarfref29_Changes.l0 kj3 l0 l1 x5_1 (wrap64 (x6_1 + 1))) else (swarfref29_Changes.l0 kj3 l0 l1 (wrap64 (x5_1 + 1)) (wrap64 (x6_1 + 1)))) else (none)) else (none)) else (none)) else (none)) else (none)) else (none)) else (none)) else (none)) else (swarfref29_Changes.l0 kj3 l0 l1 x5_1 (wrap64 (x6_1 + 1)))) = some r := by rw [if_neg (show ¬ (false = true) by decide)] at H; exact H
       clear H; have H := H1; clear H1
       by_cases c8 : x6_1 > 0
       ·rw [if_pos c8] at H
        have c8b0 : decide (0 < x6_1) = true := decide_eq_true c8
        clear c8
        by_cases c9 : 0 ≤ x6_1
        ·rw [if_pos c9] at H
         have c9b0 : decide (0 ≤ x6_1) = true := decide_eq_true c9
         clear c9
         by_cases c10 : x6_1 < (l0.length : Int)
         ·rw [if_pos c10] at H
          have c10b0 : decide (x6_1 < (l0.length : Int)) = true := decide_eq_true c10
          clear c10
          by_cases c11 : 0 ≤ (rd l0 x6_1)
          ·rw [if_pos c11] at H
           have c11b0 : decide (0 ≤ (rd l0 x6_1)) = true := decide_eq_true c11
           clear c11
           by_cases c12 : (rd l0 x6_1) < (l1.length : Int)
           ·rw [if_pos c12] at H
            have c12b0 : decide ((rd l0 x6_1) < (l1.length : Int)) = true := decide_eq_true c12
            clear c12
            obtain ⟨ji13, hji13⟩ : ∃ j_ : Int, (wrap64 (x6_1 - 1)) = j_ := ⟨_, rfl⟩
            replace H : (if 0 ≤ (ji13) then (if (ji13) < (l0.length : Int) then (if 0 ≤ (rd l0 (ji13)) then (if (rd l0 (ji13)) < (l1.length : Int) then (if (rd l1 (rd l0 x6_1)) = (rd l1 (rd l0 (ji13))) then (swarfref29_Changes.l0 kj3 l0 l1 x5_1 (wrap64 (x6_1 + 1))) else (swarfref29_Changes.l0 kj3 l0 l1 (wrap64 (x5_1 + 1)) (wrap64 (x6_1 + 1)))) else (none)) else (none)) else (none)) else (none)) = some r := by first | (rw [hji13] at H; exact H) | (simp only [hji13] at H ⊢; exact H)
            have hji13w : (IntKind.i64.wrap (x6_1 - 1)) = ji13 := (i64_w _).trans hji13
            by_cases c14 : 0 ≤ (ji13)
            ·rw [if_pos c14] at H
             have c14b0 : decide (0 ≤ (ji13)) = true := decide_eq_true c14
             clear c14
             by_cases c15 : (ji13) < (l0.length : Int)
             ·rw [if_pos c15] at H
              have c15b0 : decide ((ji13) < (l0.length : Int)) = true := decide_eq_true c15
              clear c15
              by_cases c16 : 0 ≤ (rd l0 (ji13))
              ·rw [if_pos c16] at H
               have c16b0 : decide (0 ≤ (rd l0 (ji13))) = true := decide_eq_true c16
               clear c16
               by_cases c17 : (rd l0 (ji13)) < (l1.length : Int)
               ·rw [if_pos c17] at H
                have c17b0 : decide ((rd l0 (ji13)) < (l1.length : Int)) = true := decide_eq_true c17
                clear c17
                by_cases c18 : (rd l1 (rd l0 x6_1)) = (rd l1 (rd l0 (ji13)))
                ·rw [if_pos c18] at H
                 have c18b0 : ((rd l1 (rd l0 x6_1)) == (rd l1 (rd l0 (ji13)))) = true := beq_iff_eq.mpr c18
                 have c18b1 : ((rd l1 (rd l0 x6_1)) != (rd l1 (rd l0 (ji13)))) = false := bne_eq_false_iff_eq.mpr c18
                 clear c18; have H' := aK H; clear H
                 have p351 : 0 ≤ (x6_1 : Int) := of_decide_eq_true (by first | (with_reducible assumption) | assumption)
                 have q351 : x6_1 < (l0.length : Int) := of_decide_eq_true (by first | (with_reducible assumption) | assumption)
                 obtain ⟨ad351, e351, hx351_0⟩ := Kd.at_int HR0.out x6_1 p351 q351
                 cases e351; replace p351 := eq_true p351; replace q351 := eq_true q351
                 have p352 : 0 ≤ ((rd l0 x6_1) : Int) := of_decide_eq_true (by first | (with_reducible assumption) | assumption)
                 have q352 : (rd l0 x6_1) < (l1.length : Int) := of_decide_eq_true (by first | (with_reducible assumption) | assumption)
                 obtain ⟨ad352, e352, hx352_0⟩ := Kd.at_int HR1.out (rd l0 x6_1) p352 q352
                 cases e352; replace p352 := eq_true p352; replace q352 := eq_true q352
                 have p353 : 0 ≤ ((ji13) : Int) := of_decide_eq_true (by first | (with_reducible assumption) | assumption)
                 have q353 : (ji13) < (l0.length : Int) := of_decide_eq_true (by first | (with_reducible assumption) | assumption)
                 obtain ⟨ad353, e353, hx353_0⟩ := Kd.at_int HR0.out (ji13) p353 q353
                 obtain rfl : ad351 = ad353 := (by injection e353)
                 replace p353 := eq_true p353; replace q353 := eq_true q353
                 have p354 : 0 ≤ ((rd l0 (ji13)) : Int) := of_decide_eq_true (by first | (with_reducible assumption) | assumption)
                 have q354 : (rd l0 (ji13)) < (l1.length : Int) := of_decide_eq_true (by first | (with_reducible assumption) | assumption)
                 obtain ⟨ad354, e354, hx354_0⟩ := Kd.at_int HR1.out (rd l0 (ji13)) p354 q354
                 obtain rfl : ad352 = ad354 := (by injection e354)
                 replace p354 := eq_true p354; replace q354 := eq_true q354; go_wp2
                 repeat (go_quiet (fail); try go_wp2)
                 go_roundg kj3
                 case measure => have := HK1.out; have := HJ3.out; omega
                 case rel => exact ⟨(x5_1), (wrap64 (x6_1 + 1)), (by first | rfl | (simp; done) | (simp [*]; done)), (by first | rfl | (simp; done) | (simp [*]; done)), H', ⟨by have := HK1.out; have := HJ3.out; omega⟩, by repeat (first | exact Drawn0.refl _ | apply Drawn0.step)⟩
                ·rw [if_neg c18] at H
                 have c18b0 : ((rd l1 (rd l0 x6_1)) == (rd l1 (rd l0 (ji13)))) = false := beq_eq_false_iff_ne.mpr c18
                 have c18b1 : ((rd l1 (rd l0 x6_1)) != (rd l1 (rd l0 (ji13)))) = true := bne_iff_ne.mpr c18
                 have H' := aK H; clear H
                 have p351 : 0 ≤ (x6_1 : Int) := of_decide_eq_true (by first | (with_reducible assumption) | assumption)
                 have q351 : x6_1 < (l0.length : Int) := of_decide_eq_true (by first | (with_reducible assumption) | assumption)
                 obtain ⟨ad351, e351, hx351_0⟩ := Kd.at_int HR0.out x6_1 p351 q351
                 cases e351; replace p351 := eq_true p351; replace q351 := eq_true q351
                 have p352 : 0 ≤ ((rd l0 x6_1) : Int) := of_decide_eq_true (by first | (with_reducible assumption) | assumption)
                 have q352 : (rd l0 x6_1) < (l1.length : Int) := of_decide_eq_true (by first | (with_reducible assumption) | assumption)
                 obtain ⟨ad352, e352, hx352_0⟩ := Kd.at_int HR1.out (rd l0 x6_1) p352 q352
                 cases e352; replace p352 := eq_true p352; replace q352 := eq_true q352
                 have p353 : 0 ≤ ((ji13) : Int) := of_decide_eq_true (by first | (with_reducible assumption) | assumption)
                 have q353 : (ji13) < (l0.length : Int) := of_decide_eq_true (by first | (with_reducible assumption) | assumption)
                 obtain ⟨ad353, e353, hx353_0⟩ := Kd.at_int HR0.out (ji13) p353 q353
                 obtain rfl : ad351 = ad353 := (by injection e353)
                 replace p353 := eq_true p353; replace q353 := eq_true q353
                 have p354 : 0 ≤ ((rd l0 (ji13)) : Int) := of_decide_eq_true (by first | (with_reducible assumption) | assumption)
                 have q354 : (rd l0 (ji13)) < (l1.length : Int) := of_decide_eq_true (by first | (with_reducible assumption) | assumption)
                 obtain ⟨ad354, e354, hx354_0⟩ := Kd.at_int HR1.out (rd l0 (ji13)) p354 q354
                 obtain rfl : ad352 = ad354 := (by injection e354)
                 replace p354 := eq_true p354; replace q354 := eq_true q354; go_wp2
                 repeat (go_quiet (fail); try go_wp2)
                 go_roundg kj3
                 case measure => have := HK1.out; have := HJ3.out; omega
                 case rel => exact ⟨(wrap64 (x5_1 + 1)), (wrap64 (x6_1 + 1)), (by first | rfl | (simp; done) | (simp [*]; done)), (by first | rfl | (simp; done) | (simp [*]; done)), H', ⟨by have := HK1.out; have := HJ3.out; omega⟩, by repeat (first | exact Drawn0.refl _ | apply Drawn0.step)⟩
               ·rw [if_neg c17] at H
                exact absurd H (by simp)
              ·rw [if_neg c16] at H
               exact absurd H (by simp)
             ·rw [if_neg c15] at H
              exact absurd H (by simp)
            ·rw [if_neg c14] at H
             exact absurd H (by simp)
           ·rw [if_neg c12] at H
            exact absurd H (by simp)
          ·rw [if_neg c11] at H
           exact absurd H (by simp)
         ·rw [if_neg c10] at H
          exact absurd H (by simp)
        ·rw [if_neg c9] at H
         exact absurd H (by simp)
       ·rw [if_neg c8] at H
        have c8b0 : decide (0 < x6_1) = false := decide_eq_false c8
        clear c8; have H' := aK H; clear H; go_wp2
        repeat (go_quiet (fail); try go_wp2)
        go_roundg kj3
        case measure => have := HK1.out; have := HJ3.out; omega
        case rel => exact ⟨(x5_1), (wrap64 (x6_1 + 1)), (by first | rfl | (simp; done) | (simp [*]; done)), (by first | rfl | (simp; done) | (simp [*]; done)), H', ⟨by have := HK1.out; have := HJ3.out; omega⟩, by repeat (first | exact Drawn0.refl _ | apply Drawn0.step)⟩
   ·rw [if_neg c3] at H
    have c3b0 : decide (x6_1 < (l0.length : Int)) = false := decide_eq_false c3
    clear c3; obtain rfl := Option.some.inj H; go_wp2
    repeat (go_quiet (fail); try go_wp2)
    go_ret
    exact ⟨by first | rfl | (simp; done) | (simp [*]; done), by repeat (first | exact Drawn0.refl _ | apply Drawn0.step)⟩

end Go.Proofs.Ytbbkclcfmcjlgaa.P



namespace Go.Proofs.Ytbbkclcfmcjlgaa.P
open Go.RowKit Go.Proofs.YtbbkclcfmcjlgaaW.PrintWords Go.Proofs.YtbbkclcfmcjlgaaW.PrintLast Go.Proofs.YtbbkclcfmcjlgaaW.PrintMore
attribute [local go_sem] max2_int min2_int max_two min_two max_three min_three max_four min_four
set_option linter.unusedVariables false
set_option linter.unusedSimpArgs false

def Nl (v : Value) (xs : List Int) : Prop := xs = [] → v = .slice none 0 0
mutual
def swarfref29_better.j0 : Nat → Int → List (S47) → List Int → List Int → List Int → Bool → Option (List Int)
 | 0, _, _, _, _, _, _ => none
 | k + 1, x0, x1, x2, x3, x4, x22 => if x22 = true then (some x4) else (if (x3.length : Int) = x0 then (if x3.length = 0 then none else ((some (([] : List Int) : List Int)).bind fun y240 => (if y240.length + x3.length < 17592186044416 then (some (y240 ++ x3)) else (none)))) else (swarfref29_better.l0 k x0 x1 x2 x3 x4 0))
def swarfref29_better.l0 : Nat → Int → List (S47) → List Int → List Int → List Int → Int → Option (List Int)
 | 0, _, _, _, _, _, _ => none
 | k + 1, x0, x1, x2, x3, x4, x11 => if x11 < x0 then ((swarfref29_in.f k x3 x11).bind fun t246 => (if t246 = true then (swarfref29_better.l0 k x0 x1 x2 x3 x4 (wrap64 (x11 + 1))) else ((swarfref29_ready.f k x1 x3 x11).bind fun t247 => (if t247 = true then ((some (([] : List Int) : List Int)).bind fun y248 => (if y248.length + x3.length < 17592186044416 then ((some (y248 ++ x3 : List Int)).bind fun y251 => (if y251.length < 17592186044416 then ((swarfref29_better.f k x0 x1 x2 (y251 ++ [x11]) x4).bind fun t257 => (swarfref29_better.l0 k x0 x1 x2 x3 t257 (wrap64 (x11 + 1)))) else (none))) else (none))) else (swarfref29_better.l0 k x0 x1 x2 x3 x4 (wrap64 (x11 + 1))))))) else (some x4)
def swarfref29_better.f : Nat → Int → List (S47) → List Int → List Int → List Int → Option (List Int)
 | 0, _, _, _, _, _ => none
 | k + 1, a0, l1, l2, l3, l4 => if l4.length = 0 then (swarfref29_better.j0 k a0 l1 l2 l3 l4 false) else ((swarfref29_Changes.f k l3 l2).bind fun t238 => ((swarfref29_Changes.f k l4 l2).bind fun t239 => (swarfref29_better.j0 k a0 l1 l2 l3 l4 (decide (t238 ≥ t239)))))
end
set_option maxHeartbeats 8000000 in
set_option maxRecDepth 100000 in
theorem swarfref29_better.calls (k : Nat) : ∀ (a0 : Int) (A1 : Option Addr) (c1 : Nat) (l1 : List (S47)) (A2 : Option Addr) (c2 : Nat) (l2 : List Int) (A3 : Option Addr) (c3 : Nat) (l3 : List Int) (P4_ : Nat → Prop) (A4 : Option Addr) (c4 : Nat) (l4 : List Int) (r : List Int) (w : World) (hr1 : Kd.C k47 w A1 l1.length l1) (hc1 : l1.length ≤ c1) (hr2 : Kd.C (Kd.int .i64) w A2 l2.length l2) (hc2 : l2.length ≤ c2) (hr3 : Kd.C (Kd.int .i64) w A3 l3.length l3) (hc3 : l3.length ≤ c3) (hs4 : Kd.V (Kd.int .i64) 3 w w.heap.size (fun k_ => P4_ k_) (.slice A4 l4.length c4) l4) (hn4 : Nl (.slice A4 l4.length c4) l4) (h : swarfref29_better.f k a0 l1 l2 l3 l4 = some r),
  Calls Try.prog 50 #[.int .i64 a0, .slice A1 l1.length c1, .slice A2 l2.length c2, .slice A3 l3.length c3, .slice A4 l4.length c4] w fun e w' => ∃ v0_ : Value, e = .returned (v0_) ∧ Nl v0_ r ∧ Kd.V (Kd.int .i64) 3 w' w.heap.size (fun k_ => (P4_ k_ ∨ w.heap.size ≤ k_)) v0_ r ∧ Below w.heap.size w w' := by
 induction k using Nat.strongRecOn with
 | _ k ih =>
 intro a0 A1 c1 l1 A2 c2 l2 A3 c3 l3 P4_ A4 c4 l4 r w hr1 hc1 hr2 hc2 hr3 hc3 hs4 hn4 h
 cases k with
 | zero => exact absurd h (by simp [swarfref29_better.f])
 | succ k =>
 simp only [swarfref29_better.f] at h
 have HN4 := aK hn4
 clear hn4
 have HR1 := aK hr1
 have HC1 := aK hc1
 clear hr1 hc1
 have HR2 := aK hr2
 have HC2 := aK hc2
 clear hr2 hc2
 have HR3 := aK hr3
 have HC3 := aK hc3
 clear hr3 hc3
 have HO4 := aK (show Kd.V (Kd.int .i64) 3 w w.heap.size (fun k_ => (P4_ k_ ∨ w.heap.size ≤ k_)) (.slice A4 l4.length c4) l4 from Kd.V_mono hs4 (fun k_ hk => .inl hk))
 have HB := aK (Below.refl w.heap.size w)
 have H : (if l4.length = 0 then (swarfref29_better.j0 k a0 l1 l2 l3 l4 false) else ((swarfref29_Changes.f k l3 l2).bind fun t238 => ((swarfref29_Changes.f k l4 l2).bind fun t239 => (swarfref29_better.j0 k a0 l1 l2 l3 l4 (decide (t238 ≥ t239)))))) = some r := h
 clear h
 have HC6 := aK H
 clear H
 go_enter Try.func50, Try.ntmps50
 go_upto_region 1 with (fail)
 go_cut [22] (fun v22 wc => ∃ (kq : Nat) (x22_5 : Bool), v22 = .bool x22_5 ∧ Aside0 (swarfref29_better.j0 kq a0 l1 l2 l3 l4 x22_5 = some r) ∧ Aside0 (kq ≤ k) ∧ Aside0 (Kd.V (Kd.int .i64) 3 wc w.heap.size (fun k_ => (P4_ k_ ∨ w.heap.size ≤ k_)) (.slice A4 l4.length c4) l4) ∧ Aside0 (Below w.heap.size w wc))
 case first =>
  have H := HC6.out
  clear HC6
  by_cases c7 : l4.length = 0
  ·rw [if_pos c7] at H
   have ev4 := HN4.out (List.eq_nil_of_length_eq_zero c7)
   obtain ⟨rfl, rfl⟩ : A4 = none ∧ c4 = 0 := by simp only [Value.slice.injEq] at ev4; exact ⟨ev4.1, ev4.2.2⟩
   clear ev4
   have hq := fun (W : World) => run_neq_slice_nil (P := Try.prog) (w := W) 31 3 none l4.length 0 Try.underlying31
   have c7b0 : (l4.length == 0) = true := beq_iff_eq.mpr c7
   have c7b1 : (l4.length != 0) = false := bne_eq_false_iff_eq.mpr c7
   clear c7
   (first | rw [c7b0] | (simp only [i64_w, i32_w]; rw [c7b0]) | skip)
   have H' := aK H; clear H; go_wp2
   go_meet
   case rel => exact ⟨_, (false), (by first | rfl | (simp; done) | (simp [*]; done)), H', ⟨by first | omega | exact Nat.le_refl _⟩, ⟨by (with_reducible repeat (first | apply Kd.V_alloc | apply Kd.V_drewN | apply Kd.V_drew)); exact HO4.out⟩, ⟨by repeat (first | (with_reducible first | exact HB.out | apply bA_ | apply bN_ | apply bD_) | exact HB.out)⟩⟩
  ·rw [if_neg c7] at H
   obtain ⟨ad4, rfl, _⟩ := (Kd.V_reads' HO4.out).2.2.2.2 (Nat.pos_of_ne_zero c7)
   have hq := fun (W : World) => run_neq_slice_nil (P := Try.prog) (w := W) 31 3 (some ad4) l4.length c4 Try.underlying31
   have c7b0 : (l4.length == 0) = false := beq_eq_false_iff_ne.mpr c7
   have c7b1 : (l4.length != 0) = true := bne_iff_ne.mpr c7
   (first | rw [c7b0] | (simp only [i64_w, i32_w]; rw [c7b0]) | skip)
   replace H := oB_ H
   obtain ⟨t238, A80, H⟩ := H
   replace H : ((swarfref29_Changes.f k l4 l2).bind fun t239 => (swarfref29_better.j0 k a0 l1 l2 l3 l4 (decide (t238 ≥ t239)))) = some r := H
   have A8 := aK A80; clear A80; replace H := oB_ H
   obtain ⟨t239, A90, H⟩ := H
   replace H : (swarfref29_better.j0 k a0 l1 l2 l3 l4 (decide (t238 ≥ t239))) = some r := H
   have A9 := aK A90; clear A90; have H' := aK H; clear H
   go_wp2_with (first | (go_at_call 30; (with_reducible refine (swarfref29_Changes.calls k _ _ l3 _ _ l2 t238 _ ?side1 ?side2 ?side3 ?side4 A8.out).mono ?_); (case side1 => repeat (first | exact (Kd.C_below HR3.out HB.out) | (with_reducible refine Kd.C_alloc ?_ _) | (with_reducible refine Kd.C_drewN ?_ _) | (with_reducible refine Kd.C_drew ?_))); (case side2 => exact HC3.out); (case side3 => repeat (first | exact (Kd.C_below HR2.out HB.out) | (with_reducible refine Kd.C_alloc ?_ _) | (with_reducible refine Kd.C_drewN ?_ _) | (with_reducible refine Kd.C_drew ?_))); (case side4 => exact HC2.out); rintro e w' ⟨rfl, ⟨nd, rfl⟩⟩) | (go_at_call 30; (with_reducible refine (swarfref29_Changes.calls k _ _ l4 _ _ l2 t239 _ ?side1 ?side2 ?side3 ?side4 A9.out).mono ?_); (case side1 => repeat (first | exact (Kd.V_reads' HO4.out).2.2 | (with_reducible refine Kd.C_alloc ?_ _) | (with_reducible refine Kd.C_drewN ?_ _) | (with_reducible refine Kd.C_drew ?_))); (case side2 => exact (Kd.V_reads' HO4.out).2.1); (case side3 => repeat (first | exact (Kd.C_below HR2.out (by repeat (first | (with_reducible first | exact HB.out | apply bA_ | apply bN_ | apply bD_) | exact HB.out))) | (with_reducible refine Kd.C_alloc ?_ _) | (with_reducible refine Kd.C_drewN ?_ _) | (with_reducible refine Kd.C_drew ?_))); (case side4 => exact HC2.out); rintro e w' ⟨rfl, ⟨nd, rfl⟩⟩))
   go_meet
   case rel => exact ⟨_, (decide (t238 ≥ t239)), (by first | rfl | (simp; done) | (simp [*]; done)), H', ⟨by first | omega | exact Nat.le_refl _⟩, ⟨by (with_reducible repeat (first | apply Kd.V_alloc | apply Kd.V_drewN | apply Kd.V_drew)); exact HO4.out⟩, ⟨by repeat (first | (with_reducible first | exact HB.out | apply bA_ | apply bN_ | apply bD_) | exact HB.out)⟩⟩
 case rest =>
  clear HC6; try clear c1; try clear c2; try clear p2; try clear c3; try clear c4; try clear c5; try clear c7; try clear c7b0; try clear c7b1
  obtain ⟨kq, x22_5, rfl, HA, HJ5, HO_4, HB⟩ := hcut
  cases kq with
  | zero => exact absurd HA.out (by simp [swarfref29_better.j0])
  | succ kj5 =>
   have H := HA.out
   clear HA
   simp only [swarfref29_better.j0] at H
   by_cases c10 : x22_5 = true
   ·subst c10
    have H1 : (some l4) = some r := by rw [if_pos rfl] at H; exact H
    clear H; have H := H1; clear H1; obtain rfl := Option.some.inj H; go_wp2; go_ret
    exact ⟨_, by first | rfl | (simp [errW_none, errW_some] <;> rfl) | (simp [*, errW_none, errW_some] <;> rfl), HN4.out, by (with_reducible repeat (first | apply Kd.V_alloc | apply Kd.V_drewN | apply Kd.V_drew)); exact HO_4.out, by repeat (first | (with_reducible first | exact HB.out | apply bA_ | apply bN_ | apply bD_) | exact HB.out)⟩
   ·replace c10 := Bool.eq_false_iff.mpr c10
    subst c10
    have H1 : (if (l3.length : Int) = a0 then (if l3.length = 0 then none else ((some (([] : List Int) : List Int)).bind fun y240 => (if y240.length + l3.length < 17592186044416 then (some (y240 ++ l3)) else (none)))) else (swarfref29_better.l0 kj5 a0 l1 l2 l3 l4 0)) = some r := by rw [if_neg (show ¬ (false = true) by decide)] at H; exact H
    clear H; have H := H1; clear H1
    by_cases c11 : (l3.length : Int) = a0
    ·rw [if_pos c11] at H
     have c11n : ¬ l3.length = 0 := fun c_ => by rw [if_pos c_] at H; cases H
     rw [if_neg c11n] at H; have HL3 := aK c11n; clear c11n
     have c11b0 : ((l3.length : Int) == a0) = true := beq_iff_eq.mpr c11
     have c11b1 : ((l3.length : Int) != a0) = false := bne_eq_false_iff_eq.mpr c11
     clear c11
     obtain ⟨y240, hy240⟩ : ∃ y_ : List Int, y_ = (([] : List Int)) := ⟨_, rfl⟩
     replace H : (if y240.length + l3.length < 17592186044416 then (some (y240 ++ l3)) else (none)) = some r := by first | (rw [hy240]; with_reducible exact H) | (have H2_ := (Option.bind_some _ _).symm.trans H; rw [hy240]; with_reducible exact H2_) | (have H2_ := (Option.bind_some _ _).symm.trans H; with_reducible exact H2_) | with_reducible exact H | (rw [hy240]; exact H) | exact H
     have Ny240 := aK hy240; clear hy240
     by_cases c12 : y240.length + l3.length < 17592186044416
     ·rw [if_pos c12] at H; have LMc12 := aK c12; clear c12
      obtain ⟨y243, hy243⟩ : ∃ y_ : List Int, y_ = (y240 ++ l3) := ⟨_, rfl⟩
      replace H : (some y243) = some r := by first | (rw [hy243]; with_reducible exact H) | (have H2_ := (Option.bind_some _ _).symm.trans H; rw [hy243]; with_reducible exact H2_) | (have H2_ := (Option.bind_some _ _).symm.trans H; with_reducible exact H2_) | with_reducible exact H | (rw [hy243]; exact H) | exact H
      have Ny243 := aK hy243; clear hy243; obtain rfl := Option.some.inj H
      go_wp2_with (first | ((with_reducible refine gate_dst (N := 28) rfl ?_); refine Kd.R_lit (Kd.int .i64) _ 3 ?hg (N := 28) ?hd (xs := ([] : List Int)) (inner := []) (ok := fun _ => True) (okp := fun _ => True) ?hr ?hp (fun _ hk => hk) trivial (Below.refl _ _) (Nat.le_refl _) (by simp) ?_; (case hd => rfl); (case hg => rfl); (case hr => first | (go_simp; done) | (go_simp; rfl)); (case hp => exact (Reps.none _ _)); intro v241 w13 ho14 hb hg_ hnew_; clear hg_ hnew_; (first | rw [← Ny240.out] at ho14 | (simp only [Int.reduceToNat] at ho14; rw [← Ny240.out] at ho14)); have n0_ := aK (Kd.V_elder' (by (with_reducible repeat (first | apply Kd.V_alloc | apply Kd.V_drewN | apply Kd.V_drew)); exact HO_4.out) (Kd.R_base ho14) hb); have n1_ := aK (Kd.R_lower (Kd.R_newM (M := fun k_ => (w.heap.size ≤ k_)) ho14 (bZ_ (by repeat (first | (with_reducible first | exact HB.out | apply bA_ | apply bN_ | apply bD_) | exact HB.out))) (fun k_ h_ => h_)) (bZ_ (by repeat (first | (with_reducible first | exact HB.out | apply bA_ | apply bN_ | apply bD_) | exact HB.out)))); have n2_ := aK (bT_ (by repeat (first | (with_reducible first | exact HB.out | apply bA_ | apply bN_ | apply bD_) | exact HB.out)) hb); clear HO_4; clear HB; have HO_4 := n0_; have HO242 := n1_; have HB := n2_; clear n0_ n1_ n2_; clear hb ho14) | ((with_reducible refine gate_builtin (b := .append) (xs := #[.tmp 28, .tmp 29]) rfl ?_); at_builtin; refine Kd.R_append_rows (Kd.int .i64) (w0 := w) w.heap.size rfl (.tmp 28) (.tmp 29) 31 3 (.int .i64 0) 8 rfl Try.underlying31 info3 rfl (by decide) (by omega) v241 y240 l3 _ _ _ (fun k_ => (w.heap.size ≤ k_)) (fun _ => False) rfl rfl ?aO ?aR (fun _ _ h => h) (fun _ h => h.elim) ?aF ?aB ?aS ?aL ?_; (case aR => repeat (first | exact (Kd.C_below HR3.out HB.out) | (with_reducible refine Kd.C_alloc ?_ _) | (with_reducible refine Kd.C_drewN ?_ _) | (with_reducible refine Kd.C_drew ?_))); (case aB => exact (by repeat (first | (with_reducible first | exact HB.out | apply bA_ | apply bN_ | apply bD_) | exact HB.out))); (case aF => exact (fun k_ hk => (Nat.le_trans (bZ_ (by repeat (first | (with_reducible first | exact HB.out | apply bA_ | apply bN_ | apply bD_) | exact HB.out))) hk))); (case aO => exact (by (with_reducible repeat (first | apply Kd.R_alloc | apply Kd.R_drewN | apply Kd.R_drew)); exact Kd.R_mono HO242.out (fun _ hk => hk.1))); (case aS => exact (bZ_ (by repeat (first | (with_reducible first | exact HB.out | apply bA_ | apply bN_ | apply bD_) | exact HB.out)))); (case aL => have := LMc12.out; omega); intro v244 w15 ho hb hg hat; rw [← Ny243.out] at ho; have n0_ := aK (Kd.V_afterv (ok := (fun k_ => (P4_ k_ ∨ w.heap.size ≤ k_))) (by (with_reducible repeat (first | apply Kd.V_alloc | apply Kd.V_drewN | apply Kd.V_drew)); exact HO_4.out) hg hat); have n1_ := aK (hb); have n2_ := aK (ho); clear HO_4; clear HB; clear HO242; have HO_4 := n0_; have HB := n1_; have HO245 := n2_; clear n0_ n1_ n2_; clear ho hb hg hat))
      go_ret
      exact ⟨_, by first | rfl | (simp [errW_none, errW_some] <;> rfl) | (simp [*, errW_none, errW_some] <;> rfl), (fun e_ => absurd (congrArg List.length (Ny243.out.symm.trans e_)) (by have := HL3.out; simp; intro _ h_; exact absurd (congrArg List.length h_) this)), Kd.V_mono (Kd.R_V (by (with_reducible repeat (first | apply Kd.R_alloc | apply Kd.R_drewN | apply Kd.R_drew)); exact HO245.out)) (fun k_ hk => by first | exact ⟨(.inr (hk.1)), hk.2⟩ | exact (.inr (hk))), by repeat (first | (with_reducible first | exact HB.out | apply bA_ | apply bN_ | apply bD_) | exact HB.out)⟩
     ·rw [if_neg c12] at H
      exact absurd H (by simp)
    ·rw [if_neg c11] at H
     have c11b0 : ((l3.length : Int) == a0) = false := beq_eq_false_iff_ne.mpr c11
     have c11b1 : ((l3.length : Int) != a0) = true := bne_iff_ne.mpr c11
     have H' := aK H; clear H; go_wp2
     go_loopg [4, 11] kj5 (fun kq v4 v11 w' => ∃ (x4_2 : List Int) (x11_2 : Int), v11 = .int .i64 x11_2 ∧ Aside0 (swarfref29_better.l0 kq a0 l1 l2 l3 x4_2 x11_2 = some r) ∧ Aside0 (kq ≤ kj5) ∧ Aside0 (Kd.V (Kd.int .i64) 3 w' w.heap.size (fun k_ => (P4_ k_ ∨ w.heap.size ≤ k_)) v4 x4_2) ∧ Aside0 (Nl v4 x4_2) ∧ Aside0 (Below w.heap.size w w'))
     case atStart => exact ⟨(l4), (0), (by first | rfl | (simp; done) | (simp [*]; done)), H', ⟨Nat.le_refl _⟩, ⟨by (with_reducible repeat (first | apply Kd.V_alloc | apply Kd.V_drewN | apply Kd.V_drew)); exact HO_4.out⟩, HN4, ⟨by repeat (first | (with_reducible first | exact HB.out | apply bA_ | apply bN_ | apply bD_) | exact HB.out)⟩⟩
     case round =>
      clear H'; try clear c1; try clear c2; try clear p2; try clear c3; try clear c4; try clear c5; try clear c7; try clear c7b0; try clear c7b1; try clear c10; try clear c11; try clear c11b0; try clear c11b1; try clear c12; try clear p2
      obtain ⟨x4_2, x11_2, rfl, HA, HK2, HO_4, HN_4, HB⟩ := hrel
      cases gk with
      | zero => exact absurd HA.out (by simp [swarfref29_better.l0])
      | succ k2 =>
       have H := HA.out
       clear HA
       simp only [swarfref29_better.l0] at H
       by_cases c16 : x11_2 < a0
       ·rw [if_pos c16] at H
        have c16b0 : decide (x11_2 < a0) = true := decide_eq_true c16
        clear c16; replace H := oB_ H
        obtain ⟨t246, A170, H⟩ := H
        replace H : (if t246 = true then (swarfref29_better.l0 k2 a0 l1 l2 l3 x4_2 (wrap64 (x11_2 + 1))) else ((swarfref29_ready.f k2 l1 l3 x11_2).bind fun t247 => (if t247 = true then ((some (([] : List Int) : List Int)).bind fun y248 => (if y248.length + l3.length < 17592186044416 then ((some (y248 ++ l3 : List Int)).bind fun y251 => (if y251.length < 17592186044416 then ((swarfref29_better.f k2 a0 l1 l2 (y251 ++ [x11_2]) x4_2).bind fun t257 => (swarfref29_better.l0 k2 a0 l1 l2 l3 t257 (wrap64 (x11_2 + 1)))) else (none))) else (none))) else (swarfref29_better.l0 k2 a0 l1 l2 l3 x4_2 (wrap64 (x11_2 + 1)))))) = some r := H
        have A17 := aK A170; clear A170
        by_cases c18 : t246 = true
        ·subst c18
         have H1 : (swarfref29_better.l0 k2 a0 l1 l2 l3 x4_2 (wrap64 (x11_2 + 1))) = some r := by rw [if_pos rfl] at H; exact H
         clear H; have H := H1; clear H1; have H' := aK H; clear H
         go_wp2_with (first | ((with_reducible refine gate_callee (f := 40) rfl ?_); refine goesL_ (some 38) rfl rfl Try.func40 (by kernel_rfl) rfl #[.slice A3 l3.length c3, .int .i64 x11_2] rfl (by (try simp only [List.map_toArray, List.map_cons, List.map_nil]); first | done | rfl | (simp only [List.length_drop, List.length_take]; rfl)) ?_; (with_reducible refine (swarfref29_in.calls k2 _ _ l3 x11_2 true _ ?side1 ?side2 A17.out).mono ?_); (case side1 => repeat (first | exact (Kd.C_below HR3.out HB.out) | (with_reducible refine Kd.C_alloc ?_ _) | (with_reducible refine Kd.C_drewN ?_ _) | (with_reducible refine Kd.C_drew ?_))); (case side2 => exact HC3.out); rintro e w' ⟨rfl, ⟨nd, rfl⟩⟩; refine ⟨_, rfl, ?_⟩))
         go_roundg k2
         case measure => have := HJ5.out; have := HK2.out; omega
         case rel => exact ⟨(x4_2), (wrap64 (x11_2 + 1)), (by first | rfl | (simp; done) | (simp [*]; done)), H', ⟨by have := HJ5.out; have := HK2.out; omega⟩, ⟨by (with_reducible repeat (first | apply Kd.V_alloc | apply Kd.V_drewN | apply Kd.V_drew)); exact HO_4.out⟩, HN_4, ⟨by repeat (first | (with_reducible first | exact HB.out | apply bA_ | apply bN_ | apply bD_) | exact HB.out)⟩⟩
        ·replace c18 := Bool.eq_false_iff.mpr c18
         subst c18
         have H1 : ((swarfref29_ready.f k2 l1 l3 x11_2).bind fun t247 => (if t247 = true then ((some (([] : List Int) : List Int)).bind fun y248 => (if y248.length + l3.length < 17592186044416 then ((some (y248 ++ l3 : List Int)).bind fun y251 => (if y251.length < 17592186044416 then ((swarfref29_better.f k2 a0 l1 l2 (y251 ++ [x11_2]) x4_2).bind fun t257 => (swarfref29_better.l0 k2 a0 l1 l2 l3 t257 (wrap64 (x11_2 + 1)))) else (none))) else (none))) else (swarfref29_better.l0 k2 a0 l1 l2 l3 x4_2 (wrap64 (x11_2 + 1))))) = some r := by rw [if_neg (show ¬ (false = true) by decide)] at H; exact H
         clear H; have H := H1; clear H1; replace H := oB_ H
         obtain ⟨t247, A190, H⟩ := H
         replace H : (if t247 = true then ((some (([] : List Int) : List Int)).bind fun y248 => (if y248.length + l3.length < 17592186044416 then ((some (y248 ++ l3 : List Int)).bind fun y251 => (if y251.length < 17592186044416 then ((swarfref29_better.f k2 a0 l1 l2 (y251 ++ [x11_2]) x4_2).bind fun t257 => (swarfref29_better.l0 k2 a0 l1 l2 l3 t257 (wrap64 (x11_2 + 1)))) else (none))) else (none))) else (swarfref29_better.l0 k2 a0 l1 l2 l3 x4_2 (wrap64 (x11_2 + 1)))) = some r := H
         have A19 := aK A190; clear A190
         by_cases c20 : t247 = true
         ·subst c20
          have H1 : ((some (([] : List Int) : List Int)).bind fun y248 => (if y248.length + l3.length < 17592186044416 then ((some (y248 ++ l3 : List Int)).bind fun y251 => (if y251.length < 17592186044416 then ((swarfref29_better.f k2 a0 l1 l2 (y251 ++ [x11_2]) x4_2).bind fun t257 => (swarfref29_better.l0 k2 a0 l1 l2 l3 t257 (wrap64 (x11_2 + 1)))) else (none))) else (none))) = some r := by rw [if_pos rfl] at H; exact H
          clear H; have H := H1; clear H1
          obtain ⟨y248, hy248⟩ : ∃ y_ : List Int, y_ = (([] : List Int)) := ⟨_, rfl⟩
          replace H : (if y248.length + l3.length < 17592186044416 then ((some (y248 ++ l3 : List Int)).bind fun y251 => (if y251.length < 17592186044416 then ((swarfref29_better.f k2 a0 l1 l2 (y251 ++ [x11_2]) x4_2).bind fun t257 => (swarfref29_better.l0 k2 a0 l1 l2 l3 t257 (wrap64 (x11_2 + 1)))) else (none))) else (none)) = some r := by first | (rw [hy248]; with_reducible exact H) | (have H2_ := (Option.bind_some _ _).symm.trans H; rw [hy248]; with_reducible exact H2_) | (have H2_ := (Option.bind_some _ _).symm.trans H; with_reducible exact H2_) | with_reducible exact H | (rw [hy248]; exact H) | exact H
          have Ny248 := aK hy248; clear hy248
          by_cases c21 : y248.length + l3.length < 17592186044416
          ·rw [if_pos c21] at H; have LMc21 := aK c21; clear c21
           obtain ⟨y251, hy251⟩ : ∃ y_ : List Int, y_ = (y248 ++ l3) := ⟨_, rfl⟩
           replace H : (if y251.length < 17592186044416 then ((swarfref29_better.f k2 a0 l1 l2 (y251 ++ [x11_2]) x4_2).bind fun t257 => (swarfref29_better.l0 k2 a0 l1 l2 l3 t257 (wrap64 (x11_2 + 1)))) else (none)) = some r := by first | (rw [hy251]; with_reducible exact H) | (have H2_ := (Option.bind_some _ _).symm.trans H; rw [hy251]; with_reducible exact H2_) | (have H2_ := (Option.bind_some _ _).symm.trans H; with_reducible exact H2_) | with_reducible exact H | (rw [hy251]; exact H) | exact H
           have Ny251 := aK hy251; clear hy251
           by_cases c22 : y251.length < 17592186044416
           ·rw [if_pos c22] at H; have LMc22 := aK c22; clear c22
            obtain ⟨y254, hy254⟩ : ∃ y_ : List Int, y_ = (y251 ++ [x11_2]) := ⟨_, rfl⟩
            replace H : ((swarfref29_better.f k2 a0 l1 l2 y254 x4_2).bind fun t257 => (swarfref29_better.l0 k2 a0 l1 l2 l3 t257 (wrap64 (x11_2 + 1)))) = some r := by first | (rw [hy254]; with_reducible exact H) | (have H2_ := (Option.bind_some _ _).symm.trans H; rw [hy254]; with_reducible exact H2_) | (have H2_ := (Option.bind_some _ _).symm.trans H; with_reducible exact H2_) | with_reducible exact H | (rw [hy254]; exact H) | exact H
            have Ny254 := aK hy254; clear hy254; replace H := oB_ H
            obtain ⟨t257, A230, H⟩ := H
            replace H : (swarfref29_better.l0 k2 a0 l1 l2 l3 t257 (wrap64 (x11_2 + 1))) = some r := H
            have A23 := aK A230; clear A230; have H' := aK H; clear H
            go_wp2_with (first | ((with_reducible refine gate_callee (f := 40) rfl ?_); refine goesL_ (some 38) rfl rfl Try.func40 (by kernel_rfl) rfl #[.slice A3 l3.length c3, .int .i64 x11_2] rfl (by (try simp only [List.map_toArray, List.map_cons, List.map_nil]); first | done | rfl | (simp only [List.length_drop, List.length_take]; rfl)) ?_; (with_reducible refine (swarfref29_in.calls k2 _ _ l3 x11_2 false _ ?side1 ?side2 A17.out).mono ?_); (case side1 => repeat (first | exact (Kd.C_below HR3.out HB.out) | (with_reducible refine Kd.C_alloc ?_ _) | (with_reducible refine Kd.C_drewN ?_ _) | (with_reducible refine Kd.C_drew ?_))); (case side2 => exact HC3.out); rintro e w' ⟨rfl, ⟨nd, rfl⟩⟩; refine ⟨_, rfl, ?_⟩) | (go_at_call 41; (with_reducible refine (swarfref29_ready.calls k2 _ _ l1 _ _ l3 x11_2 true _ ?side1 ?side2 ?side3 ?side4 A19.out).mono ?_); (case side1 => repeat (first | exact (Kd.C_below HR1.out (by repeat (first | (with_reducible first | exact HB.out | apply bA_ | apply bN_ | apply bD_) | exact HB.out))) | (with_reducible refine Kd.C_alloc ?_ _) | (with_reducible refine Kd.C_drewN ?_ _) | (with_reducible refine Kd.C_drew ?_))); (case side2 => exact HC1.out); (case side3 => repeat (first | exact (Kd.C_below HR3.out (by repeat (first | (with_reducible first | exact HB.out | apply bA_ | apply bN_ | apply bD_) | exact HB.out))) | (with_reducible refine Kd.C_alloc ?_ _) | (with_reducible refine Kd.C_drewN ?_ _) | (with_reducible refine Kd.C_drew ?_))); (case side4 => exact HC3.out); rintro e w' ⟨rfl, ⟨nd, rfl⟩⟩) | ((with_reducible refine gate_dst (N := 49) rfl ?_); refine Kd.R_lit (Kd.int .i64) _ 3 ?hg (N := 49) ?hd (xs := ([] : List Int)) (inner := []) (ok := fun _ => True) (okp := fun _ => True) ?hr ?hp (fun _ hk => hk) trivial (Below.refl _ _) (Nat.le_refl _) (by simp) ?_; (case hd => rfl); (case hg => rfl); (case hr => first | (go_simp; done) | (go_simp; rfl)); (case hp => exact (Reps.none _ _)); intro v249 w24 ho25 hb hg_ hnew_; clear hg_ hnew_; (first | rw [← Ny248.out] at ho25 | (simp only [Int.reduceToNat] at ho25; rw [← Ny248.out] at ho25)); have n0_ := aK (Kd.V_elder' (by (with_reducible repeat (first | apply Kd.V_alloc | apply Kd.V_drewN | apply Kd.V_drew)); exact HO_4.out) (Kd.R_base ho25) hb); have n1_ := aK (Kd.R_lower (Kd.R_newM (M := fun k_ => (w.heap.size ≤ k_)) ho25 (bZ_ (by repeat (first | (with_reducible first | exact HB.out | apply bA_ | apply bN_ | apply bD_) | exact HB.out))) (fun k_ h_ => h_)) (bZ_ (by repeat (first | (with_reducible first | exact HB.out | apply bA_ | apply bN_ | apply bD_) | exact HB.out)))); have n2_ := aK (bT_ (by repeat (first | (with_reducible first | exact HB.out | apply bA_ | apply bN_ | apply bD_) | exact HB.out)) hb); clear HO_4; clear HB; have HO_4 := n0_; have HO250 := n1_; have HB := n2_; clear n0_ n1_ n2_; clear hb ho25) | ((with_reducible refine gate_builtin (b := .append) (xs := #[.tmp 49, .tmp 50]) rfl ?_); at_builtin; refine Kd.R_append_rows (Kd.int .i64) (w0 := w) w.heap.size rfl (.tmp 49) (.tmp 50) 31 3 (.int .i64 0) 8 rfl Try.underlying31 info3 rfl (by decide) (by omega) v249 y248 l3 _ _ _ (fun k_ => (w.heap.size ≤ k_)) (fun _ => False) rfl rfl ?aO ?aR (fun _ _ h => h) (fun _ h => h.elim) ?aF ?aB ?aS ?aL ?_; (case aR => repeat (first | exact (Kd.C_below HR3.out HB.out) | (with_reducible refine Kd.C_alloc ?_ _) | (with_reducible refine Kd.C_drewN ?_ _) | (with_reducible refine Kd.C_drew ?_))); (case aB => exact (by repeat (first | (with_reducible first | exact HB.out | apply bA_ | apply bN_ | apply bD_) | exact HB.out))); (case aF => exact (fun k_ hk => (Nat.le_trans (bZ_ (by repeat (first | (with_reducible first | exact HB.out | apply bA_ | apply bN_ | apply bD_) | exact HB.out))) hk))); (case aO => exact (by (with_reducible repeat (first | apply Kd.R_alloc | apply Kd.R_drewN | apply Kd.R_drew)); exact Kd.R_mono HO250.out (fun _ hk => hk.1))); (case aS => exact (bZ_ (by repeat (first | (with_reducible first | exact HB.out | apply bA_ | apply bN_ | apply bD_) | exact HB.out)))); (case aL => have := LMc21.out; omega); intro v252 w26 ho hb hg hat; rw [← Ny251.out] at ho; have n0_ := aK (Kd.V_afterv (ok := (fun k_ => (P4_ k_ ∨ w.heap.size ≤ k_))) (by (with_reducible repeat (first | apply Kd.V_alloc | apply Kd.V_drewN | apply Kd.V_drew)); exact HO_4.out) hg hat); have n1_ := aK (hb); have n2_ := aK (ho); clear HO_4; clear HB; clear HO250; have HO_4 := n0_; have HB := n1_; have HO253 := n2_; clear n0_ n1_ n2_; clear ho hb hg hat) | ((with_reducible refine gate_builtin (b := .append) (xs := #[.tmp 51, .tmp 53]) rfl ?_); at_builtin; refine Kd.R_append (Kd.int .i64) (w0 := w) w.heap.size rfl (.tmp 51) (.tmp 53) 31 3 (.int .i64 0) 8 rfl Try.underlying31 info3 rfl (by decide) (by omega) v252 y251 x11_2 [.int .i64 x11_2] (fun k_ => (w.heap.size ≤ k_)) (fun _ => False) rfl rfl ?aP (fun _ hk => hk.elim) ?aF ?aO ?aB ?aS ?aL ?_; (case aP => exact rfl); (case aB => exact (by repeat (first | (with_reducible first | exact HB.out | apply bA_ | apply bN_ | apply bD_) | exact HB.out))); (case aF => exact (fun k_ hk => (Nat.le_trans (bZ_ (by repeat (first | (with_reducible first | exact HB.out | apply bA_ | apply bN_ | apply bD_) | exact HB.out))) hk))); (case aO => exact (by (with_reducible repeat (first | apply Kd.R_alloc | apply Kd.R_drewN | apply Kd.R_drew)); exact HO253.out)); (case aS => exact (bZ_ (by repeat (first | (with_reducible first | exact HB.out | apply bA_ | apply bN_ | apply bD_) | exact HB.out)))); (case aL => have := LMc22.out; omega); intro v255 w27 ho hb hg hat; rw [← Ny254.out] at ho; have n0_ := aK (Kd.V_afterv (ok := (fun k_ => (P4_ k_ ∨ w.heap.size ≤ k_))) (by (with_reducible repeat (first | apply Kd.V_alloc | apply Kd.V_drewN | apply Kd.V_drew)); exact HO_4.out) hg hat); have n1_ := aK (hb); have n2_ := aK (ho); clear HO_4; clear HB; clear HO253; have HO_4 := n0_; have HB := n1_; have HO256 := n2_; clear n0_ n1_ n2_; clear ho hb hg hat; obtain ⟨Ao28, co28, eo28⟩ := Kd.R_slice HO256.out; subst eo28; obtain ⟨Ao29, co29, eo29⟩ := Kd.V_slice HO_4.out; subst eo29) | ((with_reducible refine gate_callee (f := 50) rfl ?_); refine goesL_ (some 56) rfl rfl Try.func50 (by kernel_rfl) rfl #[.int .i64 a0, .slice A1 l1.length c1, .slice A2 l2.length c2, .slice Ao28 y254.length co28, .slice Ao29 x4_2.length co29] rfl (by (try simp only [List.map_toArray, List.map_cons, List.map_nil]); first | done | rfl | (simp only [List.length_drop, List.length_take]; rfl)) ?_; (with_reducible refine (ih k2 (by have := HJ5.out; have := HK2.out; omega) a0 _ _ l1 _ _ l2 _ _ y254 (fun k_ => ((P4_ k_ ∨ w.heap.size ≤ k_) ∧ some k_ ≠ (.slice Ao28 y254.length co28 : Value).ownBlock)) _ _ x4_2 t257 _ ?side1 ?side2 ?side3 ?side4 ?side5 ?side6 ?side7 HN_4.out A23.out).mono ?_); (case side1 => repeat (first | exact (Kd.C_below HR1.out HB.out) | (with_reducible refine Kd.C_alloc ?_ _) | (with_reducible refine Kd.C_drewN ?_ _) | (with_reducible refine Kd.C_drew ?_))); (case side2 => exact HC1.out); (case side3 => repeat (first | exact (Kd.C_below HR2.out HB.out) | (with_reducible refine Kd.C_alloc ?_ _) | (with_reducible refine Kd.C_drewN ?_ _) | (with_reducible refine Kd.C_drew ?_))); (case side4 => exact HC2.out); (case side5 => repeat (first | exact (Kd.R_reads' HO256.out).2.2 | (with_reducible refine Kd.C_alloc ?_ _) | (with_reducible refine Kd.C_drewN ?_ _) | (with_reducible refine Kd.C_drew ?_))); (case side6 => exact (Kd.R_reads' HO256.out).2.1); (case side7 => exact HO_4.out); rintro e w30 ⟨v258, rfl, hnl0, ho0, hb⟩; refine ⟨_, rfl, ?_⟩; have HN259 := aK hnl0; clear hnl0; have n0_ := aK (Kd.V_below (by (with_reducible repeat (first | apply Kd.V_alloc | apply Kd.V_drewN | apply Kd.V_drew)); exact HO_4.out) hb); have n1_ := aK (Kd.R_below (by (with_reducible repeat (first | apply Kd.R_alloc | apply Kd.R_drewN | apply Kd.R_drew)); exact HO256.out) hb); have n2_ := aK (Kd.V_lower (Kd.V_mono (ok' := fun k_ => (P4_ k_ ∨ w.heap.size ≤ k_) ∧ some k_ ≠ (.slice Ao28 y254.length co28 : Value).ownBlock) ho0 (fun k_ hk_ => ⟨Or.elim hk_ (fun hs_ => hs_.1) (fun hn_ => (.inr (Nat.le_trans (bZ_ (by repeat (first | (with_reducible first | exact HB.out | apply bA_ | apply bN_ | apply bD_) | exact HB.out))) hn_))), Or.elim hk_ (fun hs_ => hs_.2) (fun hn_ => (Kd.fresh' (Kd.R_lt (by (with_reducible repeat (first | apply Kd.R_alloc | apply Kd.R_drewN | apply Kd.R_drew)); exact HO256.out)) k_ hn_))⟩)) (bZ_ (by repeat (first | (with_reducible first | exact HB.out | apply bA_ | apply bN_ | apply bD_) | exact HB.out)))); have n3_ := aK (bT_ (by repeat (first | (with_reducible first | exact HB.out | apply bA_ | apply bN_ | apply bD_) | exact HB.out)) hb); clear HO_4; clear HO256; clear HB; have HO_4 := n0_; have HO256 := n1_; have HO259 := n2_; have HB := n3_; clear n0_ n1_ n2_ n3_; (try clear hb); (try clear hb2); (try clear hk); (try clear hi); (try clear ho0)))
            go_roundg k2
            case measure => have := HJ5.out; have := HK2.out; omega
            case rel => exact ⟨(t257), (wrap64 (x11_2 + 1)), (by first | rfl | (simp; done) | (simp [*]; done)), H', ⟨by have := HJ5.out; have := HK2.out; omega⟩, ⟨by (with_reducible repeat (first | apply Kd.V_alloc | apply Kd.V_drewN | apply Kd.V_drew)); exact Kd.V_mono HO259.out (fun _ hk => hk.1)⟩, HN259, ⟨by repeat (first | (with_reducible first | exact HB.out | apply bA_ | apply bN_ | apply bD_) | exact HB.out)⟩⟩
           ·rw [if_neg c22] at H
            exact absurd H (by simp)
          ·rw [if_neg c21] at H
           exact absurd H (by simp)
         ·replace c20 := Bool.eq_false_iff.mpr c20
          subst c20
          have H1 : (swarfref29_better.l0 k2 a0 l1 l2 l3 x4_2 (wrap64 (x11_2 + 1))) = some r := by rw [if_neg (show ¬ (false = true) by decide)] at H; exact H
          clear H; have H := H1; clear H1; have H' := aK H; clear H
          go_wp2_with (first | ((with_reducible refine gate_callee (f := 40) rfl ?_); refine goesL_ (some 38) rfl rfl Try.func40 (by kernel_rfl) rfl #[.slice A3 l3.length c3, .int .i64 x11_2] rfl (by (try simp only [List.map_toArray, List.map_cons, List.map_nil]); first | done | rfl | (simp only [List.length_drop, List.length_take]; rfl)) ?_; (with_reducible refine (swarfref29_in.calls k2 _ _ l3 x11_2 false _ ?side1 ?side2 A17.out).mono ?_); (case side1 => repeat (first | exact (Kd.C_below HR3.out HB.out) | (with_reducible refine Kd.C_alloc ?_ _) | (with_reducible refine Kd.C_drewN ?_ _) | (with_reducible refine Kd.C_drew ?_))); (case side2 => exact HC3.out); rintro e w' ⟨rfl, ⟨nd, rfl⟩⟩; refine ⟨_, rfl, ?_⟩) | (go_at_call 41; (with_reducible refine (swarfref29_ready.calls k2 _ _ l1 _ _ l3 x11_2 false _ ?side1 ?side2 ?side3 ?side4 A19.out).mono ?_); (case side1 => repeat (first | exact (Kd.C_below HR1.out (by repeat (first | (with_reducible first | exact HB.out | apply bA_ | apply bN_ | apply bD_) | exact HB.out))) | (with_reducible refine Kd.C_alloc ?_ _) | (with_reducible refine Kd.C_drewN ?_ _) | (with_reducible refine Kd.C_drew ?_))); (case side2 => exact HC1.out); (case side3 => repeat (first | exact (Kd.C_below HR3.out (by repeat (first | (with_reducible first | exact HB.out | apply bA_ | apply bN_ | apply bD_) | exact HB.out))) | (with_reducible refine Kd.C_alloc ?_ _) | (with_reducible refine Kd.C_drewN ?_ _) | (with_reducible refine Kd.C_drew ?_))); (case side4 => exact HC3.out); rintro e w' ⟨rfl, ⟨nd, rfl⟩⟩))
          go_roundg k2
          case measure => have := HJ5.out; have := HK2.out; omega
          case rel => exact ⟨(x4_2), (wrap64 (x11_2 + 1)), (by first | rfl | (simp; done) | (simp [*]; done)), H', ⟨by have := HJ5.out; have := HK2.out; omega⟩, ⟨by (with_reducible repeat (first | apply Kd.V_alloc | apply Kd.V_drewN | apply Kd.V_drew)); exact HO_4.out⟩, HN_4, ⟨by repeat (first | (with_reducible first | exact HB.out | apply bA_ | apply bN_ | apply bD_) | exact HB.out)⟩⟩
       ·rw [if_neg c16] at H
        have c16b0 : decide (x11_2 < a0) = false := decide_eq_false c16
        clear c16; obtain rfl := Option.some.inj H; go_wp2; go_ret
        exact ⟨_, by first | rfl | (simp [errW_none, errW_some] <;> rfl) | (simp [*, errW_none, errW_some] <;> rfl), HN_4.out, by (with_reducible repeat (first | apply Kd.V_alloc | apply Kd.V_drewN | apply Kd.V_drew)); exact HO_4.out, by repeat (first | (with_reducible first | exact HB.out | apply bA_ | apply bN_ | apply bD_) | exact HB.out)⟩

end Go.Proofs.Ytbbkclcfmcjlgaa.P



namespace Go.Proofs.Ytbbkclcfmcjlgaa.P
open Go.RowKit Go.Proofs.YtbbkclcfmcjlgaaW.PrintWords Go.Proofs.YtbbkclcfmcjlgaaW.PrintLast Go.Proofs.YtbbkclcfmcjlgaaW.PrintMore
attribute [local go_sem] max2_int min2_int max_two min_two max_three min_three max_four min_four
set_option linter.unusedVariables false
set_option linter.unusedSimpArgs false

def swarfref29_Best.f (k : Nat) (a0 : Int) (l1 : List (S47)) (l2 : List Int) : Option (List Int × Int × Int) := (swarfref29_Valid.f k a0 l1).bind fun t260 => (if t260 = 0 then (if (l2.length : Int) = a0 then (if a0 > 16 then (some (([] : List Int), 0, 3)) else ((swarfref29_Cyclic.f k a0 l1).bind fun t261 => (if t261 = true then (some (([] : List Int), 0, 12)) else (if a0 = 0 then (some (([] : List Int), 0, 0)) else ((swarfref29_better.f k a0 l1 l2 ([] : List Int) ([] : List Int)).bind fun t262 => ((swarfref29_Changes.f k t262 l2).bind fun t265 => (some (t262, t265, 0)))))))) else (some (([] : List Int), 0, 1))) else (some (([] : List Int), 0, t260)))
set_option maxHeartbeats 8000000 in
set_option maxRecDepth 100000 in
theorem swarfref29_Best.calls (k : Nat) (a0 : Int) (A1 : Option Addr) (c1 : Nat) (l1 : List (S47)) (A2 : Option Addr) (c2 : Nat) (l2 : List Int) (r1 : List Int) (r2 : Int) (r3 : Int) (w : World) (hr1 : Kd.C k47 w A1 l1.length l1) (hc1 : l1.length ≤ c1) (hr2 : Kd.C (Kd.int .i64) w A2 l2.length l2) (hc2 : l2.length ≤ c2) (h : swarfref29_Best.f k a0 l1 l2 = some (r1, r2, r3)) :
  Calls Try.prog 29 #[.int .i64 a0, .slice A1 l1.length c1, .slice A2 l2.length c2] w fun e w' => ∃ v0_ : Value, e = .returned (.tuple #[v0_, .int .i64 r2, .int .i64 r3]) ∧ Kd.V (Kd.int .i64) 3 w' w.heap.size (fun k_ => (w.heap.size ≤ k_)) v0_ r1 ∧ Below w.heap.size w w' := by
 have HR1 := aK hr1
 have HC1 := aK hc1
 clear hr1 hc1
 have HR2 := aK hr2
 have HC2 := aK hc2
 clear hr2 hc2
 have HB := aK (Below.refl w.heap.size w)
 have H : ((swarfref29_Valid.f k a0 l1).bind fun t260 => (if t260 = 0 then (if (l2.length : Int) = a0 then (if a0 > 16 then (some (([] : List Int), 0, 3)) else ((swarfref29_Cyclic.f k a0 l1).bind fun t261 => (if t261 = true then (some (([] : List Int), 0, 12)) else (if a0 = 0 then (some (([] : List Int), 0, 0)) else ((swarfref29_better.f k a0 l1 l2 ([] : List Int) ([] : List Int)).bind fun t262 => ((swarfref29_Changes.f k t262 l2).bind fun t265 => (some (t262, t265, 0)))))))) else (some (([] : List Int), 0, 1))) else (some (([] : List Int), 0, t260)))) = some (r1, r2, r3) := h
 clear h
 replace H := oB_ H
 obtain ⟨t260, A40, H⟩ := H
 replace H : (if t260 = 0 then (if (l2.length : Int) = a0 then (if a0 > 16 then (some (([] : List Int), 0, 3)) else ((swarfref29_Cyclic.f k a0 l1).bind fun t261 => (if t261 = true then (some (([] : List Int), 0, 12)) else (if a0 = 0 then (some (([] : List Int), 0, 0)) else ((swarfref29_better.f k a0 l1 l2 ([] : List Int) ([] : List Int)).bind fun t262 => ((swarfref29_Changes.f k t262 l2).bind fun t265 => (some (t262, t265, 0)))))))) else (some (([] : List Int), 0, 1))) else (some (([] : List Int), 0, t260))) = some (r1, r2, r3) := H
 have A4 := aK A40
 clear A40
 by_cases c5 : t260 = 0
 ·rw [if_pos c5] at H
  have c5b0 : (t260 == 0) = true := beq_iff_eq.mpr c5
  have c5b1 : (t260 != 0) = false := bne_eq_false_iff_eq.mpr c5
  clear c5
  by_cases c6 : (l2.length : Int) = a0
  ·rw [if_pos c6] at H
   have c6b0 : ((l2.length : Int) == a0) = true := beq_iff_eq.mpr c6
   have c6b1 : ((l2.length : Int) != a0) = false := bne_eq_false_iff_eq.mpr c6
   clear c6
   by_cases c7 : a0 > 16
   ·rw [if_pos c7] at H
    have c7b0 : decide (16 < a0) = true := decide_eq_true c7
    clear c7
    simp only [Option.some.injEq, Prod.mk.injEq] at H
    obtain ⟨rfl, rfl, rfl⟩ := H
    go_enter Try.func29, Try.ntmps29
    go_wp2_with (first | ((with_reducible refine gate_callee (f := 21) rfl ?_); refine goesL_ (some 13) rfl rfl Try.func21 (by kernel_rfl) rfl #[.int .i64 a0, .slice A1 l1.length c1] rfl (by (try simp only [List.map_toArray, List.map_cons, List.map_nil]); first | done | rfl | (simp only [List.length_drop, List.length_take]; rfl)) ?_; (with_reducible refine (swarfref29_Valid.calls k a0 _ _ l1 t260 _ ?side1 ?side2 A4.out).mono ?_); (case side1 => repeat (first | exact HR1.out | (with_reducible refine Kd.C_alloc ?_ _) | (with_reducible refine Kd.C_drewN ?_ _) | (with_reducible refine Kd.C_drew ?_))); (case side2 => exact HC1.out); rintro e w' ⟨rfl, ⟨nd, rfl⟩⟩; refine ⟨_, rfl, ?_⟩))
    go_ret3
    exact ⟨_, by first | rfl | (simp [errW_none, errW_some] <;> rfl) | (simp [*, errW_none, errW_some] <;> rfl), (by exact Kd.V_nil _ _ _ _ _), by repeat (first | (with_reducible first | exact HB.out | apply bA_ | apply bN_ | apply bD_) | exact HB.out)⟩
   ·rw [if_neg c7] at H
    have c7b0 : decide (16 < a0) = false := decide_eq_false c7
    clear c7; replace H := oB_ H
    obtain ⟨t261, A80, H⟩ := H
    replace H : (if t261 = true then (some (([] : List Int), 0, 12)) else (if a0 = 0 then (some (([] : List Int), 0, 0)) else ((swarfref29_better.f k a0 l1 l2 ([] : List Int) ([] : List Int)).bind fun t262 => ((swarfref29_Changes.f k t262 l2).bind fun t265 => (some (t262, t265, 0)))))) = some (r1, r2, r3) := H
    have A8 := aK A80; clear A80
    by_cases c9 : t261 = true
    ·subst c9
     have H1 : (some (([] : List Int), 0, 12)) = some (r1, r2, r3) := by rw [if_pos rfl] at H; exact H
     clear H; have H := H1; clear H1
     simp only [Option.some.injEq, Prod.mk.injEq] at H
     obtain ⟨rfl, rfl, rfl⟩ := H
     go_enter Try.func29, Try.ntmps29
     go_wp2_with (first | ((with_reducible refine gate_callee (f := 21) rfl ?_); refine goesL_ (some 13) rfl rfl Try.func21 (by kernel_rfl) rfl #[.int .i64 a0, .slice A1 l1.length c1] rfl (by (try simp only [List.map_toArray, List.map_cons, List.map_nil]); first | done | rfl | (simp only [List.length_drop, List.length_take]; rfl)) ?_; (with_reducible refine (swarfref29_Valid.calls k a0 _ _ l1 t260 _ ?side1 ?side2 A4.out).mono ?_); (case side1 => repeat (first | exact HR1.out | (with_reducible refine Kd.C_alloc ?_ _) | (with_reducible refine Kd.C_drewN ?_ _) | (with_reducible refine Kd.C_drew ?_))); (case side2 => exact HC1.out); rintro e w' ⟨rfl, ⟨nd, rfl⟩⟩; refine ⟨_, rfl, ?_⟩) | ((with_reducible refine gate_callee (f := 23) rfl ?_); refine goesL_ (some 25) rfl rfl Try.func23 (by kernel_rfl) rfl #[.int .i64 a0, .slice A1 l1.length c1] rfl (by (try simp only [List.map_toArray, List.map_cons, List.map_nil]); first | done | rfl | (simp only [List.length_drop, List.length_take]; rfl)) ?_; (with_reducible refine (swarfref29_Cyclic.calls k a0 _ _ l1 true _ ?side1 ?side2 A8.out).mono ?_); (case side1 => repeat (first | exact HR1.out | (with_reducible refine Kd.C_alloc ?_ _) | (with_reducible refine Kd.C_drewN ?_ _) | (with_reducible refine Kd.C_drew ?_))); (case side2 => exact HC1.out); rintro e w10 ⟨rfl, hb⟩; refine ⟨_, rfl, ?_⟩; have n0_ := aK (bT_ (by repeat (first | (with_reducible first | exact HB.out | apply bA_ | apply bN_ | apply bD_) | exact HB.out)) hb); clear HB; have HB := n0_; clear n0_; (try clear hb); (try clear hb2); (try clear hk); (try clear hi)))
     go_ret3
     exact ⟨_, by first | rfl | (simp [errW_none, errW_some] <;> rfl) | (simp [*, errW_none, errW_some] <;> rfl), (by exact Kd.V_nil _ _ _ _ _), by repeat (first | (with_reducible first | exact HB.out | apply bA_ | apply bN_ | apply bD_) | exact HB.out)⟩
    ·replace c9 := Bool.eq_false_iff.mpr c9
     subst c9
     have H1 : (if a0 = 0 then (some (([] : List Int), 0, 0)) else ((swarfref29_better.f k a0 l1 l2 ([] : List Int) ([] : List Int)).bind fun t262 => ((swarfref29_Changes.f k t262 l2).bind fun t265 => (some (t262, t265, 0))))) = some (r1, r2, r3) := by rw [if_neg (show ¬ (false = true) by decide)] at H; exact H
     clear H; have H := H1; clear H1
     by_cases c11 : a0 = 0
     ·rw [if_pos c11] at H
      have c11b0 : (a0 == 0) = true := beq_iff_eq.mpr c11
      have c11b1 : (a0 != 0) = false := bne_eq_false_iff_eq.mpr c11
      clear c11
      simp only [Option.some.injEq, Prod.mk.injEq] at H
      obtain ⟨rfl, rfl, rfl⟩ := H
      go_enter Try.func29, Try.ntmps29
      go_wp2_with (first | ((with_reducible refine gate_callee (f := 21) rfl ?_); refine goesL_ (some 13) rfl rfl Try.func21 (by kernel_rfl) rfl #[.int .i64 a0, .slice A1 l1.length c1] rfl (by (try simp only [List.map_toArray, List.map_cons, List.map_nil]); first | done | rfl | (simp only [List.length_drop, List.length_take]; rfl)) ?_; (with_reducible refine (swarfref29_Valid.calls k a0 _ _ l1 t260 _ ?side1 ?side2 A4.out).mono ?_); (case side1 => repeat (first | exact HR1.out | (with_reducible refine Kd.C_alloc ?_ _) | (with_reducible refine Kd.C_drewN ?_ _) | (with_reducible refine Kd.C_drew ?_))); (case side2 => exact HC1.out); rintro e w' ⟨rfl, ⟨nd, rfl⟩⟩; refine ⟨_, rfl, ?_⟩) | ((with_reducible refine gate_callee (f := 23) rfl ?_); refine goesL_ (some 25) rfl rfl Try.func23 (by kernel_rfl) rfl #[.int .i64 a0, .slice A1 l1.length c1] rfl (by (try simp only [List.map_toArray, List.map_cons, List.map_nil]); first | done | rfl | (simp only [List.length_drop, List.length_take]; rfl)) ?_; (with_reducible refine (swarfref29_Cyclic.calls k a0 _ _ l1 false _ ?side1 ?side2 A8.out).mono ?_); (case side1 => repeat (first | exact HR1.out | (with_reducible refine Kd.C_alloc ?_ _) | (with_reducible refine Kd.C_drewN ?_ _) | (with_reducible refine Kd.C_drew ?_))); (case side2 => exact HC1.out); rintro e w12 ⟨rfl, hb⟩; refine ⟨_, rfl, ?_⟩; have n0_ := aK (bT_ (by repeat (first | (with_reducible first | exact HB.out | apply bA_ | apply bN_ | apply bD_) | exact HB.out)) hb); clear HB; have HB := n0_; clear n0_; (try clear hb); (try clear hb2); (try clear hk); (try clear hi)))
      go_ret3
      exact ⟨_, by first | rfl | (simp [errW_none, errW_some] <;> rfl) | (simp [*, errW_none, errW_some] <;> rfl), (by exact Kd.V_nil _ _ _ _ _), by repeat (first | (with_reducible first | exact HB.out | apply bA_ | apply bN_ | apply bD_) | exact HB.out)⟩
     ·rw [if_neg c11] at H
      have c11b0 : (a0 == 0) = false := beq_eq_false_iff_ne.mpr c11
      have c11b1 : (a0 != 0) = true := bne_iff_ne.mpr c11
      replace H := oB_ H
      obtain ⟨t262, A130, H⟩ := H
      replace H : ((swarfref29_Changes.f k t262 l2).bind fun t265 => (some (t262, t265, 0))) = some (r1, r2, r3) := H
      have A13 := aK A130; clear A130; replace H := oB_ H
      obtain ⟨t265, A140, H⟩ := H
      replace H : (some (t262, t265, 0)) = some (r1, r2, r3) := H
      have A14 := aK A140; clear A140
      simp only [Option.some.injEq, Prod.mk.injEq] at H
      obtain ⟨rfl, rfl, rfl⟩ := H
      go_enter Try.func29, Try.ntmps29
      go_wp2_with (first | ((with_reducible refine gate_callee (f := 21) rfl ?_); refine goesL_ (some 13) rfl rfl Try.func21 (by kernel_rfl) rfl #[.int .i64 a0, .slice A1 l1.length c1] rfl (by (try simp only [List.map_toArray, List.map_cons, List.map_nil]); first | done | rfl | (simp only [List.length_drop, List.length_take]; rfl)) ?_; (with_reducible refine (swarfref29_Valid.calls k a0 _ _ l1 t260 _ ?side1 ?side2 A4.out).mono ?_); (case side1 => repeat (first | exact HR1.out | (with_reducible refine Kd.C_alloc ?_ _) | (with_reducible refine Kd.C_drewN ?_ _) | (with_reducible refine Kd.C_drew ?_))); (case side2 => exact HC1.out); rintro e w' ⟨rfl, ⟨nd, rfl⟩⟩; refine ⟨_, rfl, ?_⟩) | ((with_reducible refine gate_callee (f := 23) rfl ?_); refine goesL_ (some 25) rfl rfl Try.func23 (by kernel_rfl) rfl #[.int .i64 a0, .slice A1 l1.length c1] rfl (by (try simp only [List.map_toArray, List.map_cons, List.map_nil]); first | done | rfl | (simp only [List.length_drop, List.length_take]; rfl)) ?_; (with_reducible refine (swarfref29_Cyclic.calls k a0 _ _ l1 false _ ?side1 ?side2 A8.out).mono ?_); (case side1 => repeat (first | exact HR1.out | (with_reducible refine Kd.C_alloc ?_ _) | (with_reducible refine Kd.C_drewN ?_ _) | (with_reducible refine Kd.C_drew ?_))); (case side2 => exact HC1.out); rintro e w15 ⟨rfl, hb⟩; refine ⟨_, rfl, ?_⟩; have n0_ := aK (bT_ (by repeat (first | (with_reducible first | exact HB.out | apply bA_ | apply bN_ | apply bD_) | exact HB.out)) hb); clear HB; have HB := n0_; clear n0_; (try clear hb); (try clear hb2); (try clear hk); (try clear hi)) | ((with_reducible refine gate_callee (f := 50) rfl ?_); refine goesL_ (some 31) rfl rfl Try.func50 (by kernel_rfl) rfl #[.int .i64 a0, .slice A1 l1.length c1, .slice A2 l2.length c2, .slice none 0 0, .slice none 0 0] rfl (by (try simp only [List.map_toArray, List.map_cons, List.map_nil]); first | done | rfl | (simp only [List.length_drop, List.length_take]; rfl)) ?_; (refine (swarfref29_better.calls k a0 _ _ l1 _ _ l2 _ _ ([] : List Int) (fun k_ => False) _ _ ([] : List Int) t262 _ ?side1 ?side2 ?side3 ?side4 ?side5 ?side6 ?side7 (fun _ => rfl) A13.out).mono ?_); (case side1 => repeat (first | exact (Kd.C_below HR1.out HB.out) | (with_reducible refine Kd.C_alloc ?_ _) | (with_reducible refine Kd.C_drewN ?_ _) | (with_reducible refine Kd.C_drew ?_))); (case side2 => exact HC1.out); (case side3 => repeat (first | exact (Kd.C_below HR2.out HB.out) | (with_reducible refine Kd.C_alloc ?_ _) | (with_reducible refine Kd.C_drewN ?_ _) | (with_reducible refine Kd.C_drew ?_))); (case side4 => exact HC2.out); (case side5 => exact Kd.C_nil _ _); (case side6 => exact Nat.le_refl _); (case side7 => exact Kd.V_nil _ _ _ _ _); rintro e w16 ⟨v263, rfl, _, ho0, hb⟩; refine ⟨_, rfl, ?_⟩; have n0_ := aK (Kd.V_lower (Kd.V_mono (ok' := fun k_ => (w.heap.size ≤ k_)) ho0 (fun k_ hk_ => Or.elim hk_ (fun hs_ => (hs_).elim) (fun hn_ => (Nat.le_trans (bZ_ (by repeat (first | (with_reducible first | exact HB.out | apply bA_ | apply bN_ | apply bD_) | exact HB.out))) hn_)))) (bZ_ (by repeat (first | (with_reducible first | exact HB.out | apply bA_ | apply bN_ | apply bD_) | exact HB.out)))); have n1_ := aK (bT_ (by repeat (first | (with_reducible first | exact HB.out | apply bA_ | apply bN_ | apply bD_) | exact HB.out)) hb); clear HB; have HO264 := n0_; have HB := n1_; clear n0_ n1_; (try clear hb); (try clear hb2); (try clear hk); (try clear hi); (try clear ho0); obtain ⟨Ao17, co17, eo17⟩ := Kd.V_slice HO264.out; subst eo17) | ((with_reducible refine gate_callee (f := 30) rfl ?_); refine goesL_ (some 35) rfl rfl Try.func30 (by kernel_rfl) rfl #[.slice Ao17 t262.length co17, .slice A2 l2.length c2] rfl (by (try simp only [List.map_toArray, List.map_cons, List.map_nil]); first | done | rfl | (simp only [List.length_drop, List.length_take]; rfl)) ?_; (with_reducible refine (swarfref29_Changes.calls k _ _ t262 _ _ l2 t265 _ ?side1 ?side2 ?side3 ?side4 A14.out).mono ?_); (case side1 => repeat (first | exact (Kd.V_reads' HO264.out).2.2 | (with_reducible refine Kd.C_alloc ?_ _) | (with_reducible refine Kd.C_drewN ?_ _) | (with_reducible refine Kd.C_drew ?_))); (case side2 => exact (Kd.V_reads' HO264.out).2.1); (case side3 => repeat (first | exact (Kd.C_below HR2.out HB.out) | (with_reducible refine Kd.C_alloc ?_ _) | (with_reducible refine Kd.C_drewN ?_ _) | (with_reducible refine Kd.C_drew ?_))); (case side4 => exact HC2.out); rintro e w' ⟨rfl, ⟨nd, rfl⟩⟩; refine ⟨_, rfl, ?_⟩))
      go_ret3
      exact ⟨_, by first | rfl | (simp [errW_none, errW_some] <;> rfl) | (simp [*, errW_none, errW_some] <;> rfl), by (with_reducible repeat (first | apply Kd.V_alloc | apply Kd.V_drewN | apply Kd.V_drew)); exact HO264.out, by repeat (first | (with_reducible first | exact HB.out | apply bA_ | apply bN_ | apply bD_) | exact HB.out)⟩
  ·rw [if_neg c6] at H
   have c6b0 : ((l2.length : Int) == a0) = false := beq_eq_false_iff_ne.mpr c6
   have c6b1 : ((l2.length : Int) != a0) = true := bne_iff_ne.mpr c6
   simp only [Option.some.injEq, Prod.mk.injEq] at H
   obtain ⟨rfl, rfl, rfl⟩ := H
   go_enter Try.func29, Try.ntmps29
   go_wp2_with (first | ((with_reducible refine gate_callee (f := 21) rfl ?_); refine goesL_ (some 13) rfl rfl Try.func21 (by kernel_rfl) rfl #[.int .i64 a0, .slice A1 l1.length c1] rfl (by (try simp only [List.map_toArray, List.map_cons, List.map_nil]); first | done | rfl | (simp only [List.length_drop, List.length_take]; rfl)) ?_; (with_reducible refine (swarfref29_Valid.calls k a0 _ _ l1 t260 _ ?side1 ?side2 A4.out).mono ?_); (case side1 => repeat (first | exact HR1.out | (with_reducible refine Kd.C_alloc ?_ _) | (with_reducible refine Kd.C_drewN ?_ _) | (with_reducible refine Kd.C_drew ?_))); (case side2 => exact HC1.out); rintro e w' ⟨rfl, ⟨nd, rfl⟩⟩; refine ⟨_, rfl, ?_⟩))
   go_ret3
   exact ⟨_, by first | rfl | (simp [errW_none, errW_some] <;> rfl) | (simp [*, errW_none, errW_some] <;> rfl), (by exact Kd.V_nil _ _ _ _ _), by repeat (first | (with_reducible first | exact HB.out | apply bA_ | apply bN_ | apply bD_) | exact HB.out)⟩
 ·rw [if_neg c5] at H
  have c5b0 : (t260 == 0) = false := beq_eq_false_iff_ne.mpr c5
  have c5b1 : (t260 != 0) = true := bne_iff_ne.mpr c5
  simp only [Option.some.injEq, Prod.mk.injEq] at H
  obtain ⟨rfl, rfl, rfl⟩ := H
  go_enter Try.func29, Try.ntmps29
  go_wp2_with (first | ((with_reducible refine gate_callee (f := 21) rfl ?_); refine goesL_ (some 13) rfl rfl Try.func21 (by kernel_rfl) rfl #[.int .i64 a0, .slice A1 l1.length c1] rfl (by (try simp only [List.map_toArray, List.map_cons, List.map_nil]); first | done | rfl | (simp only [List.length_drop, List.length_take]; rfl)) ?_; (with_reducible refine (swarfref29_Valid.calls k a0 _ _ l1 t260 _ ?side1 ?side2 A4.out).mono ?_); (case side1 => repeat (first | exact HR1.out | (with_reducible refine Kd.C_alloc ?_ _) | (with_reducible refine Kd.C_drewN ?_ _) | (with_reducible refine Kd.C_drew ?_))); (case side2 => exact HC1.out); rintro e w' ⟨rfl, ⟨nd, rfl⟩⟩; refine ⟨_, rfl, ?_⟩))
  go_ret3
  exact ⟨_, by first | rfl | (simp [errW_none, errW_some] <;> rfl) | (simp [*, errW_none, errW_some] <;> rfl), (by exact Kd.V_nil _ _ _ _ _), by repeat (first | (with_reducible first | exact HB.out | apply bA_ | apply bN_ | apply bD_) | exact HB.out)⟩

end Go.Proofs.Ytbbkclcfmcjlgaa.P



namespace Go.Proofs.Ytbbkclcfmcjlgaa.P
open Go.RowKit Go.Proofs.YtbbkclcfmcjlgaaW.PrintWords Go.Proofs.YtbbkclcfmcjlgaaW.PrintLast Go.Proofs.YtbbkclcfmcjlgaaW.PrintMore
attribute [local go_sem] max2_int min2_int max_two min_two max_three min_three max_four min_four
set_option linter.unusedVariables false
set_option linter.unusedSimpArgs false

def swarflaw29_PrecedenceBest.j0 : Nat → Int → List (S47) → List Int → Bool → Option (Bool)
 | 0, _, _, _, _ => none
 | k + 1, x0, x1, x2, x32 => if x32 = true then ((swarflaw29_awake.f k).bind fun t267 => (some t267)) else ((swarflaw29_cp.f x1).bind fun t268 => ((some (([] : List Int) : List Int)).bind fun y271 => (if y271.length + x2.length < 17592186044416 then ((precedence_Best.f k x0 t268 (y271 ++ x2)).bind fun bt277 => ((swarfref29_Best.f k x0 x1 x2).bind fun bt282 => (if bt277.2.2 = bt282.2.2 then (if bt277.2.1 = bt282.2.1 then ((swarfref29_Ints.f k bt277.1 bt282.1).bind fun t287 => (some t287)) else (some false)) else (some false)))) else (none))))
def swarflaw29_PrecedenceBest.f (k : Nat) (a0 : Int) (l1 : List (S47)) (l2 : List Int) : Option (Bool) := (swarflaw29_awake.f k).bind fun t266 => (if t266 = true then (if (l1.length : Int) > 60 then (swarflaw29_PrecedenceBest.j0 k a0 l1 l2 true) else (if (l2.length : Int) > 30 then (swarflaw29_PrecedenceBest.j0 k a0 l1 l2 true) else (if a0 > 7 then (swarflaw29_PrecedenceBest.j0 k a0 l1 l2 (decide (a0 ≤ 16))) else (swarflaw29_PrecedenceBest.j0 k a0 l1 l2 false)))) else (swarflaw29_PrecedenceBest.j0 k a0 l1 l2 true))
set_option maxHeartbeats 8000000 in
set_option maxRecDepth 100000 in
theorem swarflaw29_PrecedenceBest.calls (k : Nat) (a0 : Int) (A1 : Option Addr) (c1 : Nat) (l1 : List (S47)) (A2 : Option Addr) (c2 : Nat) (l2 : List Int) (r : Bool) (w : World) (hr1 : Kd.C k47 w A1 l1.length l1) (hc1 : l1.length ≤ c1) (hr2 : Kd.C (Kd.int .i64) w A2 l2.length l2) (hc2 : l2.length ≤ c2) (h : swarflaw29_PrecedenceBest.f k a0 l1 l2 = some r) (hr : r = true) :
  Calls Try.prog 8 #[.int .i64 a0, .slice A1 l1.length c1, .slice A2 l2.length c2] w fun e w' => e = .returned (.bool r) ∧ Below w.heap.size w w' := by
 have HRT := aK hr
 clear hr
 have HR1 := aK hr1
 have HC1 := aK hc1
 clear hr1 hc1
 have HR2 := aK hr2
 have HC2 := aK hc2
 clear hr2 hc2
 have HB := aK (Below.refl w.heap.size w)
 have H : ((swarflaw29_awake.f k).bind fun t266 => (if t266 = true then (if (l1.length : Int) > 60 then (swarflaw29_PrecedenceBest.j0 k a0 l1 l2 true) else (if (l2.length : Int) > 30 then (swarflaw29_PrecedenceBest.j0 k a0 l1 l2 true) else (if a0 > 7 then (swarflaw29_PrecedenceBest.j0 k a0 l1 l2 (decide (a0 ≤ 16))) else (swarflaw29_PrecedenceBest.j0 k a0 l1 l2 false)))) else (swarflaw29_PrecedenceBest.j0 k a0 l1 l2 true))) = some r := h
 clear h
 have HC4 := aK H
 clear H
 go_enter Try.func8, Try.ntmps8
 go_upto_region 1 with (fail)
 go_cut [32] (fun v32 wc => ∃ (kq : Nat) (x32_3 : Bool), v32 = .bool x32_3 ∧ Aside0 (swarflaw29_PrecedenceBest.j0 kq a0 l1 l2 x32_3 = some r) ∧ Aside0 (kq ≤ k) ∧ Aside0 (Below w.heap.size w wc))
 case first =>
  have H := HC4.out
  clear HC4; replace H := oB_ H
  obtain ⟨t266, A50, H⟩ := H
  replace H : (if t266 = true then (if (l1.length : Int) > 60 then (swarflaw29_PrecedenceBest.j0 k a0 l1 l2 true) else (if (l2.length : Int) > 30 then (swarflaw29_PrecedenceBest.j0 k a0 l1 l2 true) else (if a0 > 7 then (swarflaw29_PrecedenceBest.j0 k a0 l1 l2 (decide (a0 ≤ 16))) else (swarflaw29_PrecedenceBest.j0 k a0 l1 l2 false)))) else (swarflaw29_PrecedenceBest.j0 k a0 l1 l2 true)) = some r := H
  have A5 := aK A50; clear A50
  by_cases c6 : t266 = true
  ·subst c6
   have H1 : (if (l1.length : Int) > 60 then (swarflaw29_PrecedenceBest.j0 k a0 l1 l2 true) else (if (l2.length : Int) > 30 then (swarflaw29_PrecedenceBest.j0 k a0 l1 l2 true) else (if a0 > 7 then (swarflaw29_PrecedenceBest.j0 k a0 l1 l2 (decide (a0 ≤ 16))) else (swarflaw29_PrecedenceBest.j0 k a0 l1 l2 false)))) = some r := by rw [if_pos rfl] at H; exact H
   clear H; have H := H1; clear H1
   by_cases c7 : (l1.length : Int) > 60
   ·rw [if_pos c7] at H
    have c7b0 : decide (60 < (l1.length : Int)) = true := decide_eq_true c7
    have c7b1 : decide (60 < l1.length) = true := decide_eq_true (by omega)
    clear c7
    (first | rw [c7b0] | (simp only [i64_w, i32_w]; rw [c7b0]) | skip)
    have H' := aK H; clear H
    go_wp2_with (first | ((with_reducible refine gate_callee (f := 12) rfl ?_); refine goesL_ (some 13) rfl rfl Try.func12 (by kernel_rfl) rfl #[] rfl (by (try simp only [List.map_toArray, List.map_cons, List.map_nil]); first | done | rfl | (simp only [List.length_drop, List.length_take]; rfl)) ?_; (with_reducible refine (swarflaw29_awake.calls k  true _ A5.out).mono ?_); rintro e w8 ⟨rfl, hb⟩; refine ⟨_, rfl, ?_⟩; have n0_ := aK (bT_ (by repeat (first | (with_reducible first | exact HB.out | apply bA_ | apply bN_ | apply bD_) | exact HB.out)) hb); clear HB; have HB := n0_; clear n0_; (try clear hb); (try clear hb2); (try clear hk); (try clear hi)))
    go_meet
    case rel => exact ⟨_, (true), (by first | rfl | (simp; done) | (simp [*]; done)), H', ⟨by first | omega | exact Nat.le_refl _⟩, ⟨by repeat (first | (with_reducible first | exact HB.out | apply bA_ | apply bN_ | apply bD_) | exact HB.out)⟩⟩
   ·rw [if_neg c7] at H
    have c7b0 : decide (60 < (l1.length : Int)) = false := decide_eq_false c7
    have c7b1 : decide (60 < l1.length) = false := decide_eq_false (by omega)
    clear c7
    (first | rw [c7b0] | (simp only [i64_w, i32_w]; rw [c7b0]) | skip)
    by_cases c9 : (l2.length : Int) > 30
    ·rw [if_pos c9] at H
     have c9b0 : decide (30 < (l2.length : Int)) = true := decide_eq_true c9
     have c9b1 : decide (30 < l2.length) = true := decide_eq_true (by omega)
     clear c9; have H' := aK H; clear H
     go_wp2_with (first | ((with_reducible refine gate_callee (f := 12) rfl ?_); refine goesL_ (some 13) rfl rfl Try.func12 (by kernel_rfl) rfl #[] rfl (by (try simp only [List.map_toArray, List.map_cons, List.map_nil]); first | done | rfl | (simp only [List.length_drop, List.length_take]; rfl)) ?_; (with_reducible refine (swarflaw29_awake.calls k  true _ A5.out).mono ?_); rintro e w10 ⟨rfl, hb⟩; refine ⟨_, rfl, ?_⟩; have n0_ := aK (bT_ (by repeat (first | (with_reducible first | exact HB.out | apply bA_ | apply bN_ | apply bD_) | exact HB.out)) hb); clear HB; have HB := n0_; clear n0_; (try clear hb); (try clear hb2); (try clear hk); (try clear hi)))
     go_meet
     case rel => exact ⟨_, (true), (by first | rfl | (simp; done) | (simp [*]; done)), H', ⟨by first | omega | exact Nat.le_refl _⟩, ⟨by repeat (first | (with_reducible first | exact HB.out | apply bA_ | apply bN_ | apply bD_) | exact HB.out)⟩⟩
    ·rw [if_neg c9] at H
     have c9b0 : decide (30 < (l2.length : Int)) = false := decide_eq_false c9
     have c9b1 : decide (30 < l2.length) = false := decide_eq_false (by omega)
     clear c9
     by_cases c11 : a0 > 7
     ·rw [if_pos c11] at H
      have c11b0 : decide (7 < a0) = true := decide_eq_true c11
      clear c11; have H' := aK H; clear H
      go_wp2_with (first | ((with_reducible refine gate_callee (f := 12) rfl ?_); refine goesL_ (some 13) rfl rfl Try.func12 (by kernel_rfl) rfl #[] rfl (by (try simp only [List.map_toArray, List.map_cons, List.map_nil]); first | done | rfl | (simp only [List.length_drop, List.length_take]; rfl)) ?_; (with_reducible refine (swarflaw29_awake.calls k  true _ A5.out).mono ?_); rintro e w12 ⟨rfl, hb⟩; refine ⟨_, rfl, ?_⟩; have n0_ := aK (bT_ (by repeat (first | (with_reducible first | exact HB.out | apply bA_ | apply bN_ | apply bD_) | exact HB.out)) hb); clear HB; have HB := n0_; clear n0_; (try clear hb); (try clear hb2); (try clear hk); (try clear hi)))
      go_meet
      case rel => exact ⟨_, (decide (a0 ≤ 16)), (by first | rfl | (simp; done) | (simp [*]; done)), H', ⟨by first | omega | exact Nat.le_refl _⟩, ⟨by repeat (first | (with_reducible first | exact HB.out | apply bA_ | apply bN_ | apply bD_) | exact HB.out)⟩⟩
     ·rw [if_neg c11] at H
      have c11b0 : decide (7 < a0) = false := decide_eq_false c11
      clear c11; have H' := aK H; clear H
      go_wp2_with (first | ((with_reducible refine gate_callee (f := 12) rfl ?_); refine goesL_ (some 13) rfl rfl Try.func12 (by kernel_rfl) rfl #[] rfl (by (try simp only [List.map_toArray, List.map_cons, List.map_nil]); first | done | rfl | (simp only [List.length_drop, List.length_take]; rfl)) ?_; (with_reducible refine (swarflaw29_awake.calls k  true _ A5.out).mono ?_); rintro e w13 ⟨rfl, hb⟩; refine ⟨_, rfl, ?_⟩; have n0_ := aK (bT_ (by repeat (first | (with_reducible first | exact HB.out | apply bA_ | apply bN_ | apply bD_) | exact HB.out)) hb); clear HB; have HB := n0_; clear n0_; (try clear hb); (try clear hb2); (try clear hk); (try clear hi)))
      go_meet
      case rel => exact ⟨_, (false), (by first | rfl | (simp; done) | (simp [*]; done)), H', ⟨by first | omega | exact Nat.le_refl _⟩, ⟨by repeat (first | (with_reducible first | exact HB.out | apply bA_ | apply bN_ | apply bD_) | exact HB.out)⟩⟩
  ·replace c6 := Bool.eq_false_iff.mpr c6
   subst c6
   have H1 : (swarflaw29_PrecedenceBest.j0 k a0 l1 l2 true) = some r := by rw [if_neg (show ¬ (false = true) by decide)] at H; exact H
   clear H; have H := H1; clear H1; have H' := aK H; clear H
   go_wp2_with (first | ((with_reducible refine gate_callee (f := 12) rfl ?_); refine goesL_ (some 13) rfl rfl Try.func12 (by kernel_rfl) rfl #[] rfl (by (try simp only [List.map_toArray, List.map_cons, List.map_nil]); first | done | rfl | (simp only [List.length_drop, List.length_take]; rfl)) ?_; (with_reducible refine (swarflaw29_awake.calls k  false _ A5.out).mono ?_); rintro e w14 ⟨rfl, hb⟩; refine ⟨_, rfl, ?_⟩; have n0_ := aK (bT_ (by repeat (first | (with_reducible first | exact HB.out | apply bA_ | apply bN_ | apply bD_) | exact HB.out)) hb); clear HB; have HB := n0_; clear n0_; (try clear hb); (try clear hb2); (try clear hk); (try clear hi)))
   go_meet
   case rel => exact ⟨_, (true), (by first | rfl | (simp; done) | (simp [*]; done)), H', ⟨by first | omega | exact Nat.le_refl _⟩, ⟨by repeat (first | (with_reducible first | exact HB.out | apply bA_ | apply bN_ | apply bD_) | exact HB.out)⟩⟩
 case rest =>
  clear HC4; try clear c1; try clear c2; try clear p2; try clear c6; try clear c7; try clear c7b0; try clear c7b1; try clear c8; try clear c9; try clear c9b0; try clear c9b1; try clear c11; try clear c11b0; try clear c12
  obtain ⟨kq, x32_3, rfl, HA, HJ3, HB⟩ := hcut
  cases kq with
  | zero => exact absurd HA.out (by simp [swarflaw29_PrecedenceBest.j0])
  | succ kj3 =>
   have H := HA.out
   clear HA
   simp only [swarflaw29_PrecedenceBest.j0] at H
   by_cases c15 : x32_3 = true
   ·subst c15
    have H1 : ((swarflaw29_awake.f kj3).bind fun t267 => (some t267)) = some r := by rw [if_pos rfl] at H; exact H
    clear H; have H := H1; clear H1; replace H := oB_ H
    obtain ⟨t267, A160, H⟩ := H
    replace H : (some t267) = some r := H
    have A16 := aK A160; clear A160; obtain rfl := Option.some.inj H
    go_wp2_with (first | ((with_reducible refine gate_callee (f := 12) rfl ?_); refine goesL_ (some 33) rfl rfl Try.func12 (by kernel_rfl) rfl #[] rfl (by (try simp only [List.map_toArray, List.map_cons, List.map_nil]); first | done | rfl | (simp only [List.length_drop, List.length_take]; rfl)) ?_; (with_reducible refine (swarflaw29_awake.calls kj3  t267 _ A16.out).mono ?_); rintro e w17 ⟨rfl, hb⟩; refine ⟨_, rfl, ?_⟩; have n0_ := aK (bT_ (by repeat (first | (with_reducible first | exact HB.out | apply bA_ | apply bN_ | apply bD_) | exact HB.out)) hb); clear HB; have HB := n0_; clear n0_; (try clear hb); (try clear hb2); (try clear hk); (try clear hi)))
    go_ret
    exact ⟨by first | rfl | (simp [errW_none, errW_some] <;> rfl) | (simp [*, errW_none, errW_some] <;> rfl), by repeat (first | (with_reducible first | exact HB.out | apply bA_ | apply bN_ | apply bD_) | exact HB.out)⟩
   ·replace c15 := Bool.eq_false_iff.mpr c15
    subst c15
    have H1 : ((swarflaw29_cp.f l1).bind fun t268 => ((some (([] : List Int) : List Int)).bind fun y271 => (if y271.length + l2.length < 17592186044416 then ((precedence_Best.f kj3 a0 t268 (y271 ++ l2)).bind fun bt277 => ((swarfref29_Best.f kj3 a0 l1 l2).bind fun bt282 => (if bt277.2.2 = bt282.2.2 then (if bt277.2.1 = bt282.2.1 then ((swarfref29_Ints.f kj3 bt277.1 bt282.1).bind fun t287 => (some t287)) else (some false)) else (some false)))) else (none)))) = some r := by rw [if_neg (show ¬ (false = true) by decide)] at H; exact H
    clear H; have H := H1; clear H1; replace H := oB_ H
    obtain ⟨t268, A180, H⟩ := H
    replace H : ((some (([] : List Int) : List Int)).bind fun y271 => (if y271.length + l2.length < 17592186044416 then ((precedence_Best.f kj3 a0 t268 (y271 ++ l2)).bind fun bt277 => ((swarfref29_Best.f kj3 a0 l1 l2).bind fun bt282 => (if bt277.2.2 = bt282.2.2 then (if bt277.2.1 = bt282.2.1 then ((swarfref29_Ints.f kj3 bt277.1 bt282.1).bind fun t287 => (some t287)) else (some false)) else (some false)))) else (none))) = some r := H
    have A18 := aK A180; clear A180
    obtain ⟨y271, hy271⟩ : ∃ y_ : List Int, y_ = (([] : List Int)) := ⟨_, rfl⟩
    replace H : (if y271.length + l2.length < 17592186044416 then ((precedence_Best.f kj3 a0 t268 (y271 ++ l2)).bind fun bt277 => ((swarfref29_Best.f kj3 a0 l1 l2).bind fun bt282 => (if bt277.2.2 = bt282.2.2 then (if bt277.2.1 = bt282.2.1 then ((swarfref29_Ints.f kj3 bt277.1 bt282.1).bind fun t287 => (some t287)) else (some false)) else (some false)))) else (none)) = some r := by first | (rw [hy271]; with_reducible exact H) | (have H2_ := (Option.bind_some _ _).symm.trans H; rw [hy271]; with_reducible exact H2_) | (have H2_ := (Option.bind_some _ _).symm.trans H; with_reducible exact H2_) | with_reducible exact H | (rw [hy271]; exact H) | exact H
    have Ny271 := aK hy271; clear hy271
    by_cases c19 : y271.length + l2.length < 17592186044416
    ·rw [if_pos c19] at H; have LMc19 := aK c19; clear c19
     obtain ⟨y274, hy274⟩ : ∃ y_ : List Int, y_ = (y271 ++ l2) := ⟨_, rfl⟩
     replace H : ((precedence_Best.f kj3 a0 t268 y274).bind fun bt277 => ((swarfref29_Best.f kj3 a0 l1 l2).bind fun bt282 => (if bt277.2.2 = bt282.2.2 then (if bt277.2.1 = bt282.2.1 then ((swarfref29_Ints.f kj3 bt277.1 bt282.1).bind fun t287 => (some t287)) else (some false)) else (some false)))) = some r := by first | (rw [hy274]; with_reducible exact H) | (have H2_ := (Option.bind_some _ _).symm.trans H; rw [hy274]; with_reducible exact H2_) | (have H2_ := (Option.bind_some _ _).symm.trans H; with_reducible exact H2_) | with_reducible exact H | (rw [hy274]; exact H) | exact H
     have Ny274 := aK hy274; clear hy274; replace H := oB_ H
     obtain ⟨⟨t277, t278, t279⟩, A200, H⟩ := H
     replace H : ((swarfref29_Best.f kj3 a0 l1 l2).bind fun bt282 => (if t279 = bt282.2.2 then (if t278 = bt282.2.1 then ((swarfref29_Ints.f kj3 t277 bt282.1).bind fun t287 => (some t287)) else (some false)) else (some false))) = some r := H
     have A20 := aK A200; clear A200; replace H := oB_ H
     obtain ⟨⟨t282, t285, t286⟩, A210, H⟩ := H
     replace H : (if t279 = t286 then (if t278 = t285 then ((swarfref29_Ints.f kj3 t277 t282).bind fun t287 => (some t287)) else (some false)) else (some false)) = some r := H
     have A21 := aK A210; clear A210
     by_cases c22 : t279 = t286
     ·rw [if_pos c22] at H
      have c22b0 : (t279 == t286) = true := beq_iff_eq.mpr c22
      have c22b1 : (t279 != t286) = false := bne_eq_false_iff_eq.mpr c22
      clear c22
      by_cases c23 : t278 = t285
      ·rw [if_pos c23] at H
       have c23b0 : (t278 == t285) = true := beq_iff_eq.mpr c23
       have c23b1 : (t278 != t285) = false := bne_eq_false_iff_eq.mpr c23
       clear c23; replace H := oB_ H
       obtain ⟨t287, A240, H⟩ := H
       replace H : (some t287) = some r := H
       have A24 := aK A240; clear A240; obtain rfl := Option.some.inj H
       go_wp2_with (first | ((with_reducible refine gate_callee (f := 15) rfl ?_); refine goesL_ (some 37) rfl rfl Try.func15 (by kernel_rfl) rfl #[.slice A1 l1.length c1] rfl (by (try simp only [List.map_toArray, List.map_cons, List.map_nil]); first | done | rfl | (simp only [List.length_drop, List.length_take]; rfl)) ?_; (with_reducible refine (swarflaw29_cp.calls _ _ l1 t268 _ ?side1 ?side2 A18.out).mono ?_); (case side1 => repeat (first | exact (Kd.C_below HR1.out HB.out) | (with_reducible refine Kd.C_alloc ?_ _) | (with_reducible refine Kd.C_drewN ?_ _) | (with_reducible refine Kd.C_drew ?_))); (case side2 => exact HC1.out); rintro e w25 ⟨v269, rfl, ho0, hb⟩; refine ⟨_, rfl, ?_⟩; have n0_ := aK (Kd.R_lower ho0 (bZ_ (by repeat (first | (with_reducible first | exact HB.out | apply bA_ | apply bN_ | apply bD_) | exact HB.out)))); have n1_ := aK (bT_ (by repeat (first | (with_reducible first | exact HB.out | apply bA_ | apply bN_ | apply bD_) | exact HB.out)) hb); clear HB; have HO270 := n0_; have HB := n1_; clear n0_ n1_; (try clear hb); (try clear hb2); (try clear hk); (try clear hi); (try clear ho0)) | ((with_reducible refine gate_dst (N := 38) rfl ?_); (try (refine gate_guard (by rfl) ?_; dsimp only)); refine Kd.R_lit (Kd.int .i64) _ 3 ?hg (N := 38) ?hd (xs := ([] : List Int)) (inner := []) (ok := fun _ => True) (okp := fun _ => True) ?hr ?hp (fun _ hk => hk) trivial (Below.refl _ _) (Nat.le_refl _) (by simp) ?_; (case hd => rfl); (case hg => rfl); (case hr => first | (go_simp; done) | (go_simp; rfl)); (case hp => exact (Reps.none _ _)); intro v272 w26 ho27 hb hg_ hnew_; clear hg_ hnew_; (first | rw [← Ny271.out] at ho27 | (simp only [Int.reduceToNat] at ho27; rw [← Ny271.out] at ho27)); have n0_ := aK (Kd.R_below (by (with_reducible repeat (first | apply Kd.R_alloc | apply Kd.R_drewN | apply Kd.R_drew)); exact HO270.out) hb); have n1_ := aK (Kd.R_lower ho27 (bZ_ (by repeat (first | (with_reducible first | exact HB.out | apply bA_ | apply bN_ | apply bD_) | exact HB.out)))); have n2_ := aK (bT_ (by repeat (first | (with_reducible first | exact HB.out | apply bA_ | apply bN_ | apply bD_) | exact HB.out)) hb); clear HO270; clear HB; have HO270 := n0_; have HO273 := n1_; have HB := n2_; clear n0_ n1_ n2_; clear hb ho27) | ((with_reducible refine gate_builtin (b := .append) (xs := #[.tmp 38, .tmp 39]) rfl ?_); (try (refine gate_guard (by rfl) ?_; dsimp only)); at_builtin; refine Kd.R_append_rows (Kd.int .i64) (w0 := w) w.heap.size rfl (.tmp 38) (.tmp 39) 31 3 (.int .i64 0) 8 rfl Try.underlying31 info3 rfl (by decide) (by omega) v272 y271 l2 _ _ _ (fun _ => True) (fun _ => False) rfl rfl ?aO ?aR (fun _ _ h => h) (fun _ h => h.elim) ?aF ?aB ?aS ?aL ?_; (case aR => repeat (first | exact (Kd.C_below HR2.out HB.out) | (with_reducible refine Kd.C_alloc ?_ _) | (with_reducible refine Kd.C_drewN ?_ _) | (with_reducible refine Kd.C_drew ?_))); (case aB => exact (by repeat (first | (with_reducible first | exact HB.out | apply bA_ | apply bN_ | apply bD_) | exact HB.out))); (case aF => exact (fun _ _ => trivial)); (case aO => exact (by (with_reducible repeat (first | apply Kd.R_alloc | apply Kd.R_drewN | apply Kd.R_drew)); exact HO273.out)); (case aS => exact (bZ_ (by repeat (first | (with_reducible first | exact HB.out | apply bA_ | apply bN_ | apply bD_) | exact HB.out)))); (case aL => have := LMc19.out; omega); intro v275 w28 ho hb hg hat; rw [← Ny274.out] at ho; have n0_ := aK (Kd.R_over' (by (with_reducible repeat (first | apply Kd.R_alloc | apply Kd.R_drewN | apply Kd.R_drew)); exact HO270.out) (Kd.R_typed (by (with_reducible repeat (first | apply Kd.R_alloc | apply Kd.R_drewN | apply Kd.R_drew)); exact HO273.out)) (by decide) hg); have n1_ := aK (hb); have n2_ := aK (ho); clear HO270; clear HB; clear HO273; have HO270 := n0_; have HB := n1_; have HO276 := n2_; clear n0_ n1_ n2_; clear ho hb hg hat; obtain ⟨Ao29, co29, eo29⟩ := Kd.R_slice HO270.out; subst eo29; obtain ⟨Ao30, co30, eo30⟩ := Kd.R_slice HO276.out; subst eo30) | ((with_reducible refine gate_callee (f := 28) rfl ?_); refine goesL_ (some 41) rfl rfl Try.func28 (by kernel_rfl) rfl #[.int .i64 a0, .slice Ao29 t268.length co29, .slice Ao30 y274.length co30] rfl (by (try simp only [List.map_toArray, List.map_cons, List.map_nil]); first | done | rfl | (simp only [List.length_drop, List.length_take]; rfl)) ?_; (with_reducible refine (precedence_Best.calls kj3 a0 _ _ t268 _ _ y274 t277 t278 t279 _ ?side1 ?side2 ?side3 ?side4 A20.out).mono ?_); (case side1 => repeat (first | exact (Kd.R_reads' HO270.out).2.2 | (with_reducible refine Kd.C_alloc ?_ _) | (with_reducible refine Kd.C_drewN ?_ _) | (with_reducible refine Kd.C_drew ?_))); (case side2 => exact (Kd.R_reads' HO270.out).2.1); (case side3 => repeat (first | exact (Kd.R_reads' HO276.out).2.2 | (with_reducible refine Kd.C_alloc ?_ _) | (with_reducible refine Kd.C_drewN ?_ _) | (with_reducible refine Kd.C_drew ?_))); (case side4 => exact (Kd.R_reads' HO276.out).2.1); rintro e w31 ⟨v280, rfl, ho0, hb⟩; refine ⟨_, rfl, ?_⟩; have n0_ := aK (Kd.R_below (by (with_reducible repeat (first | apply Kd.R_alloc | apply Kd.R_drewN | apply Kd.R_drew)); exact HO270.out) hb); have n1_ := aK (Kd.R_elder' (by (with_reducible repeat (first | apply Kd.R_alloc | apply Kd.R_drewN | apply Kd.R_drew)); exact HO276.out) (Kd.R_base ho0) hb); have n2_ := aK (Kd.R_lower (Kd.R_new' ho0 (Kd.R_lt (by (with_reducible repeat (first | apply Kd.R_alloc | apply Kd.R_drewN | apply Kd.R_drew)); exact HO276.out))) (bZ_ (by repeat (first | (with_reducible first | exact HB.out | apply bA_ | apply bN_ | apply bD_) | exact HB.out)))); have n3_ := aK (bT_ (by repeat (first | (with_reducible first | exact HB.out | apply bA_ | apply bN_ | apply bD_) | exact HB.out)) hb); clear HO270; clear HO276; clear HB; have HO270 := n0_; have HO276 := n1_; have HO281 := n2_; have HB := n3_; clear n0_ n1_ n2_ n3_; (try clear hb); (try clear hb2); (try clear hk); (try clear hi); (try clear ho0)) | ((with_reducible refine gate_callee (f := 29) rfl ?_); refine goesL_ (some 49) rfl rfl Try.func29 (by kernel_rfl) rfl #[.int .i64 a0, .slice A1 l1.length c1, .slice A2 l2.length c2] rfl (by (try simp only [List.map_toArray, List.map_cons, List.map_nil]); first | done | rfl | (simp only [List.length_drop, List.length_take]; rfl)) ?_; (with_reducible refine (swarfref29_Best.calls kj3 a0 _ _ l1 _ _ l2 t282 t285 t286 _ ?side1 ?side2 ?side3 ?side4 A21.out).mono ?_); (case side1 => repeat (first | exact (Kd.C_below HR1.out HB.out) | (with_reducible refine Kd.C_alloc ?_ _) | (with_reducible refine Kd.C_drewN ?_ _) | (with_reducible refine Kd.C_drew ?_))); (case side2 => exact HC1.out); (case side3 => repeat (first | exact (Kd.C_below HR2.out HB.out) | (with_reducible refine Kd.C_alloc ?_ _) | (with_reducible refine Kd.C_drewN ?_ _) | (with_reducible refine Kd.C_drew ?_))); (case side4 => exact HC2.out); rintro e w32 ⟨v283, rfl, ho0, hb⟩; refine ⟨_, rfl, ?_⟩; have n0_ := aK (Kd.R_below (by (with_reducible repeat (first | apply Kd.R_alloc | apply Kd.R_drewN | apply Kd.R_drew)); exact HO270.out) hb); have n1_ := aK (Kd.R_below (by (with_reducible repeat (first | apply Kd.R_alloc | apply Kd.R_drewN | apply Kd.R_drew)); exact HO276.out) hb); have n2_ := aK (Kd.R_below (by (with_reducible repeat (first | apply Kd.R_alloc | apply Kd.R_drewN | apply Kd.R_drew)); exact HO281.out) hb); have n3_ := aK (Kd.V_lower (Kd.V_mono (ok' := fun k_ => some k_ ≠ (.slice Ao29 t268.length co29 : Value).ownBlock ∧ some k_ ≠ (.slice Ao30 y274.length co30 : Value).ownBlock ∧ some k_ ≠ (v280 : Value).ownBlock) ho0 (fun k_ hk_ => ⟨(Kd.fresh' (Kd.R_lt (by (with_reducible repeat (first | apply Kd.R_alloc | apply Kd.R_drewN | apply Kd.R_drew)); exact HO270.out)) k_ hk_), (Kd.fresh' (Kd.R_lt (by (with_reducible repeat (first | apply Kd.R_alloc | apply Kd.R_drewN | apply Kd.R_drew)); exact HO276.out)) k_ hk_), (Kd.fresh' (Kd.R_lt (by (with_reducible repeat (first | apply Kd.R_alloc | apply Kd.R_drewN | apply Kd.R_drew)); exact HO281.out)) k_ hk_)⟩)) (bZ_ (by repeat (first | (with_reducible first | exact HB.out | apply bA_ | apply bN_ | apply bD_) | exact HB.out)))); have n4_ := aK (bT_ (by repeat (first | (with_reducible first | exact HB.out | apply bA_ | apply bN_ | apply bD_) | exact HB.out)) hb); clear HO270; clear HO276; clear HO281; clear HB; have HO270 := n0_; have HO276 := n1_; have HO281 := n2_; have HO284 := n3_; have HB := n4_; clear n0_ n1_ n2_ n3_ n4_; (try clear hb); (try clear hb2); (try clear hk); (try clear hi); (try clear ho0); obtain ⟨Ao33, co33, eo33⟩ := Kd.R_slice HO281.out; subst eo33; obtain ⟨Ao34, co34, eo34⟩ := Kd.V_slice HO284.out; subst eo34) | (go_at_call 27; (with_reducible refine (swarfref29_Ints.calls kj3 _ _ t277 _ _ t282 t287 _ ?side1 ?side2 ?side3 ?side4 A24.out).mono ?_); (case side1 => repeat (first | exact (Kd.R_reads' HO281.out).2.2 | (with_reducible refine Kd.C_alloc ?_ _) | (with_reducible refine Kd.C_drewN ?_ _) | (with_reducible refine Kd.C_drew ?_))); (case side2 => exact (Kd.R_reads' HO281.out).2.1); (case side3 => repeat (first | exact (Kd.V_reads' HO284.out).2.2 | (with_reducible refine Kd.C_alloc ?_ _) | (with_reducible refine Kd.C_drewN ?_ _) | (with_reducible refine Kd.C_drew ?_))); (case side4 => exact (Kd.V_reads' HO284.out).2.1); rintro e w' ⟨rfl, ⟨nd, rfl⟩⟩))
       go_ret
       exact ⟨by first | rfl | (simp [errW_none, errW_some] <;> rfl) | (simp [*, errW_none, errW_some] <;> rfl), by repeat (first | (with_reducible first | exact HB.out | apply bA_ | apply bN_ | apply bD_) | exact HB.out)⟩
      ·rw [if_neg c23] at H
       have c23b0 : (t278 == t285) = false := beq_eq_false_iff_ne.mpr c23
       have c23b1 : (t278 != t285) = true := bne_iff_ne.mpr c23
       (rw [HRT.out] at H; exact absurd H (by decide))
     ·rw [if_neg c22] at H
      have c22b0 : (t279 == t286) = false := beq_eq_false_iff_ne.mpr c22
      have c22b1 : (t279 != t286) = true := bne_iff_ne.mpr c22
      (rw [HRT.out] at H; exact absurd H (by decide))
    ·rw [if_neg c19] at H
     exact absurd H (by simp)

end Go.Proofs.Ytbbkclcfmcjlgaa.P


namespace Go.Proofs.Ytbbkclcfmcjlgaa.B
open Go.RowKit Go.Proofs.Ytbbkclcfmcjlgaa.P Go.Proofs.YtbbkclcfmcjlgaaW.PrintWords Go.Proofs.YtbbkclcfmcjlgaaW.PrintLast
theorem awake_ev : Ev (fun k => swarflaw29_awake.f k) true := Ev.of swarflaw29_awake.mono swarflaw29_awake.small
end Go.Proofs.Ytbbkclcfmcjlgaa.B



namespace Go.Proofs.Ytbbkclcfmcjlgaa.P
open Go.RowKit Go.Proofs.YtbbkclcfmcjlgaaW.PrintWords Go.Proofs.YtbbkclcfmcjlgaaW.PrintLast Go.Proofs.YtbbkclcfmcjlgaaW.PrintMore
attribute [local go_sem] max2_int min2_int max_two min_two max_three min_three max_four min_four
set_option linter.unusedVariables false
set_option linter.unusedSimpArgs false

def swarflaw29_few.f (k : Nat) (a0 : Int) (a1 : Int) (l2 : List (S47)) : Option (Bool) := if (l2.length : Int) ≤ 60 then (if a0 ≤ a1 then (some true) else ((swarfref29_Valid.f k a0 l2).bind fun t189 => (some (t189 != 0)))) else (some false)
set_option maxHeartbeats 8000000 in
set_option maxRecDepth 100000 in
theorem swarflaw29_few.calls (k : Nat) (a0 : Int) (a1 : Int) (A2 : Option Addr) (c2 : Nat) (l2 : List (S47)) (r : Bool) (w : World) (hr2 : Kd.C k47 w A2 l2.length l2) (hc2 : l2.length ≤ c2) (h : swarflaw29_few.f k a0 a1 l2 = some r) :
  Calls Try.prog 13 #[.int .i64 a0, .int .i64 a1, .slice A2 l2.length c2] w fun e w' => e = .returned (.bool r) ∧ Drawn0 w w' := by
 have HR2 := aK hr2
 have HC2 := aK hc2
 clear hr2 hc2
 have H : (if (l2.length : Int) ≤ 60 then (if a0 ≤ a1 then (some true) else ((swarfref29_Valid.f k a0 l2).bind fun t189 => (some (t189 != 0)))) else (some false)) = some r := h
 clear h
 by_cases c4 : (l2.length : Int) ≤ 60
 ·rw [if_pos c4] at H
  have c4b0 : decide ((l2.length : Int) ≤ 60) = true := decide_eq_true c4
  have c4b1 : decide (l2.length ≤ 60) = true := decide_eq_true (by omega)
  clear c4
  by_cases c5 : a0 ≤ a1
  ·rw [if_pos c5] at H
   have c5b0 : decide (a0 ≤ a1) = true := decide_eq_true c5
   clear c5; obtain rfl := Option.some.inj H
   go_enter Try.func13, Try.ntmps13
   go_wp2; go_ret
   exact ⟨by first | rfl | (simp; done) | (simp [*]; done), by repeat (first | exact Drawn0.refl _ | apply Drawn0.step)⟩
  ·rw [if_neg c5] at H
   have c5b0 : decide (a0 ≤ a1) = false := decide_eq_false c5
   clear c5; replace H := oB_ H
   obtain ⟨t189, A60, H⟩ := H
   replace H : (some (t189 != 0)) = some r := H
   have A6 := aK A60; clear A60; obtain rfl := Option.some.inj H
   go_enter Try.func13, Try.ntmps13
   go_wp2_with (first | (go_at_call 21; (with_reducible refine (swarfref29_Valid.calls k a0 _ _ l2 t189 _ ?side1 ?side2 A6.out).mono ?_); (case side1 => repeat (first | exact HR2.out | (with_reducible refine Kd.C_alloc ?_ _) | (with_reducible refine Kd.C_drewN ?_ _) | (with_reducible refine Kd.C_drew ?_))); (case side2 => exact HC2.out); rintro e w' ⟨rfl, ⟨nd, rfl⟩⟩))
   go_ret
   exact ⟨by first | rfl | (simp; done) | (simp [*]; done), by repeat (first | exact Drawn0.refl _ | apply Drawn0.step)⟩
 ·rw [if_neg c4] at H
  have c4b0 : decide ((l2.length : Int) ≤ 60) = false := decide_eq_false c4
  have c4b1 : decide (l2.length ≤ 60) = false := decide_eq_false (by omega)
  clear c4; obtain rfl := Option.some.inj H
  go_enter Try.func13, Try.ntmps13
  go_wp2; go_ret
  exact ⟨by first | rfl | (simp; done) | (simp [*]; done), by repeat (first | exact Drawn0.refl _ | apply Drawn0.step)⟩

end Go.Proofs.Ytbbkclcfmcjlgaa.P



namespace Go.Proofs.Ytbbkclcfmcjlgaa.B
open Go.RowKit Go.Proofs.Ytbbkclcfmcjlgaa.P Go.Proofs.YtbbkclcfmcjlgaaW.PrintWords Go.Proofs.YtbbkclcfmcjlgaaW.PrintLast Go.Proofs.YtbbkclcfmcjlgaaW.PrintMore
set_option linter.unusedVariables false
set_option linter.unusedSimpArgs false

theorem wrap_mid (x : Int) (h0 : -4000000000000000 ≤ x) (h1 : x ≤ 4000000000000000) : wrap64 x = x := by unfold wrap64; omega
theorem wrap_succ (x : Int) (h0 : 0 ≤ x) (h1 : x ≤ 1000000000000000) : wrap64 (x + 1) = x + 1 := wrap_mid _ (by omega) (by omega)
theorem ev_end {α : Type} {g : Nat → Option α} {r : α} (h : ∀ k, g (k + 1) = some r) : Ev g r := Ev.step (f := fun _ => some r) h (Ev.now r)
def EvP {α : Type} (g : Nat → Option α) (Post : α → Prop) : Prop := ∃ r, Ev g r ∧ Post r
theorem EvP.step {α : Type} {g f : Nat → Option α} {Post : α → Prop} (h : ∀ k, g (k + 1) = f k) (k : EvP f Post) : EvP g Post := by
 obtain ⟨r, h1, h2⟩ := k
 exact ⟨r, Ev.step h h1, h2⟩
theorem EvP.stop {α : Type} {g : Nat → Option α} {Post : α → Prop} (r : α) (h : ∀ k, g (k + 1) = some r) (hp : Post r) : EvP g Post := ⟨r, ev_end h, hp⟩
theorem EvP.bind {α β : Type} {g : Nat → Option α} {f : Nat → α → Option β} {a : α} {Post : β → Prop} (h : Ev g a) (k : EvP (fun n => f n a) Post) : EvP (fun n => (g n).bind (f n)) Post := by
 obtain ⟨r, h1, h2⟩ := k
 exact ⟨r, Ev.bind h h1, h2⟩
theorem EvP.bindP {α β : Type} {g : Nat → Option α} {f : Nat → α → Option β} {P1 : α → Prop} {Post : β → Prop} (h : EvP g P1) (k : ∀ a, P1 a → EvP (fun n => f n a) Post) : EvP (fun n => (g n).bind (f n)) Post := by
 obtain ⟨a, h1, h2⟩ := h
 exact EvP.bind h1 (k a h2)
theorem EvP.mono {α : Type} {g : Nat → Option α} {P Q : α → Prop} (h : EvP g P) (hq : ∀ a, P a → Q a) : EvP g Q := by
 obtain ⟨r, h1, h2⟩ := h
 exact ⟨r, h1, hq _ h2⟩
theorem EvP.same {α : Type} {g f : Nat → Option α} {Post : α → Prop} (h : ∀ k, g k = f k) (k : EvP f Post) : EvP g Post := by
 have : g = f := funext h
 rw [this]; exact k

theorem drop_T47 (l : List S47) (j : Int) (h0 : 0 ≤ j) (h : j < (l.length : Int)) : l.drop j.toNat = rd_T47 l j :: l.drop (j + 1).toNat := by
 have h1 : j.toNat < l.length := by omega
 rw [List.drop_eq_getElem_cons h1, show (j + 1).toNat = j.toNat + 1 by omega]
 congr 1
 unfold rd_T47
 simp [List.getD, h1]
theorem drop_rd (l : List Int) (j : Int) (h0 : 0 ≤ j) (h : j < (l.length : Int)) : l.drop j.toNat = rd l j :: l.drop (j + 1).toNat := by
 have h1 : j.toNat < l.length := by omega
 rw [List.drop_eq_getElem_cons h1, show (j + 1).toNat = j.toNat + 1 by omega]
 congr 1
 unfold rd
 simp [List.getD, h1]
theorem drop_end {α : Type} (l : List α) (j : Int) (h : (l.length : Int) ≤ j) : l.drop j.toNat = [] := List.drop_eq_nil_of_le (by omega)

def okp (n : Int) (p : S47) : Bool := decide (p.f0 ≠ p.f1) && (decide (0 ≤ p.f0) && decide (p.f0 < n)) && (decide (0 ≤ p.f1) && decide (p.f1 < n))
theorem okp_iff (n : Int) (p : S47) : okp n p = true ↔ p.f0 ≠ p.f1 ∧ (0 ≤ p.f0 ∧ p.f0 < n) ∧ (0 ≤ p.f1 ∧ p.f1 < n) := by simp [okp, and_assoc]
def vErr (n : Int) (l : List S47) : Int := if n > 200 ∨ (l.length : Int) > 2000 then 3 else if n < 0 then 1 else if l.all (okp n) = true then 0 else 1
theorem vErr_zero {n : Int} {l : List S47} (h : vErr n l = 0) : 0 ≤ n ∧ n ≤ 200 ∧ l.length ≤ 2000 ∧ ∀ p ∈ l, okp n p = true := by
 unfold vErr at h
 split at h
 ·cases h
 ·split at h
  ·cases h
  ·split at h
   ·rename_i h1 h2 h3
    refine ⟨by omega, by omega, by omega, ?_⟩
    rw [List.all_eq_true] at h3
    exact h3
   ·cases h
theorem valid_l0 (n : Int) (l : List S47) (hn : l.length ≤ 100000000000000) (d : Nat) : ∀ j : Int, 0 ≤ j → j + d = l.length → Ev (fun k => precedence_Valid.l0 k n l (l.length : Int) j) (if (l.drop j.toNat).all (okp n) = true then 0 else 1) := by
 induction d with
 | zero =>
  intro j h0 hj
  rw [drop_end l j (by omega)]
  exact ev_end (fun k => by simp only [precedence_Valid.l0]; rw [if_neg (by omega)]; rfl)
 | succ d ih =>
  intro j h0 hj
  have hw := wrap_succ j h0 (by omega)
  rw [drop_T47 l j h0 (by omega)]
  generalize hp : rd_T47 l j = p
  by_cases ho : okp n p = true
  ·have hi := ih (j + 1) (by omega) (by omega)
   rw [List.all_cons, ho, Bool.true_and]
   refine Ev.step (fun k => ?_) hi
   rw [okp_iff] at ho
   simp only [precedence_Valid.l0]
   rw [if_pos (by omega), if_pos (by omega), if_pos (by omega), hp, if_neg ho.1, if_neg (by unfold mn; split <;> omega), if_neg (by unfold mx; split <;> omega), hw]
  ·rw [List.all_cons, show okp n p = false by simpa using ho, Bool.false_and]
   refine ev_end (fun k => ?_)
   rw [okp_iff] at ho
   simp only [precedence_Valid.l0]
   rw [if_pos (by omega), if_pos (by omega), if_pos (by omega), hp]
   by_cases h1 : p.f0 = p.f1
   ·rw [if_pos h1]; rfl
   ·rw [if_neg h1]
    by_cases h2 : mn p.f0 p.f1 < 0
    ·rw [if_pos h2]; rfl
    ·rw [if_neg h2, if_pos (by unfold mn at h2; unfold mx; split at h2 <;> split <;> omega)]; rfl
theorem rvalid_l0 (n : Int) (l : List S47) (hn : l.length ≤ 100000000000000) (d : Nat) : ∀ j : Int, 0 ≤ j → j + d = l.length → Ev (fun k => swarfref29_Valid.l0 k n l j) (if (l.drop j.toNat).all (okp n) = true then 0 else 1) := by
 induction d with
 | zero =>
  intro j h0 hj
  rw [drop_end l j (by omega)]
  exact ev_end (fun k => by simp only [swarfref29_Valid.l0]; rw [if_neg (by omega)]; rfl)
 | succ d ih =>
  intro j h0 hj
  have hw := wrap_succ j h0 (by omega)
  rw [drop_T47 l j h0 (by omega)]
  generalize hp : rd_T47 l j = p
  by_cases ho : okp n p = true
  ·have hi := ih (j + 1) (by omega) (by omega)
   rw [List.all_cons, ho, Bool.true_and]
   refine Ev.step (fun k => ?_) hi
   rw [okp_iff] at ho
   simp only [swarfref29_Valid.l0]
   rw [if_pos (by omega), if_pos (by omega), hp, if_neg (by omega), if_neg (by omega), if_neg (by omega), if_neg (by omega), if_neg ho.1, hw]
  ·rw [List.all_cons, show okp n p = false by simpa using ho, Bool.false_and]
   refine ev_end (fun k => ?_)
   rw [okp_iff] at ho
   simp only [swarfref29_Valid.l0]
   rw [if_pos (by omega), if_pos (by omega), hp]
   by_cases h1 : p.f0 < 0
   ·rw [if_pos h1]; rfl
   ·rw [if_neg h1]
    by_cases h2 : p.f0 ≥ n
    ·rw [if_pos h2]; rfl
    ·rw [if_neg h2]
     by_cases h3 : p.f1 < 0
     ·rw [if_pos h3]; rfl
     ·rw [if_neg h3]
      by_cases h4 : p.f1 ≥ n
      ·rw [if_pos h4]; rfl
      ·rw [if_neg h4, if_pos (by omega)]; rfl
theorem valid_ev (n : Int) (l : List S47) (hn : l.length ≤ 100000000000000) : Ev (fun k => precedence_Valid.f k n l) (vErr n l) := by
 have h := valid_l0 n l hn l.length 0 (by omega) (by omega)
 rw [show (0 : Int).toNat = 0 from rfl, List.drop_zero] at h
 unfold precedence_Valid.f vErr
 by_cases c : n > 200
 ·simp only [if_pos c, if_pos (show n > 200 ∨ (l.length : Int) > 2000 from .inl c)]
  exact ev_end (fun k => by simp [precedence_Valid.j0])
 ·simp only [if_neg c]
  by_cases c2 : (l.length : Int) > 2000
  ·simp only [if_pos (show n > 200 ∨ (l.length : Int) > 2000 from .inr c2), decide_eq_true c2]
   exact ev_end (fun k => by simp [precedence_Valid.j0])
  ·simp only [if_neg (show ¬ (n > 200 ∨ (l.length : Int) > 2000) by omega), decide_eq_false c2]
   by_cases c3 : n < 0
   ·simp only [if_pos c3]
    exact ev_end (fun k => by simp [precedence_Valid.j0, c3])
   ·simp only [if_neg c3]
    refine Ev.step (fun k => ?_) h
    simp only [precedence_Valid.j0]
    rw [if_neg (by decide), if_neg c3]
theorem rvalid_ev (n : Int) (l : List S47) (hn : l.length ≤ 100000000000000) : Ev (fun k => swarfref29_Valid.f k n l) (vErr n l) := by
 have h := rvalid_l0 n l hn l.length 0 (by omega) (by omega)
 rw [show (0 : Int).toNat = 0 from rfl, List.drop_zero] at h
 unfold swarfref29_Valid.f vErr
 by_cases c : n > 200
 ·simp only [if_pos c, if_pos (show n > 200 ∨ (l.length : Int) > 2000 from .inl c)]
  exact ev_end (fun k => by simp [swarfref29_Valid.j0])
 ·simp only [if_neg c]
  by_cases c2 : (l.length : Int) > 2000
  ·simp only [if_pos (show n > 200 ∨ (l.length : Int) > 2000 from .inr c2), decide_eq_true c2]
   exact ev_end (fun k => by simp [swarfref29_Valid.j0])
  ·simp only [if_neg (show ¬ (n > 200 ∨ (l.length : Int) > 2000) by omega), decide_eq_false c2]
   by_cases c3 : n < 0
   ·simp only [if_pos c3]
    exact ev_end (fun k => by simp [swarfref29_Valid.j0, c3])
   ·simp only [if_neg c3]
    refine Ev.step (fun k => ?_) h
    simp only [swarfref29_Valid.j0]
    rw [if_neg (by decide), if_neg c3]
theorem cp_eq (l : List S47) (hn : l.length < 8796093022208) : swarflaw29_cp.f l = some l := by
 unfold swarflaw29_cp.f
 simp only [Option.bind_some]
 rw [if_pos (by simpa using hn)]
 rfl

theorem ints_l0 (a b : List Int) (hl : a.length = b.length) (hn : a.length ≤ 100000000000000) (d : Nat) : ∀ j : Int, 0 ≤ j → j + d = a.length → Ev (fun k => swarfref29_Ints.l0 k a b j) (decide (a.drop j.toNat = b.drop j.toNat)) := by
 induction d with
 | zero =>
  intro j h0 hj
  rw [drop_end a j (by omega), drop_end b j (by omega)]
  exact ev_end (fun k => by simp only [swarfref29_Ints.l0]; rw [if_neg (by omega)]; rfl)
 | succ d ih =>
  intro j h0 hj
  have hw := wrap_succ j h0 (by omega)
  rw [drop_rd a j h0 (by omega), drop_rd b j h0 (by omega)]
  by_cases h : rd a j = rd b j
  ·rw [h]
   have hi := ih (j + 1) (by omega) (by omega)
   rw [show decide (rd b j :: a.drop (j + 1).toNat = rd b j :: b.drop (j + 1).toNat) = decide (a.drop (j + 1).toNat = b.drop (j + 1).toNat) by simp]
   refine Ev.step (fun k => ?_) hi
   simp only [swarfref29_Ints.l0]
   rw [if_pos (by omega), if_pos (by omega), if_pos (by omega), if_pos h, hw]
  ·rw [show decide (rd a j :: a.drop (j + 1).toNat = rd b j :: b.drop (j + 1).toNat) = false by simp [h]]
   refine ev_end (fun k => ?_)
   simp only [swarfref29_Ints.l0]
   rw [if_pos (by omega), if_pos (by omega), if_pos (by omega), if_neg h]
theorem ints_ev (a b : List Int) (hn : a.length ≤ 100000000000000) : Ev (fun k => swarfref29_Ints.f k a b) (decide (a = b)) := by
 unfold swarfref29_Ints.f
 by_cases h : (a.length : Int) = b.length
 ·simp only [if_pos h]
  exact ints_l0 a b (by omega) hn a.length 0 (by omega) (by omega)
 ·simp only [if_neg h]
  rw [show decide (a = b) = false from decide_eq_false (fun e => h (by rw [e]))]
  exact Ev.now _
theorem S47.eta (p q : S47) : p = q ↔ p.f0 = q.f0 ∧ p.f1 = q.f1 := by
 constructor
 ·rintro rfl; exact ⟨rfl, rfl⟩
 ·cases p; cases q; rintro ⟨rfl, rfl⟩; rfl
instance : DecidableEq S47 := fun p q => if h : p.f0 = q.f0 ∧ p.f1 = q.f1 then isTrue ((S47.eta p q).2 h) else isFalse (fun e => h ((S47.eta p q).1 e))
theorem in_l0 (o : List Int) (hl : o.length ≤ 100000000000000) (x : Int) (d : Nat) : ∀ j : Int, 0 ≤ j → j + d = o.length → Ev (fun k => swarfref29_in.l0 k o x j) (decide (x ∈ o.drop j.toNat)) := by
 induction d with
 | zero =>
  intro j h0 hj
  rw [drop_end o j (by omega)]
  exact ev_end (fun k => by simp only [swarfref29_in.l0]; rw [if_neg (by omega)]; simp)
 | succ d ih =>
  intro j h0 hj
  have hw := wrap_succ j h0 (by omega)
  rw [drop_rd o j h0 (by omega)]
  generalize hy : rd o j = y
  by_cases h : y = x
  ·rw [show decide (x ∈ y :: o.drop (j + 1).toNat) = true by simp [h]]
   exact ev_end (fun k => by simp only [swarfref29_in.l0]; rw [if_pos (by omega), if_pos (by omega), hy, if_pos h])
  ·rw [show decide (x ∈ y :: o.drop (j + 1).toNat) = decide (x ∈ o.drop (j + 1).toNat) by simp [Ne.symm h]]
   refine Ev.step (fun k => ?_) (ih (j + 1) (by omega) (by omega))
   simp only [swarfref29_in.l0]
   rw [if_pos (by omega), if_pos (by omega), hy, if_neg h, hw]
theorem in_ev (o : List Int) (hl : o.length ≤ 100000000000000) (x : Int) : Ev (fun k => swarfref29_in.f k o x) (decide (x ∈ o)) := by
 unfold swarfref29_in.f
 exact in_l0 o hl x o.length 0 (by omega) (by omega)
def rdy (l : List S47) (o : List Int) (x : Int) : Bool := l.all fun p => decide (p.f1 = x → p.f0 ∈ o)
theorem rdy_iff (l : List S47) (o : List Int) (x : Int) : rdy l o x = true ↔ ∀ a, (⟨a, x⟩ : S47) ∈ l → a ∈ o := by
 unfold rdy
 rw [List.all_eq_true]
 constructor
 ·intro h a ha
  have := h _ ha
  simpa using this
 ·intro h p hp
  rw [decide_eq_true_iff]
  intro e
  exact h p.f0 (by rw [← e]; exact hp)
theorem ready_l0 (l : List S47) (hl : l.length ≤ 100000000000000) (o : List Int) (ho : o.length ≤ 100000000000000) (x : Int) (d : Nat) : ∀ j : Int, 0 ≤ j → j + d = l.length → Ev (fun k => swarfref29_ready.l0 k l o x j) (rdy (l.drop j.toNat) o x) := by
 induction d with
 | zero =>
  intro j h0 hj
  rw [drop_end l j (by omega)]
  exact ev_end (fun k => by simp only [swarfref29_ready.l0]; rw [if_neg (by omega)]; rfl)
 | succ d ih =>
  intro j h0 hj
  have hw := wrap_succ j h0 (by omega)
  rw [drop_T47 l j h0 (by omega)]
  generalize hy : rd_T47 l j = y
  have hi := ih (j + 1) (by omega) (by omega)
  by_cases h : y.f1 = x
  ·by_cases h2 : y.f0 ∈ o
   ·rw [show rdy (y :: l.drop (j + 1).toNat) o x = rdy (l.drop (j + 1).toNat) o x by simp [rdy, h2]]
    refine Ev.step (f := fun k => (swarfref29_in.f k o y.f0).bind fun t241 => if t241 = true then swarfref29_ready.l0 k l o x (j + 1) else some false) (fun k => ?_) (Ev.bind (in_ev o ho y.f0) ?_)
    ·simp only [swarfref29_ready.l0]
     rw [if_pos (by omega), if_pos (by omega), hy, if_pos h, hw]
    ·simp only [h2, decide_true, if_true]; exact hi
   ·rw [show rdy (y :: l.drop (j + 1).toNat) o x = false by simp [rdy, h2, h]]
    refine Ev.step (f := fun k => (swarfref29_in.f k o y.f0).bind fun t241 => if t241 = true then swarfref29_ready.l0 k l o x (j + 1) else some false) (fun k => ?_) (Ev.bind (in_ev o ho y.f0) ?_)
    ·simp only [swarfref29_ready.l0]
     rw [if_pos (by omega), if_pos (by omega), hy, if_pos h, hw]
    ·simp only [h2, decide_false]; exact Ev.now _
  ·rw [show rdy (y :: l.drop (j + 1).toNat) o x = rdy (l.drop (j + 1).toNat) o x by simp [rdy, h]]
   refine Ev.step (fun k => ?_) hi
   simp only [swarfref29_ready.l0]
   rw [if_pos (by omega), if_pos (by omega), hy, if_neg h, hw]
theorem ready_ev (l : List S47) (hl : l.length ≤ 100000000000000) (o : List Int) (ho : o.length ≤ 100000000000000) (x : Int) : Ev (fun k => swarfref29_ready.f k l o x) (rdy l o x) := by
 unfold swarfref29_ready.f
 exact ready_l0 l hl o ho x l.length 0 (by omega) (by omega)
end Go.Proofs.Ytbbkclcfmcjlgaa.B


namespace Go.Proofs.Ytbbkclcfmcjlgaa.P
open Go.RowKit Go.Proofs.YtbbkclcfmcjlgaaW.PrintWords Go.Proofs.YtbbkclcfmcjlgaaW.PrintLast Go.Proofs.YtbbkclcfmcjlgaaW.PrintMore
attribute [local go_sem] max2_int min2_int max_two min_two max_three min_three max_four min_four
set_option linter.unusedVariables false
set_option linter.unusedSimpArgs false

mutual
def precedence_Changes.l0 : Nat → List Int → List Int → Int → List Int → Int → Int → Option (Int)
 | 0, _, _, _, _, _, _ => none
 | k + 1, x0, x1, x5, x8, x9, x10 => if x10 < x9 then (if 0 ≤ x10 then (if x10 < (x8.length : Int) then (if (rd x8 x10) < 0 then (precedence_Changes.j1 k x0 x1 x5 x10 (rd x8 x10) x8 x9 x10 true) else (precedence_Changes.j1 k x0 x1 x5 x10 (rd x8 x10) x8 x9 x10 (decide ((rd x8 x10) ≥ (x1.length : Int))))) else (none)) else (none)) else (some x5)
def precedence_Changes.j1 : Nat → List Int → List Int → Int → Int → Int → List Int → Int → Int → Bool → Option (Int)
 | 0, _, _, _, _, _, _, _, _, _ => none
 | k + 1, x0, x1, x5, x6, x7, x8, x9, x10, x22 => if x22 = true then (some (-1)) else (if x6 > 0 then (if 0 ≤ (wrap64 (x6 - 1)) then (if (wrap64 (x6 - 1)) < (x0.length : Int) then (if 0 ≤ (rd x0 (wrap64 (x6 - 1))) then (if (rd x0 (wrap64 (x6 - 1))) < (x1.length : Int) then (if 0 ≤ x7 then (if x7 < (x1.length : Int) then (if (rd x1 (rd x0 (wrap64 (x6 - 1)))) = (rd x1 x7) then (precedence_Changes.l0 k x0 x1 x5 x8 x9 (wrap64 (x10 + 1))) else (precedence_Changes.l0 k x0 x1 (wrap64 (x5 + 1)) x8 x9 (wrap64 (x10 + 1)))) else (none)) else (none)) else (none)) else (none)) else (none)) else (none)) else (precedence_Changes.l0 k x0 x1 x5 x8 x9 (wrap64 (x10 + 1))))
end
def precedence_Changes.f (k : Nat) (l0 : List Int) (l1 : List Int) : Option (Int) := precedence_Changes.l0 k l0 l1 0 l0 (l0.length : Int) 0
set_option maxHeartbeats 8000000 in
set_option maxRecDepth 100000 in
theorem precedence_Changes.calls (k : Nat) (A0 : Option Addr) (c0 : Nat) (l0 : List Int) (A1 : Option Addr) (c1 : Nat) (l1 : List Int) (r : Int) (w : World) (hr0 : Kd.C (Kd.int .i64) w A0 l0.length l0) (hc0 : l0.length ≤ c0) (hr1 : Kd.C (Kd.int .i64) w A1 l1.length l1) (hc1 : l1.length ≤ c1) (h : precedence_Changes.f k l0 l1 = some r) :
  Calls Try.prog 31 #[.slice A0 l0.length c0, .slice A1 l1.length c1] w fun e w' => e = .returned (.int .i64 r) ∧ Drawn0 w w' := by
 have HR0 := aK hr0
 have HC0 := aK hc0
 clear hr0 hc0
 have HR1 := aK hr1
 have HC1 := aK hc1
 clear hr1 hc1
 have H : (precedence_Changes.l0 k l0 l1 0 l0 (l0.length : Int) 0) = some r := h
 clear h
 have H' := aK H
 clear H
 go_enter Try.func31, Try.ntmps31
 go_wp2
 repeat (go_quiet (fail); try go_wp2)
 go_loopg [5, 10] k (fun kq v5 v10 w' => ∃ (x5_1 : Int) (x10_1 : Int), v5 = .int .i64 x5_1 ∧ v10 = .int .i64 x10_1 ∧ Aside0 (precedence_Changes.l0 kq l0 l1 x5_1 l0 (l0.length : Int) x10_1 = some r) ∧ Aside0 (kq ≤ k) ∧ Drawn0 w w')
 case atStart => exact ⟨(0), (0), (by first | rfl | (simp; done) | (simp [*]; done)), (by first | rfl | (simp; done) | (simp [*]; done)), H', ⟨Nat.le_refl _⟩, by repeat (first | exact Drawn0.refl _ | apply Drawn0.step)⟩
 case round =>
  clear H'; try clear c1; try clear p2
  obtain ⟨x5_1, x10_1, rfl, rfl, HA, HK1, ⟨m1, rfl⟩⟩ := hrel
  cases gk with
  | zero => exact absurd HA.out (by simp [precedence_Changes.l0])
  | succ k1 =>
   have H := HA.out
   clear HA
   simp only [precedence_Changes.l0] at H
   by_cases c3 : x10_1 < (l0.length : Int)
   ·rw [if_pos c3] at H
    have c3b0 : decide (x10_1 < (l0.length : Int)) = true := decide_eq_true c3
    clear c3
    by_cases c4 : 0 ≤ x10_1
    ·rw [if_pos c4] at H
     have c4b0 : decide (0 ≤ x10_1) = true := decide_eq_true c4
     clear c4
     by_cases c5 : x10_1 < (l0.length : Int)
     ·rw [if_pos c5] at H
      have c5b0 : decide (x10_1 < (l0.length : Int)) = true := decide_eq_true c5
      clear c5; have HC6 := aK H; clear H
      have p395 : 0 ≤ (x10_1 : Int) := of_decide_eq_true (by first | (with_reducible assumption) | assumption)
      have q395 : x10_1 < (l0.length : Int) := of_decide_eq_true (by first | (with_reducible assumption) | assumption)
      obtain ⟨ad395, e395, hx395_0⟩ := Kd.at_int HR0.out x10_1 p395 q395
      cases e395; replace p395 := eq_true p395; replace q395 := eq_true q395
      go_upto_region 5 with (fail)
      repeat (go_quiet (fail); go_upto_region 5 with (fail))
      go_cut [22] (fun v22 wc => ∃ (kq : Nat) (x22_5 : Bool), v22 = .bool x22_5 ∧ Aside0 (precedence_Changes.j1 kq l0 l1 x5_1 x10_1 (rd l0 x10_1) l0 (l0.length : Int) x10_1 x22_5 = some r) ∧ Aside0 (kq ≤ k1) ∧ Drawn0 w wc)
      case first =>
       have H := HC6.out
       clear HC6
       by_cases c7 : (rd l0 x10_1) < 0
       ·rw [if_pos c7] at H
        have c7b0 : decide ((rd l0 x10_1) < 0) = true := decide_eq_true c7
        clear c7
        (first | rw [c7b0] | (simp only [i64_w, i32_w]; rw [c7b0]) | skip)
        have H' := aK H; clear H; go_wp2
        repeat (go_quiet (fail); try go_wp2)
        go_meet
        case rel => exact ⟨_, (true), (by first | rfl | (simp; done) | (simp [*]; done)), H', ⟨by have := HK1.out; first | omega | exact Nat.le_refl _⟩, by repeat (first | exact Drawn0.refl _ | apply Drawn0.step)⟩
       ·rw [if_neg c7] at H
        have c7b0 : decide ((rd l0 x10_1) < 0) = false := decide_eq_false c7
        clear c7
        (first | rw [c7b0] | (simp only [i64_w, i32_w]; rw [c7b0]) | skip)
        have H' := aK H; clear H; go_wp2
        repeat (go_quiet (fail); try go_wp2)
        go_meet
        case rel => exact ⟨_, (decide ((rd l0 x10_1) ≥ (l1.length : Int))), (by first | rfl | (simp; done) | (simp [*]; done)), H', ⟨by have := HK1.out; first | omega | exact Nat.le_refl _⟩, by repeat (first | exact Drawn0.refl _ | apply Drawn0.step)⟩
      case rest =>
       clear HC6; try clear c1; try clear p2; try clear c3; try clear c3b0; try clear p3; try clear q3; try clear hx3; try clear c4; try clear c4b0; try clear c5; try clear c5b0; try clear c7; try clear c7b0; try clear hx395_0; try clear p2; try clear p395; try clear q395
       obtain ⟨kq, x22_5, rfl, HA, HJ5, ⟨mc5, rfl⟩⟩ := hcut
       cases kq with
       | zero => exact absurd HA.out (by simp [precedence_Changes.j1])
       | succ kj5 =>
        have H := HA.out
        clear HA
        simp only [precedence_Changes.j1] at H
        by_cases c8 : x22_5 = true
        ·subst c8
         have H1 : (some (-1)) = some r := by rw [if_pos rfl] at H; exact H
         clear H; have H := H1; clear H1; obtain rfl := Option.some.inj H; go_wp2
         repeat (go_quiet (fail); try go_wp2)
         go_ret
         exact ⟨by first | rfl | (simp; done) | (simp [*]; done), by repeat (first | exact Drawn0.refl _ | apply Drawn0.step)⟩
        ·replace c8 := Bool.eq_false_iff.mpr c8
         subst c8
         have H1 : (if x10_1 > 0 then (if 0 ≤ (wrap64 (x10_1 - 1)) then (if (wrap64 (x10_1 - 1)) < (l0.length : Int) then (if 0 ≤ (rd l0 (wrap64 (x10_1 - 1))) then (if (rd l0 (wrap64 (x10_1 - 1))) < (l1.length : Int) then (if 0 ≤ (rd l0 x10_1) then (if (rd l0 x10_1) < (l1.length : Int) then (if (rd l1 (rd l0 (wrap64 (x10_1 - 1)))) = (rd l1 (rd l0 x10_1)) then (precedence_Changes.l0 kj5 l0 l1 x5_1 l0 (l0.length : Int) (wrap64 (x10_1 + 1))) else (precedence_Changes.l0 kj5 l0 l1 (wrap64 (x5_1 + 1)) l0 (l0.length : Int) (wrap64 (x10_1 + 1)))) else (none)) else (none)) else (none)) else (none)) else (none)) else (none)) else (precedence_Changes.l0 kj5 l0 l1 x5_1 l0 (l0.length : Int) (wrap64 (x10_1 + 1)))) = some r := by rw [if_neg (show ¬ (false = true) by decide)] at H; exact H
         clear H; have H := H1; clear H1
         by_cases c9 : x10_1 > 0
         ·rw [if_pos c9] at H
          have c9b0 : decide (0 < x10_1) = true := decide_eq_true c9
          clear c9
          obtain ⟨ji10, hji10⟩ : ∃ j_ : Int, (wrap64 (x10_1 - 1)) = j_ := ⟨_, rfl⟩
          replace H : (if 0 ≤ (ji10) then (if (ji10) < (l0.length : Int) then (if 0 ≤ (rd l0 (ji10)) then (if (rd l0 (ji10)) < (l1.length : Int) then (if 0 ≤ (rd l0 x10_1) then (if (rd l0 x10_1) < (l1.length : Int) then (if (rd l1 (rd l0 (ji10))) = (rd l1 (rd l0 x10_1)) then (precedence_Changes.l0 kj5 l0 l1 x5_1 l0 (l0.length : Int) (wrap64 (x10_1 + 1))) else (precedence_Changes.l0 kj5 l0 l1 (wrap64 (x5_1 + 1)) l0 (l0.length : Int) (wrap64 (x10_1 + 1)))) else (none)) else (none)) else (none)) else (none)) else (none)) else (none)) = some r := by first | (rw [hji10] at H; exact H) | (simp only [hji10] at H ⊢; exact H)
          have hji10w : (IntKind.i64.wrap (x10_1 - 1)) = ji10 := (i64_w _).trans hji10
          by_cases c11 : 0 ≤ (ji10)
          ·rw [if_pos c11] at H
           have c11b0 : decide (0 ≤ (ji10)) = true := decide_eq_true c11
           clear c11
           by_cases c12 : (ji10) < (l0.length : Int)
           ·rw [if_pos c12] at H
            have c12b0 : decide ((ji10) < (l0.length : Int)) = true := decide_eq_true c12
            clear c12
            by_cases c13 : 0 ≤ (rd l0 (ji10))
            ·rw [if_pos c13] at H
             have c13b0 : decide (0 ≤ (rd l0 (ji10))) = true := decide_eq_true c13
             clear c13
             by_cases c14 : (rd l0 (ji10)) < (l1.length : Int)
             ·rw [if_pos c14] at H
              have c14b0 : decide ((rd l0 (ji10)) < (l1.length : Int)) = true := decide_eq_true c14
              clear c14
              by_cases c15 : 0 ≤ (rd l0 x10_1)
              ·rw [if_pos c15] at H
               have c15b0 : decide (0 ≤ (rd l0 x10_1)) = true := decide_eq_true c15
               clear c15
               by_cases c16 : (rd l0 x10_1) < (l1.length : Int)
               ·rw [if_pos c16] at H
                have c16b0 : decide ((rd l0 x10_1) < (l1.length : Int)) = true := decide_eq_true c16
                clear c16
                by_cases c17 : (rd l1 (rd l0 (ji10))) = (rd l1 (rd l0 x10_1))
                ·rw [if_pos c17] at H
                 have c17b0 : ((rd l1 (rd l0 (ji10))) == (rd l1 (rd l0 x10_1))) = true := beq_iff_eq.mpr c17
                 have c17b1 : ((rd l1 (rd l0 (ji10))) != (rd l1 (rd l0 x10_1))) = false := bne_eq_false_iff_eq.mpr c17
                 clear c17; have H' := aK H; clear H
                 have p396 : 0 ≤ ((ji10) : Int) := of_decide_eq_true (by first | (with_reducible assumption) | assumption)
                 have q396 : (ji10) < (l0.length : Int) := of_decide_eq_true (by first | (with_reducible assumption) | assumption)
                 obtain ⟨ad396, e396, hx396_0⟩ := Kd.at_int HR0.out (ji10) p396 q396
                 obtain rfl : ad395 = ad396 := (by injection e396)
                 replace p396 := eq_true p396; replace q396 := eq_true q396
                 have p397 : 0 ≤ ((rd l0 (ji10)) : Int) := of_decide_eq_true (by first | (with_reducible assumption) | assumption)
                 have q397 : (rd l0 (ji10)) < (l1.length : Int) := of_decide_eq_true (by first | (with_reducible assumption) | assumption)
                 obtain ⟨ad397, e397, hx397_0⟩ := Kd.at_int HR1.out (rd l0 (ji10)) p397 q397
                 cases e397; replace p397 := eq_true p397; replace q397 := eq_true q397
                 have p398 : 0 ≤ ((rd l0 x10_1) : Int) := of_decide_eq_true (by first | (with_reducible assumption) | assumption)
                 have q398 : (rd l0 x10_1) < (l1.length : Int) := of_decide_eq_true (by first | (with_reducible assumption) | assumption)
                 obtain ⟨ad398, e398, hx398_0⟩ := Kd.at_int HR1.out (rd l0 x10_1) p398 q398
                 obtain rfl : ad397 = ad398 := (by injection e398)
                 replace p398 := eq_true p398; replace q398 := eq_true q398; go_wp2
                 repeat (go_quiet (fail); try go_wp2)
                 go_roundg kj5
                 case measure => have := HK1.out; have := HJ5.out; omega
                 case rel => exact ⟨(x5_1), (wrap64 (x10_1 + 1)), (by first | rfl | (simp; done) | (simp [*]; done)), (by first | rfl | (simp; done) | (simp [*]; done)), H', ⟨by have := HK1.out; have := HJ5.out; omega⟩, by repeat (first | exact Drawn0.refl _ | apply Drawn0.step)⟩
                ·rw [if_neg c17] at H
                 have c17b0 : ((rd l1 (rd l0 (ji10))) == (rd l1 (rd l0 x10_1))) = false := beq_eq_false_iff_ne.mpr c17
                 have c17b1 : ((rd l1 (rd l0 (ji10))) != (rd l1 (rd l0 x10_1))) = true := bne_iff_ne.mpr c17
                 have H' := aK H; clear H
                 have p396 : 0 ≤ ((ji10) : Int) := of_decide_eq_true (by first | (with_reducible assumption) | assumption)
                 have q396 : (ji10) < (l0.length : Int) := of_decide_eq_true (by first | (with_reducible assumption) | assumption)
                 obtain ⟨ad396, e396, hx396_0⟩ := Kd.at_int HR0.out (ji10) p396 q396
                 obtain rfl : ad395 = ad396 := (by injection e396)
                 replace p396 := eq_true p396; replace q396 := eq_true q396
                 have p397 : 0 ≤ ((rd l0 (ji10)) : Int) := of_decide_eq_true (by first | (with_reducible assumption) | assumption)
                 have q397 : (rd l0 (ji10)) < (l1.length : Int) := of_decide_eq_true (by first | (with_reducible assumption) | assumption)
                 obtain ⟨ad397, e397, hx397_0⟩ := Kd.at_int HR1.out (rd l0 (ji10)) p397 q397
                 cases e397; replace p397 := eq_true p397; replace q397 := eq_true q397
                 have p398 : 0 ≤ ((rd l0 x10_1) : Int) := of_decide_eq_true (by first | (with_reducible assumption) | assumption)
                 have q398 : (rd l0 x10_1) < (l1.length : Int) := of_decide_eq_true (by first | (with_reducible assumption) | assumption)
                 obtain ⟨ad398, e398, hx398_0⟩ := Kd.at_int HR1.out (rd l0 x10_1) p398 q398
                 obtain rfl : ad397 = ad398 := (by injection e398)
                 replace p398 := eq_true p398; replace q398 := eq_true q398; go_wp2
                 repeat (go_quiet (fail); try go_wp2)
                 go_roundg kj5
                 case measure => have := HK1.out; have := HJ5.out; omega
                 case rel => exact ⟨(wrap64 (x5_1 + 1)), (wrap64 (x10_1 + 1)), (by first | rfl | (simp; done) | (simp [*]; done)), (by first | rfl | (simp; done) | (simp [*]; done)), H', ⟨by have := HK1.out; have := HJ5.out; omega⟩, by repeat (first | exact Drawn0.refl _ | apply Drawn0.step)⟩
               ·rw [if_neg c16] at H
                exact absurd H (by simp)
              ·rw [if_neg c15] at H
               exact absurd H (by simp)
             ·rw [if_neg c14] at H
              exact absurd H (by simp)
            ·rw [if_neg c13] at H
             exact absurd H (by simp)
           ·rw [if_neg c12] at H
            exact absurd H (by simp)
          ·rw [if_neg c11] at H
           exact absurd H (by simp)
         ·rw [if_neg c9] at H
          have c9b0 : decide (0 < x10_1) = false := decide_eq_false c9
          clear c9; have H' := aK H; clear H; go_wp2
          repeat (go_quiet (fail); try go_wp2)
          go_roundg kj5
          case measure => have := HK1.out; have := HJ5.out; omega
          case rel => exact ⟨(x5_1), (wrap64 (x10_1 + 1)), (by first | rfl | (simp; done) | (simp [*]; done)), (by first | rfl | (simp; done) | (simp [*]; done)), H', ⟨by have := HK1.out; have := HJ5.out; omega⟩, by repeat (first | exact Drawn0.refl _ | apply Drawn0.step)⟩
     ·rw [if_neg c5] at H
      exact absurd H (by simp)
    ·rw [if_neg c4] at H
     exact absurd H (by simp)
   ·rw [if_neg c3] at H
    have c3b0 : decide (x10_1 < (l0.length : Int)) = false := decide_eq_false c3
    clear c3; obtain rfl := Option.some.inj H; go_wp2
    repeat (go_quiet (fail); try go_wp2)
    go_ret
    exact ⟨by first | rfl | (simp; done) | (simp [*]; done), by repeat (first | exact Drawn0.refl _ | apply Drawn0.step)⟩

end Go.Proofs.Ytbbkclcfmcjlgaa.P



namespace Go.Proofs.Ytbbkclcfmcjlgaa.B
open Go.RowKit Go.Proofs.Ytbbkclcfmcjlgaa.P Go.Proofs.YtbbkclcfmcjlgaaW.PrintWords Go.Proofs.YtbbkclcfmcjlgaaW.PrintLast Go.Proofs.YtbbkclcfmcjlgaaW.PrintMore
set_option linter.unusedVariables false
set_option linter.unusedSimpArgs false

def cst (tl : List Int) : Int → List Int → Int
 | _, [] => 0
 | la, i :: w => (if 0 ≤ la ∧ rd tl la ≠ rd tl i then 1 else 0) + cst tl i w
def inr (m : Int) (x : Int) : Bool := decide (0 ≤ x) && decide (x < m)
theorem inr_iff (m x : Int) : inr m x = true ↔ 0 ≤ x ∧ x < m := by simp [inr]
def chgs (o tl : List Int) : Int := if o.all (inr tl.length) = true then cst tl (-1) o else -1
def prv (o : List Int) (j : Int) : Int := if j = 0 then -1 else rd o (j - 1)
def rest (tl o : List Int) (c j : Int) : Int := if (o.drop j.toNat).all (inr tl.length) = true then c + cst tl (prv o j) (o.drop j.toNat) else -1
theorem rest_end (tl o : List Int) (c j : Int) (h : (o.length : Int) ≤ j) : rest tl o c j = c := by
 unfold rest
 rw [drop_end o j h]
 simp [cst]
theorem rest_bad (tl o : List Int) (c j : Int) (h0 : 0 ≤ j) (h : j < (o.length : Int)) (hb : ¬ (0 ≤ rd o j ∧ rd o j < (tl.length : Int))) : rest tl o c j = -1 := by
 unfold rest
 rw [drop_rd o j h0 h, List.all_cons]
 rw [show inr tl.length (rd o j) = false by rw [← Bool.not_eq_true, inr_iff]; exact hb]
 simp
theorem rest_step (tl o : List Int) (c j : Int) (h0 : 0 ≤ j) (h : j < (o.length : Int)) (hb : 0 ≤ rd o j ∧ rd o j < (tl.length : Int)) : rest tl o c j = rest tl o (c + (if 0 ≤ prv o j ∧ rd tl (prv o j) ≠ rd tl (rd o j) then 1 else 0)) (j + 1) := by
 unfold rest
 rw [drop_rd o j h0 h, List.all_cons, (inr_iff _ _).2 hb, Bool.true_and]
 split
 ·rw [cst, show prv o (j + 1) = rd o j by unfold prv; rw [if_neg (by omega)]; congr 1; omega]
  omega
 ·rfl
theorem rchanges_l0 (o tl : List Int) (ho : o.length ≤ 100000000000000) (d : Nat) : ∀ (j c : Int), 0 ≤ j → j + d = o.length → 0 ≤ c → c ≤ j → (j = 0 ∨ (0 ≤ rd o (j - 1) ∧ rd o (j - 1) < (tl.length : Int))) → Ev (fun k => swarfref29_Changes.l0 k o tl c j) (rest tl o c j) := by
 induction d with
 | zero =>
  intro j c h0 hj _ _ _
  rw [rest_end tl o c j (by omega)]
  exact ev_end (fun k => by simp only [swarfref29_Changes.l0]; rw [if_neg (by omega)])
 | succ d ih =>
  intro j c h0 hj c0 c1 hp
  have hw := wrap_succ j h0 (by omega)
  have hwc := wrap_succ c c0 (by omega)
  have hwm : wrap64 (j - 1) = j - 1 := wrap_mid _ (by omega) (by omega)
  by_cases hb : 0 ≤ rd o j ∧ rd o j < (tl.length : Int)
  ·rw [rest_step tl o c j h0 (by omega) hb]
   have hstep : ∀ x, Ev (fun k => swarfref29_Changes.j1 k o tl c j false) x → Ev (fun k => swarfref29_Changes.l0 k o tl c j) x := by
    intro x hx
    refine Ev.step (fun k => ?_) hx
    simp only [swarfref29_Changes.l0]
    rw [if_pos (by omega), if_pos h0, if_neg (by omega), decide_eq_false (show ¬ rd o j ≥ (tl.length : Int) by omega)]
   refine hstep _ ?_
   by_cases z : j = 0
   ·subst z
    rw [show prv o 0 = -1 from rfl, if_neg (by omega), Int.add_zero]
    refine Ev.step (fun k => ?_) (ih 1 c (by omega) (by omega) c0 (by omega) (.inr (by simpa using hb)))
    simp only [swarfref29_Changes.j1]
    rw [if_neg (by decide), if_neg (by omega), hw]
    rfl
   ·have hq : 0 ≤ rd o (j - 1) ∧ rd o (j - 1) < (tl.length : Int) := hp.resolve_left z
    rw [show prv o j = rd o (j - 1) by unfold prv; rw [if_neg z]]
    by_cases e : rd tl (rd o (j - 1)) = rd tl (rd o j)
    ·rw [if_neg (fun h => h.2 e), Int.add_zero]
     refine Ev.step (fun k => ?_) (ih (j + 1) c (by omega) (by omega) c0 (by omega) (.inr (by rw [show j + 1 - 1 = j by omega]; exact hb)))
     simp only [swarfref29_Changes.j1]
     rw [if_neg (by decide), if_pos (by omega), if_pos h0, if_pos (by omega), if_pos hb.1, if_pos hb.2, hwm, if_pos (by omega), if_pos (by omega), if_pos hq.1, if_pos hq.2, if_pos e.symm, hw]
    ·rw [if_pos ⟨hq.1, e⟩]
     refine Ev.step (fun k => ?_) (ih (j + 1) (c + 1) (by omega) (by omega) (by omega) (by omega) (.inr (by rw [show j + 1 - 1 = j by omega]; exact hb)))
     simp only [swarfref29_Changes.j1]
     rw [if_neg (by decide), if_pos (by omega), if_pos h0, if_pos (by omega), if_pos hb.1, if_pos hb.2, hwm, if_pos (by omega), if_pos (by omega), if_pos hq.1, if_pos hq.2, if_neg (fun h => e h.symm), hw, hwc]
  ·rw [rest_bad tl o c j h0 (by omega) hb]
   by_cases h1 : rd o j < 0
   ·refine Ev.step (f := fun k => swarfref29_Changes.j1 k o tl c j true) (fun k => ?_) (ev_end (fun k => by simp [swarfref29_Changes.j1]))
    simp only [swarfref29_Changes.l0]
    rw [if_pos (by omega), if_pos h0, if_pos h1]
   ·refine Ev.step (f := fun k => swarfref29_Changes.j1 k o tl c j true) (fun k => ?_) (ev_end (fun k => by simp [swarfref29_Changes.j1]))
    simp only [swarfref29_Changes.l0]
    rw [if_pos (by omega), if_pos h0, if_neg h1, decide_eq_true (show rd o j ≥ (tl.length : Int) by omega)]
theorem rchanges_ev (o tl : List Int) (ho : o.length ≤ 100000000000000) : Ev (fun k => swarfref29_Changes.f k o tl) (chgs o tl) := by
 unfold swarfref29_Changes.f
 have h := rchanges_l0 o tl ho o.length 0 0 (by omega) (by omega) (by omega) (by omega) (.inl rfl)
 have e : rest tl o 0 0 = chgs o tl := by
  unfold rest chgs
  simp [prv]
 rwa [e] at h
end Go.Proofs.Ytbbkclcfmcjlgaa.B
