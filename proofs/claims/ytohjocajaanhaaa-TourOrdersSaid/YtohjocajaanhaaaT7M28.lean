import Derived.Test.YtohjocajaanhaaaT7M21
import Derived.Test.YtohjocajaanhaaaT7M25
import Derived.Test.YtohjocajaanhaaaT7Px29
import Derived.Test.YtohjocajaanhaaaT7M24
import Derived.Test.YtohjocajaanhaaaT7M27
-- PRINTED by print.py (a twelfth state) out of the translation. Not trusted: Lean checks it.

namespace Go.Proofs.Ytohjocajaanhaaa.P
open Go.RowKit Go.Proofs.YtohjocajaanhaaaW.PrintWords Go.Proofs.YtohjocajaanhaaaW.PrintLast Go.Proofs.YtohjocajaanhaaaW.PrintMore
attribute [local go_sem] max2_int min2_int max_two min_two max_three min_three max_four min_four   -- for this text's walks alone
set_option linter.unusedVariables false
set_option linter.unusedSimpArgs false

/-! ### swarflaw38_TourOrders: function 9 -/
def swarflaw38_TourOrders.j0 : Nat → List (S31) → Bool → Option (Bool)
 | 0, _, _ => none
 | k + 1, x0, x19 => if x19 = true then ((swarflaw38_awake.f k).bind fun t452 => (some t452)) else ((swarfref38_Nearest.f k x0).bind fun t453 => ((tour_Improve.f k x0 t453).bind fun bt456 => ((tour_Exact.f k x0).bind fun bt460 => ((tour_Length.f k x0 bt456.1).bind fun bt465 => ((tour_Length.f k x0 t453).bind fun bt467 => (if bt456.2 = 0 then (if bt460.2.2 = 0 then (if bt465.2 = 0 then (if bt467.2 = 0 then (if bt460.2.1 ≤ bt465.1 then (some (decide (bt465.1 ≤ bt467.1))) else (some false)) else (some false)) else (some false)) else (some false)) else (some false)))))))
def swarflaw38_TourOrders.f (k : Nat) (l0 : List (S31)) : Option (Bool) := (swarflaw38_awake.f k).bind fun t450 => (if t450 = true then ((swarflaw38_right.f k l0 7).bind fun t451 => (swarflaw38_TourOrders.j0 k l0 (!t451))) else (swarflaw38_TourOrders.j0 k l0 true))
theorem swarflaw38_TourOrders.mono_l : ∀ k, (∀ y0 y1, LeO (swarflaw38_TourOrders.j0 k y0 y1) (swarflaw38_TourOrders.j0 (k + 1) y0 y1))
 | 0 => fun _ _ r h => by simp [swarflaw38_TourOrders.j0] at h
 | k + 1 => by
  have ih0 := swarflaw38_TourOrders.mono_l k
  ·intro y0 y1
   unfold swarflaw38_TourOrders.j0
   repeat' first
   | (with_reducible exact ih0 _ _)
   | (with_reducible exact swarflaw38_awake.mono _)
   | (with_reducible exact swarflaw38_right.mono _ _ _)
   | (with_reducible exact swarfref38_Nearest.mono _ _)
   | (with_reducible exact tour_Exact.mono _ _)
   | (with_reducible exact tour_Improve.mono _ _ _)
   | (with_reducible exact tour_Length.mono _ _ _)
   | (with_reducible exact LeO.refl _)
   | (with_reducible exact LeO.none _)
   | (with_reducible refine LeO.ite ?_ ?_)
   | (with_reducible refine LeO.bind ?_ (fun _ => ?_))
   | exact ih0 _ _
   | exact swarflaw38_awake.mono _
   | exact swarflaw38_right.mono _ _ _
   | exact swarfref38_Nearest.mono _ _
   | exact tour_Exact.mono _ _
   | exact tour_Improve.mono _ _ _
   | exact tour_Length.mono _ _ _
   | exact LeO.none _
   | refine LeO.ite ?_ ?_
   | refine LeO.bind ?_ (fun _ => ?_)
theorem swarflaw38_TourOrders.mono : ∀ a0 k, LeO (swarflaw38_TourOrders.f k a0) (swarflaw38_TourOrders.f (k + 1) a0) := by
 intro a0 k
 have ih0 := swarflaw38_TourOrders.mono_l k
 unfold swarflaw38_TourOrders.f
 repeat' first
   | (with_reducible exact ih0 _ _)
   | (with_reducible exact swarflaw38_awake.mono _)
   | (with_reducible exact swarflaw38_right.mono _ _ _)
   | (with_reducible exact swarfref38_Nearest.mono _ _)
   | (with_reducible exact tour_Exact.mono _ _)
   | (with_reducible exact tour_Improve.mono _ _ _)
   | (with_reducible exact tour_Length.mono _ _ _)
   | (with_reducible exact LeO.refl _)
   | (with_reducible exact LeO.none _)
   | (with_reducible refine LeO.ite ?_ ?_)
   | (with_reducible refine LeO.bind ?_ (fun _ => ?_))
   | exact ih0 _ _
   | exact swarflaw38_awake.mono _
   | exact swarflaw38_right.mono _ _ _
   | exact swarfref38_Nearest.mono _ _
   | exact tour_Exact.mono _ _
   | exact tour_Improve.mono _ _ _
   | exact tour_Length.mono _ _ _
   | exact LeO.none _
   | refine LeO.ite ?_ ?_
   | refine LeO.bind ?_ (fun _ => ?_)
set_option maxHeartbeats 8000000 in
set_option maxRecDepth 100000 in
theorem swarflaw38_TourOrders.calls (k : Nat) (A0 : Option Addr) (c0 : Nat) (l0 : List (S31)) (r : Bool) (w : World) (hr0 : Kd.C k31 w A0 l0.length l0) (hc0 : l0.length ≤ c0) (h : swarflaw38_TourOrders.f k l0 = some r) (hr : r = true) :
  Calls Try.prog 9 #[.slice A0 l0.length c0] w fun e w' => e = .returned (.bool r) ∧ Below w.heap.size w w' := by
 have HRT := Aside0.mk hr
 clear hr
 have HR0 := Aside0.mk hr0
 have HC0 := Aside0.mk hc0
 clear hr0 hc0
 have HB := Aside0.mk (Below.refl w.heap.size w)
 have H : ((swarflaw38_awake.f k).bind fun t450 => (if t450 = true then ((swarflaw38_right.f k l0 7).bind fun t451 => (swarflaw38_TourOrders.j0 k l0 (!t451))) else (swarflaw38_TourOrders.j0 k l0 true))) = some r := h
 clear h
 have HC2 := Aside0.mk H
 clear H
 go_enter Try.func9, Try.ntmps9
 go_upto_region 1 with (fail)
 go_cut [19] (fun v19 wc => ∃ (kq : Nat) (x19_1 : Bool), v19 = .bool x19_1 ∧ Aside0 (swarflaw38_TourOrders.j0 kq l0 x19_1 = some r) ∧ Aside0 (kq ≤ k) ∧ Aside0 (Below w.heap.size w wc))
 case first =>
  have H := HC2.out
  clear HC2; replace H := Option.bind_eq_some_iff.mp H
  obtain ⟨t450, A30, H⟩ := H
  replace H : (if t450 = true then ((swarflaw38_right.f k l0 7).bind fun t451 => (swarflaw38_TourOrders.j0 k l0 (!t451))) else (swarflaw38_TourOrders.j0 k l0 true)) = some r := H
  have A3 := Aside0.mk A30; clear A30
  by_cases c4 : t450 = true
  ·subst c4
   have H1 : ((swarflaw38_right.f k l0 7).bind fun t451 => (swarflaw38_TourOrders.j0 k l0 (!t451))) = some r := by rw [if_pos rfl] at H; exact H
   clear H; have H := H1; clear H1; replace H := Option.bind_eq_some_iff.mp H
   obtain ⟨t451, A50, H⟩ := H
   replace H : (swarflaw38_TourOrders.j0 k l0 (!t451)) = some r := H
   have A5 := Aside0.mk A50; clear A50; have H' := Aside0.mk H; clear H
   go_wp2_with (first | ((with_reducible refine gate_callee (f := 10) rfl ?_); refine goesL_ (some 13) rfl rfl Try.func10 (by kernel_rfl) rfl #[] rfl (by (try simp only [List.map_toArray, List.map_cons, List.map_nil]); first | done | rfl | (simp only [List.length_drop, List.length_take]; rfl)) ?_; (with_reducible refine (swarflaw38_awake.calls k  true _ A3.out).mono ?_); rintro e w6 ⟨rfl, hb⟩; refine ⟨_, rfl, ?_⟩; have n0_ := Aside0.mk (below_step (by repeat (first | (with_reducible first | exact HB.out | apply below_alloc | apply pw_below_drewN | apply below_drew1) | exact HB.out)) hb); clear HB; have HB := n0_; clear n0_; (try clear hb); (try clear hb2); (try clear hk); (try clear hi)) | (go_at_call 14; (with_reducible refine (swarflaw38_right.calls k _ _ l0 7 t451 _ ?side1 ?side2 A5.out).mono ?_); (case side1 => repeat (first | exact (Kd.C_below HR0.out HB.out) | (with_reducible refine Kd.C_alloc ?_ _) | (with_reducible refine Kd.C_drewN ?_ _) | (with_reducible refine Kd.C_drew ?_))); (case side2 => exact HC0.out); rintro e w' ⟨rfl, ⟨nd, rfl⟩⟩))
   go_meet
   case rel => exact ⟨_, (!t451), (by first | rfl | (simp; done) | (simp [*]; done)), H', ⟨by first | omega | exact Nat.le_refl _⟩, ⟨by repeat (first | (with_reducible first | exact HB.out | apply below_alloc | apply pw_below_drewN | apply below_drew1) | exact HB.out)⟩⟩
  ·replace c4 := Bool.eq_false_iff.mpr c4
   subst c4
   have H1 : (swarflaw38_TourOrders.j0 k l0 true) = some r := by rw [if_neg (show ¬ (false = true) by decide)] at H; exact H
   clear H; have H := H1; clear H1; have H' := Aside0.mk H; clear H
   go_wp2_with (first | ((with_reducible refine gate_callee (f := 10) rfl ?_); refine goesL_ (some 13) rfl rfl Try.func10 (by kernel_rfl) rfl #[] rfl (by (try simp only [List.map_toArray, List.map_cons, List.map_nil]); first | done | rfl | (simp only [List.length_drop, List.length_take]; rfl)) ?_; (with_reducible refine (swarflaw38_awake.calls k  false _ A3.out).mono ?_); rintro e w7 ⟨rfl, hb⟩; refine ⟨_, rfl, ?_⟩; have n0_ := Aside0.mk (below_step (by repeat (first | (with_reducible first | exact HB.out | apply below_alloc | apply pw_below_drewN | apply below_drew1) | exact HB.out)) hb); clear HB; have HB := n0_; clear n0_; (try clear hb); (try clear hb2); (try clear hk); (try clear hi)))
   go_meet
   case rel => exact ⟨_, (true), (by first | rfl | (simp; done) | (simp [*]; done)), H', ⟨by first | omega | exact Nat.le_refl _⟩, ⟨by repeat (first | (with_reducible first | exact HB.out | apply below_alloc | apply pw_below_drewN | apply below_drew1) | exact HB.out)⟩⟩
 case rest =>
  clear HC2; try clear c1; try clear p2; try clear c4
  obtain ⟨kq, x19_1, rfl, HA, HJ1, HB⟩ := hcut
  cases kq with
  | zero => exact absurd HA.out (by simp [swarflaw38_TourOrders.j0])
  | succ kj1 =>
   have H := HA.out
   clear HA
   simp only [swarflaw38_TourOrders.j0] at H
   by_cases c8 : x19_1 = true
   ·subst c8
    have H1 : ((swarflaw38_awake.f kj1).bind fun t452 => (some t452)) = some r := by rw [if_pos rfl] at H; exact H
    clear H; have H := H1; clear H1; replace H := Option.bind_eq_some_iff.mp H
    obtain ⟨t452, A90, H⟩ := H
    replace H : (some t452) = some r := H
    have A9 := Aside0.mk A90; clear A90; obtain rfl := Option.some.inj H
    go_wp2_with (first | ((with_reducible refine gate_callee (f := 10) rfl ?_); refine goesL_ (some 20) rfl rfl Try.func10 (by kernel_rfl) rfl #[] rfl (by (try simp only [List.map_toArray, List.map_cons, List.map_nil]); first | done | rfl | (simp only [List.length_drop, List.length_take]; rfl)) ?_; (with_reducible refine (swarflaw38_awake.calls kj1  t452 _ A9.out).mono ?_); rintro e w10 ⟨rfl, hb⟩; refine ⟨_, rfl, ?_⟩; have n0_ := Aside0.mk (below_step (by repeat (first | (with_reducible first | exact HB.out | apply below_alloc | apply pw_below_drewN | apply below_drew1) | exact HB.out)) hb); clear HB; have HB := n0_; clear n0_; (try clear hb); (try clear hb2); (try clear hk); (try clear hi)))
    go_ret
    exact ⟨by first | rfl | (simp [errW_none, errW_some] <;> rfl) | (simp [*, errW_none, errW_some] <;> rfl), by repeat (first | (with_reducible first | exact HB.out | apply below_alloc | apply pw_below_drewN | apply below_drew1) | exact HB.out)⟩
   ·replace c8 := Bool.eq_false_iff.mpr c8
    subst c8
    have H1 : ((swarfref38_Nearest.f kj1 l0).bind fun t453 => ((tour_Improve.f kj1 l0 t453).bind fun bt456 => ((tour_Exact.f kj1 l0).bind fun bt460 => ((tour_Length.f kj1 l0 bt456.1).bind fun bt465 => ((tour_Length.f kj1 l0 t453).bind fun bt467 => (if bt456.2 = 0 then (if bt460.2.2 = 0 then (if bt465.2 = 0 then (if bt467.2 = 0 then (if bt460.2.1 ≤ bt465.1 then (some (decide (bt465.1 ≤ bt467.1))) else (some false)) else (some false)) else (some false)) else (some false)) else (some false))))))) = some r := by rw [if_neg (show ¬ (false = true) by decide)] at H; exact H
    clear H; have H := H1; clear H1; replace H := Option.bind_eq_some_iff.mp H
    obtain ⟨t453, A110, H⟩ := H
    replace H : ((tour_Improve.f kj1 l0 t453).bind fun bt456 => ((tour_Exact.f kj1 l0).bind fun bt460 => ((tour_Length.f kj1 l0 bt456.1).bind fun bt465 => ((tour_Length.f kj1 l0 t453).bind fun bt467 => (if bt456.2 = 0 then (if bt460.2.2 = 0 then (if bt465.2 = 0 then (if bt467.2 = 0 then (if bt460.2.1 ≤ bt465.1 then (some (decide (bt465.1 ≤ bt467.1))) else (some false)) else (some false)) else (some false)) else (some false)) else (some false)))))) = some r := H
    have A11 := Aside0.mk A110; clear A110; replace H := Option.bind_eq_some_iff.mp H
    obtain ⟨⟨t456, t457⟩, A120, H⟩ := H
    replace H : ((tour_Exact.f kj1 l0).bind fun bt460 => ((tour_Length.f kj1 l0 t456).bind fun bt465 => ((tour_Length.f kj1 l0 t453).bind fun bt467 => (if t457 = 0 then (if bt460.2.2 = 0 then (if bt465.2 = 0 then (if bt467.2 = 0 then (if bt460.2.1 ≤ bt465.1 then (some (decide (bt465.1 ≤ bt467.1))) else (some false)) else (some false)) else (some false)) else (some false)) else (some false))))) = some r := H
    have A12 := Aside0.mk A120; clear A120; replace H := Option.bind_eq_some_iff.mp H
    obtain ⟨⟨t460, t461, t462⟩, A130, H⟩ := H
    replace H : ((tour_Length.f kj1 l0 t456).bind fun bt465 => ((tour_Length.f kj1 l0 t453).bind fun bt467 => (if t457 = 0 then (if t462 = 0 then (if bt465.2 = 0 then (if bt467.2 = 0 then (if t461 ≤ bt465.1 then (some (decide (bt465.1 ≤ bt467.1))) else (some false)) else (some false)) else (some false)) else (some false)) else (some false)))) = some r := H
    have A13 := Aside0.mk A130; clear A130; replace H := Option.bind_eq_some_iff.mp H
    obtain ⟨⟨t465, t466⟩, A140, H⟩ := H
    replace H : ((tour_Length.f kj1 l0 t453).bind fun bt467 => (if t457 = 0 then (if t462 = 0 then (if t466 = 0 then (if bt467.2 = 0 then (if t461 ≤ t465 then (some (decide (t465 ≤ bt467.1))) else (some false)) else (some false)) else (some false)) else (some false)) else (some false))) = some r := H
    have A14 := Aside0.mk A140; clear A140; replace H := Option.bind_eq_some_iff.mp H
    obtain ⟨⟨t467, t468⟩, A150, H⟩ := H
    replace H : (if t457 = 0 then (if t462 = 0 then (if t466 = 0 then (if t468 = 0 then (if t461 ≤ t465 then (some (decide (t465 ≤ t467))) else (some false)) else (some false)) else (some false)) else (some false)) else (some false)) = some r := H
    have A15 := Aside0.mk A150; clear A150
    by_cases c16 : t457 = 0
    ·rw [if_pos c16] at H
     have c16b0 : (t457 == 0) = true := beq_iff_eq.mpr c16
     have c16b1 : (t457 != 0) = false := bne_eq_false_iff_eq.mpr c16
     clear c16
     by_cases c17 : t462 = 0
     ·rw [if_pos c17] at H
      have c17b0 : (t462 == 0) = true := beq_iff_eq.mpr c17
      have c17b1 : (t462 != 0) = false := bne_eq_false_iff_eq.mpr c17
      clear c17
      by_cases c18 : t466 = 0
      ·rw [if_pos c18] at H
       have c18b0 : (t466 == 0) = true := beq_iff_eq.mpr c18
       have c18b1 : (t466 != 0) = false := bne_eq_false_iff_eq.mpr c18
       clear c18
       by_cases c19 : t468 = 0
       ·rw [if_pos c19] at H
        have c19b0 : (t468 == 0) = true := beq_iff_eq.mpr c19
        have c19b1 : (t468 != 0) = false := bne_eq_false_iff_eq.mpr c19
        clear c19
        by_cases c20 : t461 ≤ t465
        ·rw [if_pos c20] at H
         have c20b0 : decide (t461 ≤ t465) = true := decide_eq_true c20
         clear c20; obtain rfl := Option.some.inj H
         go_wp2_with (first | ((with_reducible refine gate_callee (f := 19) rfl ?_); refine goesL_ (some 22) rfl rfl Try.func19 (by kernel_rfl) rfl #[.slice A0 l0.length c0] rfl (by (try simp only [List.map_toArray, List.map_cons, List.map_nil]); first | done | rfl | (simp only [List.length_drop, List.length_take]; rfl)) ?_; (with_reducible refine (swarfref38_Nearest.calls kj1 _ _ l0 t453 _ ?side1 ?side2 A11.out).mono ?_); (case side1 => repeat (first | exact (Kd.C_below HR0.out HB.out) | (with_reducible refine Kd.C_alloc ?_ _) | (with_reducible refine Kd.C_drewN ?_ _) | (with_reducible refine Kd.C_drew ?_))); (case side2 => exact HC0.out); rintro e w21 ⟨v454, rfl, ho0, hb⟩; refine ⟨_, rfl, ?_⟩; have n0_ := Aside0.mk (Kd.R_lower ho0 (below_size (by repeat (first | (with_reducible first | exact HB.out | apply below_alloc | apply pw_below_drewN | apply below_drew1) | exact HB.out)))); have n1_ := Aside0.mk (below_step (by repeat (first | (with_reducible first | exact HB.out | apply below_alloc | apply pw_below_drewN | apply below_drew1) | exact HB.out)) hb); clear HB; have HO455 := n0_; have HB := n1_; clear n0_ n1_; (try clear hb); (try clear hb2); (try clear hk); (try clear hi); (try clear ho0); obtain ⟨Ao22, co22, eo22⟩ := Kd.R_slice HO455.out; subst eo22) | ((with_reducible refine gate_callee (f := 26) rfl ?_); refine goesL_ (some 26) rfl rfl Try.func26 (by kernel_rfl) rfl #[.slice A0 l0.length c0, .slice Ao22 t453.length co22] rfl (by (try simp only [List.map_toArray, List.map_cons, List.map_nil]); first | done | rfl | (simp only [List.length_drop, List.length_take]; rfl)) ?_; (with_reducible refine (tour_Improve.calls kj1 _ _ l0 _ _ t453 t456 t457 _ ?side1 ?side2 ?side3 ?side4 A12.out).mono ?_); (case side1 => repeat (first | exact (Kd.C_below HR0.out HB.out) | (with_reducible refine Kd.C_alloc ?_ _) | (with_reducible refine Kd.C_drewN ?_ _) | (with_reducible refine Kd.C_drew ?_))); (case side2 => exact HC0.out); (case side3 => repeat (first | exact (Kd.R_reads' HO455.out).2.2 | (with_reducible refine Kd.C_alloc ?_ _) | (with_reducible refine Kd.C_drewN ?_ _) | (with_reducible refine Kd.C_drew ?_))); (case side4 => exact (Kd.R_reads' HO455.out).2.1); rintro e w23 ⟨v458, rfl, ho0, hb⟩; refine ⟨_, rfl, ?_⟩; have n0_ := Aside0.mk (Kd.R_elder' (by (with_reducible repeat (first | apply Kd.R_alloc | apply Kd.R_drewN | apply Kd.R_drew)); exact HO455.out) (Kd.R_base ho0) hb); have n1_ := Aside0.mk (Kd.R_lower (Kd.R_new' ho0 (Kd.R_lt (by (with_reducible repeat (first | apply Kd.R_alloc | apply Kd.R_drewN | apply Kd.R_drew)); exact HO455.out))) (below_size (by repeat (first | (with_reducible first | exact HB.out | apply below_alloc | apply pw_below_drewN | apply below_drew1) | exact HB.out)))); have n2_ := Aside0.mk (below_step (by repeat (first | (with_reducible first | exact HB.out | apply below_alloc | apply pw_below_drewN | apply below_drew1) | exact HB.out)) hb); clear HO455; clear HB; have HO455 := n0_; have HO459 := n1_; have HB := n2_; clear n0_ n1_ n2_; (try clear hb); (try clear hb2); (try clear hk); (try clear hi); (try clear ho0)) | ((with_reducible refine gate_callee (f := 22) rfl ?_); refine goesL_ (some 31) rfl rfl Try.func22 (by kernel_rfl) rfl #[.slice A0 l0.length c0] rfl (by (try simp only [List.map_toArray, List.map_cons, List.map_nil]); first | done | rfl | (simp only [List.length_drop, List.length_take]; rfl)) ?_; (with_reducible refine (tour_Exact.calls kj1 _ _ l0 t460 t461 t462 _ ?side1 ?side2 A13.out).mono ?_); (case side1 => repeat (first | exact (Kd.C_below HR0.out HB.out) | (with_reducible refine Kd.C_alloc ?_ _) | (with_reducible refine Kd.C_drewN ?_ _) | (with_reducible refine Kd.C_drew ?_))); (case side2 => exact HC0.out); rintro e w24 ⟨v463, rfl, ho0, hb⟩; refine ⟨_, rfl, ?_⟩; have n0_ := Aside0.mk (Kd.R_elder' (by (with_reducible repeat (first | apply Kd.R_alloc | apply Kd.R_drewN | apply Kd.R_drew)); exact HO455.out) (Kd.R_base ho0) hb); have n1_ := Aside0.mk (Kd.R_elder' (by (with_reducible repeat (first | apply Kd.R_alloc | apply Kd.R_drewN | apply Kd.R_drew)); exact HO459.out) (Kd.R_base ho0) hb); have n2_ := Aside0.mk (Kd.R_lower (Kd.R_new' (Kd.R_new' ho0 (Kd.R_lt (by (with_reducible repeat (first | apply Kd.R_alloc | apply Kd.R_drewN | apply Kd.R_drew)); exact HO455.out))) (Kd.R_lt (by (with_reducible repeat (first | apply Kd.R_alloc | apply Kd.R_drewN | apply Kd.R_drew)); exact HO459.out))) (below_size (by repeat (first | (with_reducible first | exact HB.out | apply below_alloc | apply pw_below_drewN | apply below_drew1) | exact HB.out)))); have n3_ := Aside0.mk (below_step (by repeat (first | (with_reducible first | exact HB.out | apply below_alloc | apply pw_below_drewN | apply below_drew1) | exact HB.out)) hb); clear HO455; clear HO459; clear HB; have HO455 := n0_; have HO459 := n1_; have HO464 := n2_; have HB := n3_; clear n0_ n1_ n2_ n3_; (try clear hb); (try clear hb2); (try clear hk); (try clear hi); (try clear ho0); obtain ⟨Ao25, co25, eo25⟩ := Kd.R_slice HO459.out; subst eo25) | ((with_reducible refine gate_callee (f := 12) rfl ?_); refine goesL_ (some 38) rfl rfl Try.func12 (by kernel_rfl) rfl #[.slice A0 l0.length c0, .slice Ao25 t456.length co25] rfl (by (try simp only [List.map_toArray, List.map_cons, List.map_nil]); first | done | rfl | (simp only [List.length_drop, List.length_take]; rfl)) ?_; (with_reducible refine (tour_Length.calls kj1 _ _ l0 _ _ t456 t465 t466 _ ?side1 ?side2 ?side3 ?side4 A14.out).mono ?_); (case side1 => repeat (first | exact (Kd.C_below HR0.out HB.out) | (with_reducible refine Kd.C_alloc ?_ _) | (with_reducible refine Kd.C_drewN ?_ _) | (with_reducible refine Kd.C_drew ?_))); (case side2 => exact HC0.out); (case side3 => repeat (first | exact (Kd.R_reads' HO459.out).2.2 | (with_reducible refine Kd.C_alloc ?_ _) | (with_reducible refine Kd.C_drewN ?_ _) | (with_reducible refine Kd.C_drew ?_))); (case side4 => exact (Kd.R_reads' HO459.out).2.1); rintro e w26 ⟨rfl, hb⟩; refine ⟨_, rfl, ?_⟩; have n0_ := Aside0.mk (Kd.R_below (by (with_reducible repeat (first | apply Kd.R_alloc | apply Kd.R_drewN | apply Kd.R_drew)); exact HO455.out) hb); have n1_ := Aside0.mk (Kd.R_below (by (with_reducible repeat (first | apply Kd.R_alloc | apply Kd.R_drewN | apply Kd.R_drew)); exact HO459.out) hb); have n2_ := Aside0.mk (Kd.R_below (by (with_reducible repeat (first | apply Kd.R_alloc | apply Kd.R_drewN | apply Kd.R_drew)); exact HO464.out) hb); have n3_ := Aside0.mk (below_step (by repeat (first | (with_reducible first | exact HB.out | apply below_alloc | apply pw_below_drewN | apply below_drew1) | exact HB.out)) hb); clear HO455; clear HO459; clear HO464; clear HB; have HO455 := n0_; have HO459 := n1_; have HO464 := n2_; have HB := n3_; clear n0_ n1_ n2_ n3_; (try clear hb); (try clear hb2); (try clear hk); (try clear hi)) | ((with_reducible refine gate_callee (f := 12) rfl ?_); refine goesL_ (some 44) rfl rfl Try.func12 (by kernel_rfl) rfl #[.slice A0 l0.length c0, .slice Ao22 t453.length co22] rfl (by (try simp only [List.map_toArray, List.map_cons, List.map_nil]); first | done | rfl | (simp only [List.length_drop, List.length_take]; rfl)) ?_; (with_reducible refine (tour_Length.calls kj1 _ _ l0 _ _ t453 t467 t468 _ ?side1 ?side2 ?side3 ?side4 A15.out).mono ?_); (case side1 => repeat (first | exact (Kd.C_below HR0.out HB.out) | (with_reducible refine Kd.C_alloc ?_ _) | (with_reducible refine Kd.C_drewN ?_ _) | (with_reducible refine Kd.C_drew ?_))); (case side2 => exact HC0.out); (case side3 => repeat (first | exact (Kd.R_reads' HO455.out).2.2 | (with_reducible refine Kd.C_alloc ?_ _) | (with_reducible refine Kd.C_drewN ?_ _) | (with_reducible refine Kd.C_drew ?_))); (case side4 => exact (Kd.R_reads' HO455.out).2.1); rintro e w27 ⟨rfl, hb⟩; refine ⟨_, rfl, ?_⟩; have n0_ := Aside0.mk (Kd.R_below (by (with_reducible repeat (first | apply Kd.R_alloc | apply Kd.R_drewN | apply Kd.R_drew)); exact HO455.out) hb); have n1_ := Aside0.mk (Kd.R_below (by (with_reducible repeat (first | apply Kd.R_alloc | apply Kd.R_drewN | apply Kd.R_drew)); exact HO459.out) hb); have n2_ := Aside0.mk (Kd.R_below (by (with_reducible repeat (first | apply Kd.R_alloc | apply Kd.R_drewN | apply Kd.R_drew)); exact HO464.out) hb); have n3_ := Aside0.mk (below_step (by repeat (first | (with_reducible first | exact HB.out | apply below_alloc | apply pw_below_drewN | apply below_drew1) | exact HB.out)) hb); clear HO455; clear HO459; clear HO464; clear HB; have HO455 := n0_; have HO459 := n1_; have HO464 := n2_; have HB := n3_; clear n0_ n1_ n2_ n3_; (try clear hb); (try clear hb2); (try clear hk); (try clear hi)))
         go_ret
         exact ⟨by first | rfl | (simp [errW_none, errW_some] <;> rfl) | (simp [*, errW_none, errW_some] <;> rfl), by repeat (first | (with_reducible first | exact HB.out | apply below_alloc | apply pw_below_drewN | apply below_drew1) | exact HB.out)⟩
        ·rw [if_neg c20] at H
         have c20b0 : decide (t461 ≤ t465) = false := decide_eq_false c20
         clear c20
         (rw [HRT.out] at H; exact absurd H (by decide))
       ·rw [if_neg c19] at H
        have c19b0 : (t468 == 0) = false := beq_eq_false_iff_ne.mpr c19
        have c19b1 : (t468 != 0) = true := bne_iff_ne.mpr c19
        (rw [HRT.out] at H; exact absurd H (by decide))
      ·rw [if_neg c18] at H
       have c18b0 : (t466 == 0) = false := beq_eq_false_iff_ne.mpr c18
       have c18b1 : (t466 != 0) = true := bne_iff_ne.mpr c18
       (rw [HRT.out] at H; exact absurd H (by decide))
     ·rw [if_neg c17] at H
      have c17b0 : (t462 == 0) = false := beq_eq_false_iff_ne.mpr c17
      have c17b1 : (t462 != 0) = true := bne_iff_ne.mpr c17
      (rw [HRT.out] at H; exact absurd H (by decide))
    ·rw [if_neg c16] at H
     have c16b0 : (t457 == 0) = false := beq_eq_false_iff_ne.mpr c16
     have c16b1 : (t457 != 0) = true := bne_iff_ne.mpr c16
     (rw [HRT.out] at H; exact absurd H (by decide))
end Go.Proofs.Ytohjocajaanhaaa.P

/- The examples of the chapter hold, told by the printed function. -/

namespace Go.Proofs.Ytohjocajaanhaaa.B
open Go.RowKit Go.Proofs.Ytohjocajaanhaaa.P Go.Proofs.YtohjocajaanhaaaW.PrintWords Go.Proofs.YtohjocajaanhaaaW.PrintLast
theorem awake_ev : Ev (fun k => swarflaw38_awake.f k) true := Ev.of swarflaw38_awake.mono swarflaw38_awake.small
end Go.Proofs.Ytohjocajaanhaaa.B

-- PRINTED by print.py (a twelfth state) out of the translation. Not trusted: Lean checks it.

namespace Go.Proofs.Ytohjocajaanhaaa.P
open Go.RowKit Go.Proofs.YtohjocajaanhaaaW.PrintWords Go.Proofs.YtohjocajaanhaaaW.PrintLast Go.Proofs.YtohjocajaanhaaaW.PrintMore
attribute [local go_sem] max2_int min2_int max_two min_two max_three min_three max_four min_four   -- for this text's walks alone
set_option linter.unusedVariables false
set_option linter.unusedSimpArgs false

/-! ### swarflaw38_few: function 11 -/
def swarflaw38_few.f (l0 : List (S31)) (a1 : Int) : Option (Bool) := if (l0.length : Int) ≤ a1 then (some true) else (if (l0.length : Int) > 199 then (some (decide ((l0.length : Int) < 203))) else (some false))
set_option maxHeartbeats 8000000 in
set_option maxRecDepth 100000 in
theorem swarflaw38_few.calls (A0 : Option Addr) (c0 : Nat) (l0 : List (S31)) (a1 : Int) (r : Bool) (w : World) (hr0 : Kd.C k31 w A0 l0.length l0) (hc0 : l0.length ≤ c0) (h : swarflaw38_few.f l0 a1 = some r) :
  Calls Try.prog 11 #[.slice A0 l0.length c0, .int .i64 a1] w fun e w' => e = .returned (.bool r) ∧ Drawn0 w w' := by
 have HR0 := Aside0.mk hr0
 have HC0 := Aside0.mk hc0
 clear hr0 hc0
 have H : (if (l0.length : Int) ≤ a1 then (some true) else (if (l0.length : Int) > 199 then (some (decide ((l0.length : Int) < 203))) else (some false))) = some r := h
 clear h
 by_cases c3 : (l0.length : Int) ≤ a1
 ·rw [if_pos c3] at H
  have c3b0 : decide ((l0.length : Int) ≤ a1) = true := decide_eq_true c3
  clear c3; obtain rfl := Option.some.inj H
  go_enter Try.func11, Try.ntmps11
  go_wp2; go_ret
  exact ⟨by first | rfl | (simp; done) | (simp [*]; done), by repeat (first | exact Drawn0.refl _ | apply Drawn0.step)⟩
 ·rw [if_neg c3] at H
  have c3b0 : decide ((l0.length : Int) ≤ a1) = false := decide_eq_false c3
  clear c3
  by_cases c4 : (l0.length : Int) > 199
  ·rw [if_pos c4] at H
   have c4b0 : decide (199 < (l0.length : Int)) = true := decide_eq_true c4
   have c4b1 : decide (199 < l0.length) = true := decide_eq_true (by omega)
   clear c4; obtain rfl := Option.some.inj H
   go_enter Try.func11, Try.ntmps11
   go_wp2; go_ret
   exact ⟨by first | rfl | (simp; done) | (simp [*]; done), by repeat (first | exact Drawn0.refl _ | apply Drawn0.step)⟩
  ·rw [if_neg c4] at H
   have c4b0 : decide (199 < (l0.length : Int)) = false := decide_eq_false c4
   have c4b1 : decide (199 < l0.length) = false := decide_eq_false (by omega)
   clear c4; obtain rfl := Option.some.inj H
   go_enter Try.func11, Try.ntmps11
   go_wp2; go_ret
   exact ⟨by first | rfl | (simp; done) | (simp [*]; done), by repeat (first | exact Drawn0.refl _ | apply Drawn0.step)⟩

end Go.Proofs.Ytohjocajaanhaaa.P

-- PRINTED by print.py (a twelfth state) out of the translation. Not trusted: Lean checks it.

namespace Go.Proofs.Ytohjocajaanhaaa.P
open Go.RowKit Go.Proofs.YtohjocajaanhaaaW.PrintWords Go.Proofs.YtohjocajaanhaaaW.PrintLast Go.Proofs.YtohjocajaanhaaaW.PrintMore
attribute [local go_sem] max2_int min2_int max_two min_two max_three min_three max_four min_four   -- for this text's walks alone
set_option linter.unusedVariables false
set_option linter.unusedSimpArgs false

/-! ### swarfref38_Order: function 32 -/
mutual
def swarfref38_Order.j0 : Nat → Int → List Int → Bool → Option (Bool)
 | 0, _, _, _ => none
 | k + 1, x0, x1, x20 => if x20 = true then (some false) else (if 0 ≤ x0 then (if (x0 : Int).toNat ≤ 281474976710656 then (swarfref38_Order.l0 k x0 x1 (List.replicate (x0 : Int).toNat false) 0) else (none)) else (none))
def swarfref38_Order.l0 : Nat → Int → List Int → List Bool → Int → Option (Bool)
 | 0, _, _, _, _ => none
 | k + 1, x0, x1, x5, x6 => if x6 < x0 then (if 0 ≤ x6 then (if x6 < (x1.length : Int) then (if (rd x1 x6) < 0 then (some false) else (if (rd x1 x6) ≥ x0 then (some false) else (if 0 ≤ (rd x1 x6) then (if (rd x1 x6) < (x5.length : Int) then (if rdOf false x5 (rd x1 x6) = true then (some false) else (swarfref38_Order.l0 k x0 x1 (x5.set ((rd x1 x6) : Int).toNat true) (wrap64 (x6 + 1)))) else (none)) else (none)))) else (none)) else (none)) else (some true)
end
def swarfref38_Order.f (k : Nat) (a0 : Int) (l1 : List Int) : Option (Bool) := if (l1.length : Int) = a0 then (if a0 > 0 then (if 0 < (l1.length : Int) then (swarfref38_Order.j0 k a0 l1 ((rd l1 0) != 0)) else (none)) else (swarfref38_Order.j0 k a0 l1 false)) else (swarfref38_Order.j0 k a0 l1 true)
theorem swarfref38_Order.mono_l : ∀ k, (∀ y0 y1 y2, LeO (swarfref38_Order.j0 k y0 y1 y2) (swarfref38_Order.j0 (k + 1) y0 y1 y2)) ∧ (∀ y0 y1 y2 y3, LeO (swarfref38_Order.l0 k y0 y1 y2 y3) (swarfref38_Order.l0 (k + 1) y0 y1 y2 y3))
 | 0 => ⟨fun _ _ _ r h => by simp [swarfref38_Order.j0] at h, fun _ _ _ _ r h => by simp [swarfref38_Order.l0] at h⟩
 | k + 1 => by
  obtain ⟨ih0, ih1⟩ := swarfref38_Order.mono_l k
  refine ⟨?_, ?_⟩
  ·intro y0 y1 y2
   unfold swarfref38_Order.j0
   repeat' first
   | (with_reducible exact ih0 _ _ _)
   | (with_reducible exact ih1 _ _ _ _)
   | (with_reducible exact LeO.refl _)
   | (with_reducible exact LeO.none _)
   | (with_reducible refine LeO.ite ?_ ?_)
   | (with_reducible refine LeO.bind ?_ (fun _ => ?_))
   | exact ih0 _ _ _
   | exact ih1 _ _ _ _
   | exact LeO.none _
   | refine LeO.ite ?_ ?_
   | refine LeO.bind ?_ (fun _ => ?_)
  ·intro y0 y1 y2 y3
   unfold swarfref38_Order.l0
   repeat' first
   | (with_reducible exact ih0 _ _ _)
   | (with_reducible exact ih1 _ _ _ _)
   | (with_reducible exact LeO.refl _)
   | (with_reducible exact LeO.none _)
   | (with_reducible refine LeO.ite ?_ ?_)
   | (with_reducible refine LeO.bind ?_ (fun _ => ?_))
   | exact ih0 _ _ _
   | exact ih1 _ _ _ _
   | exact LeO.none _
   | refine LeO.ite ?_ ?_
   | refine LeO.bind ?_ (fun _ => ?_)
theorem swarfref38_Order.mono : ∀ a0 a1 k, LeO (swarfref38_Order.f k a0 a1) (swarfref38_Order.f (k + 1) a0 a1) := by
 intro a0 a1 k
 obtain ⟨ih0, ih1⟩ := swarfref38_Order.mono_l k
 unfold swarfref38_Order.f
 repeat' first
   | (with_reducible exact ih0 _ _ _)
   | (with_reducible exact ih1 _ _ _ _)
   | (with_reducible exact LeO.refl _)
   | (with_reducible exact LeO.none _)
   | (with_reducible refine LeO.ite ?_ ?_)
   | (with_reducible refine LeO.bind ?_ (fun _ => ?_))
   | exact ih0 _ _ _
   | exact ih1 _ _ _ _
   | exact LeO.none _
   | refine LeO.ite ?_ ?_
   | refine LeO.bind ?_ (fun _ => ?_)
set_option maxHeartbeats 8000000 in
set_option maxRecDepth 100000 in
theorem swarfref38_Order.calls (k : Nat) (a0 : Int) (A1 : Option Addr) (c1 : Nat) (l1 : List Int) (r : Bool) (w : World) (hr1 : Kd.C (Kd.int .i64) w A1 l1.length l1) (hc1 : l1.length ≤ c1) (h : swarfref38_Order.f k a0 l1 = some r) :
  Calls Try.prog 32 #[.int .i64 a0, .slice A1 l1.length c1] w fun e w' => e = .returned (.bool r) ∧ Below w.heap.size w w' := by
 have HR1 := Aside0.mk hr1
 have HC1 := Aside0.mk hc1
 clear hr1 hc1
 have HB := Aside0.mk (Below.refl w.heap.size w)
 have H : (if (l1.length : Int) = a0 then (if a0 > 0 then (if 0 < (l1.length : Int) then (swarfref38_Order.j0 k a0 l1 ((rd l1 0) != 0)) else (none)) else (swarfref38_Order.j0 k a0 l1 false)) else (swarfref38_Order.j0 k a0 l1 true)) = some r := h
 clear h
 have HC3 := Aside0.mk H
 clear H
 go_enter Try.func32, Try.ntmps32
 go_upto_region 1 with (fail)
 go_cut [20] (fun v20 wc => ∃ (kq : Nat) (x20_2 : Bool), v20 = .bool x20_2 ∧ Aside0 (swarfref38_Order.j0 kq a0 l1 x20_2 = some r) ∧ Aside0 (kq ≤ k) ∧ Aside0 (Below w.heap.size w wc))
 case first =>
  have H := HC3.out
  clear HC3
  by_cases c4 : (l1.length : Int) = a0
  ·rw [if_pos c4] at H
   have c4b0 : ((l1.length : Int) == a0) = true := beq_iff_eq.mpr c4
   have c4b1 : ((l1.length : Int) != a0) = false := bne_eq_false_iff_eq.mpr c4
   clear c4
   (first | rw [c4b0] | (simp only [i64_w, i32_w]; rw [c4b0]) | skip)
   by_cases c5 : a0 > 0
   ·rw [if_pos c5] at H
    have c5b0 : decide (0 < a0) = true := decide_eq_true c5
    clear c5
    by_cases c6 : 0 < (l1.length : Int)
    ·rw [if_pos c6] at H
     have c6b0 : decide (0 < (l1.length : Int)) = true := decide_eq_true c6
     have c6b1 : decide (0 < l1.length) = true := decide_eq_true (by omega)
     clear c6; have H' := Aside0.mk H; clear H
     have p236 : 0 ≤ (0 : Int) := (by omega)
     have q236 : 0 < (l1.length : Int) := of_decide_eq_true (by first | (with_reducible assumption) | assumption)
     obtain ⟨ad236, e236, hx236_0⟩ := Kd.at_int HR1.out 0 p236 q236
     cases e236
     have qi236 : (0 < l1.length) = True := eq_true (by omega)
     (try rw [show ((0 : Int)).toNat = 0 from rfl] at hx236_0)
     (try rw [Addr.add_zero'] at hx236_0)
     replace hx236_0 := (HB.out.cell (World.block_lt_of_cell? w _ hx236_0)).trans hx236_0
     replace p236 := eq_true p236; replace q236 := eq_true q236; go_wp2
     go_meet
     case rel => exact ⟨_, (((rd l1 0) != 0)), (by first | rfl | (simp; done) | (simp [*]; done)), H', ⟨by first | omega | exact Nat.le_refl _⟩, ⟨by repeat (first | (with_reducible first | exact HB.out | apply below_alloc | apply pw_below_drewN | apply below_drew1) | exact HB.out)⟩⟩
    ·rw [if_neg c6] at H
     exact absurd H (by simp)
   ·rw [if_neg c5] at H
    have c5b0 : decide (0 < a0) = false := decide_eq_false c5
    clear c5; have H' := Aside0.mk H; clear H; go_wp2
    go_meet
    case rel => exact ⟨_, (false), (by first | rfl | (simp; done) | (simp [*]; done)), H', ⟨by first | omega | exact Nat.le_refl _⟩, ⟨by repeat (first | (with_reducible first | exact HB.out | apply below_alloc | apply pw_below_drewN | apply below_drew1) | exact HB.out)⟩⟩
  ·rw [if_neg c4] at H
   have c4b0 : ((l1.length : Int) == a0) = false := beq_eq_false_iff_ne.mpr c4
   have c4b1 : ((l1.length : Int) != a0) = true := bne_iff_ne.mpr c4
   (first | rw [c4b0] | (simp only [i64_w, i32_w]; rw [c4b0]) | skip)
   have H' := Aside0.mk H; clear H; go_wp2
   go_meet
   case rel => exact ⟨_, (true), (by first | rfl | (simp; done) | (simp [*]; done)), H', ⟨by first | omega | exact Nat.le_refl _⟩, ⟨by repeat (first | (with_reducible first | exact HB.out | apply below_alloc | apply pw_below_drewN | apply below_drew1) | exact HB.out)⟩⟩
 case rest =>
  clear HC3; try clear c1; try clear p2; try clear q2; try clear hx2; try clear qi2; try clear c3; try clear c4; try clear c4b0; try clear c4b1; try clear c5; try clear c5b0; try clear c6; try clear c6b0; try clear c6b1; try clear hx236_0; try clear p236; try clear q236
  obtain ⟨kq, x20_2, rfl, HA, HJ2, HB⟩ := hcut
  cases kq with
  | zero => exact absurd HA.out (by simp [swarfref38_Order.j0])
  | succ kj2 =>
   have H := HA.out
   clear HA
   simp only [swarfref38_Order.j0] at H
   by_cases c7 : x20_2 = true
   ·subst c7
    have H1 : (some false) = some r := by rw [if_pos rfl] at H; exact H
    clear H; have H := H1; clear H1; obtain rfl := Option.some.inj H; go_wp2; go_ret
    exact ⟨by first | rfl | (simp [errW_none, errW_some] <;> rfl) | (simp [*, errW_none, errW_some] <;> rfl), by repeat (first | (with_reducible first | exact HB.out | apply below_alloc | apply pw_below_drewN | apply below_drew1) | exact HB.out)⟩
   ·replace c7 := Bool.eq_false_iff.mpr c7
    subst c7
    have H1 : (if 0 ≤ a0 then (if (a0 : Int).toNat ≤ 281474976710656 then (swarfref38_Order.l0 kj2 a0 l1 (List.replicate (a0 : Int).toNat false) 0) else (none)) else (none)) = some r := by rw [if_neg (show ¬ (false = true) by decide)] at H; exact H
    clear H; have H := H1; clear H1
    by_cases c8 : 0 ≤ a0
    ·rw [if_pos c8] at H
     have c8b0 := eq_true c8
     have c8b1 : decide (0 ≤ a0) = true := decide_eq_true c8
     clear c8
     by_cases c9 : (a0 : Int).toNat ≤ 281474976710656
     ·rw [if_pos c9] at H
      have c9b0 := eq_true c9
      have c9b1 : decide ((a0 : Int).toNat ≤ 281474976710656) = true := decide_eq_true c9
      clear c9
      obtain ⟨y237, hy237⟩ : ∃ y_ : List Bool, y_ = (List.replicate (a0 : Int).toNat false) := ⟨_, rfl⟩
      replace H : (swarfref38_Order.l0 kj2 a0 l1 y237 0) = some r := by first | (rw [hy237]; with_reducible exact H) | (have H2_ := (Option.bind_some _ _).symm.trans H; rw [hy237]; with_reducible exact H2_) | (have H2_ := (Option.bind_some _ _).symm.trans H; with_reducible exact H2_) | with_reducible exact H | (rw [hy237]; exact H) | exact H
      have Ny237 := Aside0.mk hy237; clear hy237; have H' := Aside0.mk H; clear H
      go_wp2_with (first | ((with_reducible refine gate_dst (N := 22) rfl ?_); refine Kd.R_make Kd.bool _ 4 rfl (N := 22) rfl 49 _ _ rfl a0 rfl rfl Try.underlying49 (.bool false) 1 info4 rfl (by decide) (by omega) false (ok := fun _ => True) (okp := fun _ => True) rfl (fun _ hk => hk) trivial (of_decide_eq_true (by first | (with_reducible assumption) | assumption)) (Nat.le_trans (Nat.mul_le_mul_right _ (of_decide_eq_true (by first | (with_reducible assumption) | assumption) : a0.toNat ≤ 281474976710656)) (by omega)) (Below.refl _ _) (Nat.le_refl _) ?_; intro v238 w10 ho11 hb hg_ hnew_; clear hg_ hnew_; (first | rw [← Ny237.out] at ho11 | (simp only [Int.reduceToNat] at ho11; rw [← Ny237.out] at ho11)); have n0_ := Aside0.mk (Kd.R_lower ho11 (below_size (by repeat (first | (with_reducible first | exact HB.out | apply below_alloc | apply pw_below_drewN | apply below_drew1) | exact HB.out)))); have n1_ := Aside0.mk (below_step (by repeat (first | (with_reducible first | exact HB.out | apply below_alloc | apply pw_below_drewN | apply below_drew1) | exact HB.out)) hb); clear HB; have HO239 := n0_; have HB := n1_; clear n0_ n1_; clear hb ho11))
      go_loopg [6] kj2 (fun kq v6 w' => ∃ (x5_2 : List Bool) (x6_2 : Int), v6 = .int .i64 x6_2 ∧ Aside0 (swarfref38_Order.l0 kq a0 l1 x5_2 x6_2 = some r) ∧ Aside0 (kq ≤ kj2) ∧ Aside0 (Kd.R Kd.bool 4 w' w.heap.size (fun _ => True) v238 x5_2) ∧ Aside0 (Below w.heap.size w w'))
      case atStart => exact ⟨(y237), (0), (by first | rfl | (simp; done) | (simp [*]; done)), H', ⟨Nat.le_refl _⟩, ⟨by (with_reducible repeat (first | apply Kd.R_alloc | apply Kd.R_drewN | apply Kd.R_drew)); exact HO239.out⟩, ⟨by repeat (first | (with_reducible first | exact HB.out | apply below_alloc | apply pw_below_drewN | apply below_drew1) | exact HB.out)⟩⟩
      case round =>
       clear H'; try clear c1; try clear p2; try clear q2; try clear hx2; try clear qi2; try clear c3; try clear c4; try clear c4b0; try clear c4b1; try clear c5; try clear c5b0; try clear c6; try clear c6b0; try clear c6b1; try clear c7; try clear c8; try clear c8b0; try clear c8b1; try clear c9; try clear c9b0; try clear c9b1; try clear hx236_0; try clear p2; try clear p236; try clear q2; try clear q236
       obtain ⟨x5_2, x6_2, rfl, HA, HK2, HO_5, HB⟩ := hrel
       cases gk with
       | zero => exact absurd HA.out (by simp [swarfref38_Order.l0])
       | succ k2 =>
        have H := HA.out
        clear HA
        simp only [swarfref38_Order.l0] at H
        by_cases c12 : x6_2 < a0
        ·rw [if_pos c12] at H
         have c12b0 : decide (x6_2 < a0) = true := decide_eq_true c12
         clear c12
         by_cases c13 : 0 ≤ x6_2
         ·rw [if_pos c13] at H
          have c13b0 : decide (0 ≤ x6_2) = true := decide_eq_true c13
          clear c13
          by_cases c14 : x6_2 < (l1.length : Int)
          ·rw [if_pos c14] at H
           have c14b0 : decide (x6_2 < (l1.length : Int)) = true := decide_eq_true c14
           clear c14
           by_cases c15 : (rd l1 x6_2) < 0
           ·rw [if_pos c15] at H
            have c15b0 : decide ((rd l1 x6_2) < 0) = true := decide_eq_true c15
            clear c15; obtain rfl := Option.some.inj H
            have p240 : 0 ≤ (x6_2 : Int) := of_decide_eq_true (by first | (with_reducible assumption) | assumption)
            have q240 : x6_2 < (l1.length : Int) := of_decide_eq_true (by first | (with_reducible assumption) | assumption)
            obtain ⟨ad240, e240, hx240_0⟩ := Kd.at_int HR1.out x6_2 p240 q240
            cases e240
            replace hx240_0 := (HB.out.cell (World.block_lt_of_cell? w _ hx240_0)).trans hx240_0
            replace p240 := eq_true p240; replace q240 := eq_true q240; go_wp2; go_ret
            exact ⟨by first | rfl | (simp [errW_none, errW_some] <;> rfl) | (simp [*, errW_none, errW_some] <;> rfl), by repeat (first | (with_reducible first | exact HB.out | apply below_alloc | apply pw_below_drewN | apply below_drew1) | exact HB.out)⟩
           ·rw [if_neg c15] at H
            have c15b0 : decide ((rd l1 x6_2) < 0) = false := decide_eq_false c15
            clear c15
            by_cases c16 : (rd l1 x6_2) ≥ a0
            ·rw [if_pos c16] at H
             have c16b0 : decide (a0 ≤ (rd l1 x6_2)) = true := decide_eq_true c16
             clear c16; obtain rfl := Option.some.inj H
             have p240 : 0 ≤ (x6_2 : Int) := of_decide_eq_true (by first | (with_reducible assumption) | assumption)
             have q240 : x6_2 < (l1.length : Int) := of_decide_eq_true (by first | (with_reducible assumption) | assumption)
             obtain ⟨ad240, e240, hx240_0⟩ := Kd.at_int HR1.out x6_2 p240 q240
             cases e240
             replace hx240_0 := (HB.out.cell (World.block_lt_of_cell? w _ hx240_0)).trans hx240_0
             replace p240 := eq_true p240; replace q240 := eq_true q240
             have p241 : 0 ≤ (x6_2 : Int) := of_decide_eq_true (by first | (with_reducible assumption) | assumption)
             have q241 : x6_2 < (l1.length : Int) := of_decide_eq_true (by first | (with_reducible assumption) | assumption)
             obtain ⟨ad241, e241, hx241_0⟩ := Kd.at_int HR1.out x6_2 p241 q241
             obtain rfl : ad240 = ad241 := (by injection e241)
             replace hx241_0 := (HB.out.cell (World.block_lt_of_cell? w _ hx241_0)).trans hx241_0
             replace p241 := eq_true p241; replace q241 := eq_true q241; go_wp2; go_ret
             exact ⟨by first | rfl | (simp [errW_none, errW_some] <;> rfl) | (simp [*, errW_none, errW_some] <;> rfl), by repeat (first | (with_reducible first | exact HB.out | apply below_alloc | apply pw_below_drewN | apply below_drew1) | exact HB.out)⟩
            ·rw [if_neg c16] at H
             have c16b0 : decide (a0 ≤ (rd l1 x6_2)) = false := decide_eq_false c16
             clear c16
             by_cases c17 : 0 ≤ (rd l1 x6_2)
             ·rw [if_pos c17] at H
              have c17b0 : decide (0 ≤ (rd l1 x6_2)) = true := decide_eq_true c17
              clear c17
              by_cases c18 : (rd l1 x6_2) < (x5_2.length : Int)
              ·rw [if_pos c18] at H
               have c18b0 : decide ((rd l1 x6_2) < (x5_2.length : Int)) = true := decide_eq_true c18
               clear c18
               obtain ⟨bq19, hbq19⟩ : ∃ b_ : Bool, b_ = (rdOf false x5_2 (rd l1 x6_2)) := ⟨_, rfl⟩
               replace H : (if bq19 = true then (some false) else (swarfref38_Order.l0 k2 a0 l1 (x5_2.set ((rd l1 x6_2) : Int).toNat true) (wrap64 (x6_2 + 1)))) = some r := by rw [← hbq19] at H; exact H
               have Nbq19 := Aside0.mk hbq19; clear hbq19
               by_cases c20 : bq19 = true
               ·subst c20
                have H1 : (some false) = some r := by rw [if_pos rfl] at H; exact H
                clear H; have H := H1; clear H1; obtain rfl := Option.some.inj H
                have p240 : 0 ≤ (x6_2 : Int) := of_decide_eq_true (by first | (with_reducible assumption) | assumption)
                have q240 : x6_2 < (l1.length : Int) := of_decide_eq_true (by first | (with_reducible assumption) | assumption)
                obtain ⟨ad240, e240, hx240_0⟩ := Kd.at_int HR1.out x6_2 p240 q240
                cases e240
                replace hx240_0 := (HB.out.cell (World.block_lt_of_cell? w _ hx240_0)).trans hx240_0
                replace p240 := eq_true p240; replace q240 := eq_true q240
                have p241 : 0 ≤ (x6_2 : Int) := of_decide_eq_true (by first | (with_reducible assumption) | assumption)
                have q241 : x6_2 < (l1.length : Int) := of_decide_eq_true (by first | (with_reducible assumption) | assumption)
                obtain ⟨ad241, e241, hx241_0⟩ := Kd.at_int HR1.out x6_2 p241 q241
                obtain rfl : ad240 = ad241 := (by injection e241)
                replace hx241_0 := (HB.out.cell (World.block_lt_of_cell? w _ hx241_0)).trans hx241_0
                replace p241 := eq_true p241; replace q241 := eq_true q241
                have p242 : 0 ≤ (x6_2 : Int) := of_decide_eq_true (by first | (with_reducible assumption) | assumption)
                have q242 : x6_2 < (l1.length : Int) := of_decide_eq_true (by first | (with_reducible assumption) | assumption)
                obtain ⟨ad242, e242, hx242_0⟩ := Kd.at_int HR1.out x6_2 p242 q242
                obtain rfl : ad240 = ad242 := (by injection e242)
                replace hx242_0 := (HB.out.cell (World.block_lt_of_cell? w _ hx242_0)).trans hx242_0
                replace p242 := eq_true p242; replace q242 := eq_true q242
                obtain ⟨Ao21, co21, eo21⟩ := Kd.R_slice HO_5.out
                subst eo21
                have p243 : 0 ≤ ((rd l1 x6_2) : Int) := of_decide_eq_true (by first | (with_reducible assumption) | assumption)
                have q243 : (rd l1 x6_2) < (x5_2.length : Int) := of_decide_eq_true (by first | (with_reducible assumption) | assumption)
                obtain ⟨ad243, e243, hx243_0⟩ := Kd.at_bool (Kd.R_reads' HO_5.out).2.2 (rd l1 x6_2) p243 q243
                (try rw [← Nbq19.out] at hx243_0)
                cases e243; replace p243 := eq_true p243; replace q243 := eq_true q243; go_wp2; go_ret
                exact ⟨by first | rfl | (simp [errW_none, errW_some] <;> rfl) | (simp [*, errW_none, errW_some] <;> rfl), by repeat (first | (with_reducible first | exact HB.out | apply below_alloc | apply pw_below_drewN | apply below_drew1) | exact HB.out)⟩
               ·replace c20 := Bool.eq_false_iff.mpr c20
                subst c20
                have H1 : (swarfref38_Order.l0 k2 a0 l1 (x5_2.set ((rd l1 x6_2) : Int).toNat true) (wrap64 (x6_2 + 1))) = some r := by rw [if_neg (show ¬ (false = true) by decide)] at H; exact H
                clear H; have H := H1; clear H1
                obtain ⟨y245, hy245⟩ : ∃ y_ : List Bool, y_ = (x5_2.set ((rd l1 x6_2) : Int).toNat true) := ⟨_, rfl⟩
                replace H : (swarfref38_Order.l0 k2 a0 l1 y245 (wrap64 (x6_2 + 1))) = some r := by first | (rw [hy245]; with_reducible exact H) | (have H2_ := (Option.bind_some _ _).symm.trans H; rw [hy245]; with_reducible exact H2_) | (have H2_ := (Option.bind_some _ _).symm.trans H; with_reducible exact H2_) | with_reducible exact H | (rw [hy245]; exact H) | exact H
                have Ny245 := Aside0.mk hy245; clear hy245; have H' := Aside0.mk H; clear H
                have p240 : 0 ≤ (x6_2 : Int) := of_decide_eq_true (by first | (with_reducible assumption) | assumption)
                have q240 : x6_2 < (l1.length : Int) := of_decide_eq_true (by first | (with_reducible assumption) | assumption)
                obtain ⟨ad240, e240, hx240_0⟩ := Kd.at_int HR1.out x6_2 p240 q240
                cases e240
                replace hx240_0 := (HB.out.cell (World.block_lt_of_cell? w _ hx240_0)).trans hx240_0
                replace p240 := eq_true p240; replace q240 := eq_true q240
                have p241 : 0 ≤ (x6_2 : Int) := of_decide_eq_true (by first | (with_reducible assumption) | assumption)
                have q241 : x6_2 < (l1.length : Int) := of_decide_eq_true (by first | (with_reducible assumption) | assumption)
                obtain ⟨ad241, e241, hx241_0⟩ := Kd.at_int HR1.out x6_2 p241 q241
                obtain rfl : ad240 = ad241 := (by injection e241)
                replace hx241_0 := (HB.out.cell (World.block_lt_of_cell? w _ hx241_0)).trans hx241_0
                replace p241 := eq_true p241; replace q241 := eq_true q241
                have p242 : 0 ≤ (x6_2 : Int) := of_decide_eq_true (by first | (with_reducible assumption) | assumption)
                have q242 : x6_2 < (l1.length : Int) := of_decide_eq_true (by first | (with_reducible assumption) | assumption)
                obtain ⟨ad242, e242, hx242_0⟩ := Kd.at_int HR1.out x6_2 p242 q242
                obtain rfl : ad240 = ad242 := (by injection e242)
                replace hx242_0 := (HB.out.cell (World.block_lt_of_cell? w _ hx242_0)).trans hx242_0
                replace p242 := eq_true p242; replace q242 := eq_true q242
                obtain ⟨Ao23, co23, eo23⟩ := Kd.R_slice HO_5.out
                subst eo23
                have p243 : 0 ≤ ((rd l1 x6_2) : Int) := of_decide_eq_true (by first | (with_reducible assumption) | assumption)
                have q243 : (rd l1 x6_2) < (x5_2.length : Int) := of_decide_eq_true (by first | (with_reducible assumption) | assumption)
                obtain ⟨ad243, e243, hx243_0⟩ := Kd.at_bool (Kd.R_reads' HO_5.out).2.2 (rd l1 x6_2) p243 q243
                (try rw [← Nbq19.out] at hx243_0)
                cases e243; replace p243 := eq_true p243; replace q243 := eq_true q243
                have p244 : 0 ≤ (x6_2 : Int) := of_decide_eq_true (by first | (with_reducible assumption) | assumption)
                have q244 : x6_2 < (l1.length : Int) := of_decide_eq_true (by first | (with_reducible assumption) | assumption)
                obtain ⟨ad244, e244, hx244_0⟩ := Kd.at_int HR1.out x6_2 p244 q244
                obtain rfl : ad240 = ad244 := (by injection e244)
                replace hx244_0 := (HB.out.cell (World.block_lt_of_cell? w _ hx244_0)).trans hx244_0
                replace p244 := eq_true p244; replace q244 := eq_true q244
                have p22 : 0 ≤ ((rd l1 x6_2) : Int) := of_decide_eq_true (by first | (with_reducible assumption) | assumption)
                have q22 : ((rd l1 x6_2) : Int) < ((x5_2.length : Int) : Int) := of_decide_eq_true (by first | (with_reducible assumption) | assumption)
                obtain ⟨go22, co22, eo22, gb22, gl22, cl22, HG22⟩ := Kd.R_form HO_5.out (by omega)
                (first | cases eo22 | (injection eo22 with ea_ en_ ec_; (first | subst ea_ | (injection ea_ with ea_; subst ea_)); subst ec_; clear en_))
                have GB22 := Aside0.mk gb22; have GG22 := Aside0.mk HG22; clear gb22 gl22 HG22
                (first | simp only [add_plain] at hx243_0 | skip)
                obtain ⟨hx22_0, hf22_0⟩ := Kd.R_celln false HO_5.out ((rd l1 x6_2) : Int) p22 q22
                replace p22 := eq_true p22; replace q22 := eq_true q22
                have HP24 := Kd.R_putg HO_5.out ((rd l1 x6_2) : Int) true
                go_wp2_with (first | ((with_reducible refine gate_store (t := 4) (p := 55) rfl ?_); refine store_event (t := 4) (p := 55) (v := ?vo_w25) (w1 := (wr.setCell ⟨go22, ((rd l1 x6_2) : Int).toNat, none⟩ (.bool true))) ?hg ?ho ?hn ?hr ?_; (case ho => rfl); (case hg => rfl); (case hn => rfl); (case hr => first | (go_simp; done) | (go_simp; rfl)); intro w25 hw; have hg : wr.grownBy w25 (some go22) := (by rw [hw]; exact HP24.2); have hp_ : Kd.R Kd.bool 4 w25 w.heap.size (fun _ => True) (.slice (some ⟨go22, 0, none⟩) x5_2.length co23) y245 := (by rw [hw, Ny245.out]; exact HP24.1); clear HP24; have n0_ := Aside0.mk (hp_); have n1_ := Aside0.mk ((by rw [hw]; exact below_set (HB.out) GB22.out : Below w.heap.size w w25)); clear HO_5; clear HB; have HO_5 := n0_; have HB := n1_; clear n0_ n1_; clear hg hw hp_))
                go_roundg k2
                case measure => have := HJ2.out; have := HK2.out; omega
                case rel => exact ⟨(y245), (wrap64 (x6_2 + 1)), (by first | rfl | (simp; done) | (simp [*]; done)), H', ⟨by have := HJ2.out; have := HK2.out; omega⟩, ⟨by (with_reducible repeat (first | apply Kd.R_alloc | apply Kd.R_drewN | apply Kd.R_drew)); exact HO_5.out⟩, ⟨by repeat (first | (with_reducible first | exact HB.out | apply below_alloc | apply pw_below_drewN | apply below_drew1) | exact HB.out)⟩⟩
              ·rw [if_neg c18] at H
               exact absurd H (by simp)
             ·rw [if_neg c17] at H
              exact absurd H (by simp)
          ·rw [if_neg c14] at H
           exact absurd H (by simp)
         ·rw [if_neg c13] at H
          exact absurd H (by simp)
        ·rw [if_neg c12] at H
         have c12b0 : decide (x6_2 < a0) = false := decide_eq_false c12
         clear c12; obtain rfl := Option.some.inj H; go_wp2; go_ret
         exact ⟨by first | rfl | (simp [errW_none, errW_some] <;> rfl) | (simp [*, errW_none, errW_some] <;> rfl), by repeat (first | (with_reducible first | exact HB.out | apply below_alloc | apply pw_below_drewN | apply below_drew1) | exact HB.out)⟩
     ·rw [if_neg c9] at H
      exact absurd H (by simp)
    ·rw [if_neg c8] at H
     exact absurd H (by simp)

end Go.Proofs.Ytohjocajaanhaaa.P

-- PRINTED by print.py (a twelfth state) out of the translation. Not trusted: Lean checks it.

namespace Go.Proofs.Ytohjocajaanhaaa.P
open Go.RowKit Go.Proofs.YtohjocajaanhaaaW.PrintWords Go.Proofs.YtohjocajaanhaaaW.PrintLast Go.Proofs.YtohjocajaanhaaaW.PrintMore
attribute [local go_sem] max2_int min2_int max_two min_two max_three min_three max_four min_four   -- for this text's walks alone
set_option linter.unusedVariables false
set_option linter.unusedSimpArgs false

/-! ### swarfref38_way: function 33 -/
def swarfref38_way.l0 : Nat → List (S31) → List Int → Int → Int → Option (Int)
 | 0, _, _, _, _ => none
 | k + 1, x0, x1, x5, x6 => if x6 < (x1.length : Int) then (if 0 ≤ (wrap64 (x6 - 1)) then (if (wrap64 (x6 - 1)) < (x1.length : Int) then (if 0 ≤ (rd x1 (wrap64 (x6 - 1))) then (if (rd x1 (wrap64 (x6 - 1))) < (x0.length : Int) then (if 0 ≤ x6 then (if 0 ≤ (rd x1 x6) then (if (rd x1 x6) < (x0.length : Int) then ((swarfref38_Distance.f ((rd_T31 x0 (rd x1 (wrap64 (x6 - 1)))).f0) ((rd_T31 x0 (rd x1 (wrap64 (x6 - 1)))).f1) ((rd_T31 x0 (rd x1 x6)).f0) ((rd_T31 x0 (rd x1 x6)).f1)).bind fun t254 => (swarfref38_way.l0 k x0 x1 (wrap64 (x5 + t254)) (wrap64 (x6 + 1)))) else (none)) else (none)) else (none)) else (none)) else (none)) else (none)) else (none)) else (some x5)
def swarfref38_way.f (k : Nat) (l0 : List (S31)) (l1 : List Int) : Option (Int) := swarfref38_way.l0 k l0 l1 0 1
theorem swarfref38_way.mono_l : ∀ k, (∀ y0 y1 y2 y3, LeO (swarfref38_way.l0 k y0 y1 y2 y3) (swarfref38_way.l0 (k + 1) y0 y1 y2 y3))
 | 0 => fun _ _ _ _ r h => by simp [swarfref38_way.l0] at h
 | k + 1 => by
  have ih0 := swarfref38_way.mono_l k
  ·intro y0 y1 y2 y3
   unfold swarfref38_way.l0
   repeat' first
   | (with_reducible exact ih0 _ _ _ _)
   | (with_reducible exact LeO.refl _)
   | (with_reducible exact LeO.none _)
   | (with_reducible refine LeO.ite ?_ ?_)
   | (with_reducible refine LeO.bind ?_ (fun _ => ?_))
   | exact ih0 _ _ _ _
   | exact LeO.none _
   | refine LeO.ite ?_ ?_
   | refine LeO.bind ?_ (fun _ => ?_)
theorem swarfref38_way.mono : ∀ a0 a1 k, LeO (swarfref38_way.f k a0 a1) (swarfref38_way.f (k + 1) a0 a1) := by
 intro a0 a1 k
 have ih0 := swarfref38_way.mono_l k
 unfold swarfref38_way.f
 repeat' first
   | (with_reducible exact ih0 _ _ _ _)
   | (with_reducible exact LeO.refl _)
   | (with_reducible exact LeO.none _)
   | (with_reducible refine LeO.ite ?_ ?_)
   | (with_reducible refine LeO.bind ?_ (fun _ => ?_))
   | exact ih0 _ _ _ _
   | exact LeO.none _
   | refine LeO.ite ?_ ?_
   | refine LeO.bind ?_ (fun _ => ?_)
def swarfref38_way.T5 : Bool × List (List Nat × List Nat) := (true, [([], []), ([], []), ([], []), ([], []), ([3], [3]), ([2, 4], [2, 4]), ([5], [5]), ([1, 6], [1, 6]), ([7], [7]), ([], []), ([], []), ([], []), ([10, 11], [10, 11]), ([12], [12]), ([9, 13], [9, 13]), ([14], [14]), ([8, 15], [8, 15]), ([0, 16], [0, 16]), ([17, 16, 0, 1, 2, 3, 4, 5, 6, 7, 8, 9, 10, 11, 12, 13, 14, 15, 16, 17], [0, 17])])
def swarfref38_way.B5 : List Nat := [0, 0, 0, 0, 8, 28, 60, 126, 254, 0, 0, 0, 3072, 7168, 15872, 32256, 65534, 131071, 262143]
theorem swarfref38_way.tab5 : rtab .any (opsOf Try.f33 5) = swarfref38_way.T5 := by kernel_rfl
theorem swarfref38_way.bits5 : waitsOk swarfref38_way.T5.2 swarfref38_way.B5 = true := by kernel_rfl
set_option maxHeartbeats 8000000 in
set_option maxRecDepth 100000 in
theorem swarfref38_way.calls (k : Nat) (A0 : Option Addr) (c0 : Nat) (l0 : List (S31)) (A1 : Option Addr) (c1 : Nat) (l1 : List Int) (r : Int) (w : World) (hr0 : Kd.C k31 w A0 l0.length l0) (hc0 : l0.length ≤ c0) (hr1 : Kd.C (Kd.int .i64) w A1 l1.length l1) (hc1 : l1.length ≤ c1) (h : swarfref38_way.f k l0 l1 = some r) :
  Calls Try.prog 33 #[.slice A0 l0.length c0, .slice A1 l1.length c1] w fun e w' => e = .returned (.int .i64 r) ∧ Below w.heap.size w w' := by
 have hu31 := Try.underlying31
 have HR0 := Aside0.mk hr0
 have HC0 := Aside0.mk hc0
 clear hr0 hc0
 have HR1 := Aside0.mk hr1
 have HC1 := Aside0.mk hc1
 clear hr1 hc1
 have HB := Aside0.mk (Below.refl w.heap.size w)
 have H : (swarfref38_way.l0 k l0 l1 0 1) = some r := h
 clear h
 have H' := Aside0.mk H
 clear H
 go_enter Try.func33, Try.ntmps33
 go_wp2
 go_loopg [5, 6] k (fun kq v5 v6 w' => ∃ (x5_1 : Int) (x6_1 : Int), v5 = .int .i64 x5_1 ∧ v6 = .int .i64 x6_1 ∧ Aside0 (swarfref38_way.l0 kq l0 l1 x5_1 x6_1 = some r) ∧ Aside0 (kq ≤ k) ∧ Aside0 (Below w.heap.size w w'))
 case atStart => exact ⟨(0), (1), (by first | rfl | (simp; done) | (simp [*]; done)), (by first | rfl | (simp; done) | (simp [*]; done)), H', ⟨Nat.le_refl _⟩, ⟨by repeat (first | (with_reducible first | exact HB.out | apply below_alloc | apply pw_below_drewN | apply below_drew1) | exact HB.out)⟩⟩
 case round =>
  clear H'; try clear c1; try clear p2
  obtain ⟨x5_1, x6_1, rfl, rfl, HA, HK1, HB⟩ := hrel
  cases gk with
  | zero => exact absurd HA.out (by simp [swarfref38_way.l0])
  | succ k1 =>
   have H := HA.out
   clear HA
   simp only [swarfref38_way.l0] at H
   by_cases c3 : x6_1 < (l1.length : Int)
   ·rw [if_pos c3] at H
    have c3b0 : decide (x6_1 < (l1.length : Int)) = true := decide_eq_true c3
    clear c3
    obtain ⟨ji4, hji4⟩ : ∃ j_ : Int, (wrap64 (x6_1 - 1)) = j_ := ⟨_, rfl⟩
    replace H : (if 0 ≤ (ji4) then (if (ji4) < (l1.length : Int) then (if 0 ≤ (rd l1 (ji4)) then (if (rd l1 (ji4)) < (l0.length : Int) then (if 0 ≤ x6_1 then (if 0 ≤ (rd l1 x6_1) then (if (rd l1 x6_1) < (l0.length : Int) then ((swarfref38_Distance.f ((rd_T31 l0 (rd l1 (ji4))).f0) ((rd_T31 l0 (rd l1 (ji4))).f1) ((rd_T31 l0 (rd l1 x6_1)).f0) ((rd_T31 l0 (rd l1 x6_1)).f1)).bind fun t254 => (swarfref38_way.l0 k1 l0 l1 (wrap64 (x5_1 + t254)) (wrap64 (x6_1 + 1)))) else (none)) else (none)) else (none)) else (none)) else (none)) else (none)) else (none)) = some r := by first | (rw [hji4] at H; exact H) | (simp only [hji4] at H ⊢; exact H)
    have hji4w : (IntKind.i64.wrap (x6_1 - 1)) = ji4 := (i64_w _).trans hji4
    by_cases c5 : 0 ≤ (ji4)
    ·rw [if_pos c5] at H
     have c5b0 : decide (0 ≤ (ji4)) = true := decide_eq_true c5
     clear c5
     by_cases c6 : (ji4) < (l1.length : Int)
     ·rw [if_pos c6] at H
      have c6b0 : decide ((ji4) < (l1.length : Int)) = true := decide_eq_true c6
      clear c6
      by_cases c7 : 0 ≤ (rd l1 (ji4))
      ·rw [if_pos c7] at H
       have c7b0 : decide (0 ≤ (rd l1 (ji4))) = true := decide_eq_true c7
       clear c7
       by_cases c8 : (rd l1 (ji4)) < (l0.length : Int)
       ·rw [if_pos c8] at H
        have c8b0 : decide ((rd l1 (ji4)) < (l0.length : Int)) = true := decide_eq_true c8
        clear c8
        by_cases c9 : 0 ≤ x6_1
        ·rw [if_pos c9] at H
         have c9b0 : decide (0 ≤ x6_1) = true := decide_eq_true c9
         clear c9
         by_cases c10 : 0 ≤ (rd l1 x6_1)
         ·rw [if_pos c10] at H
          have c10b0 : decide (0 ≤ (rd l1 x6_1)) = true := decide_eq_true c10
          clear c10
          by_cases c11 : (rd l1 x6_1) < (l0.length : Int)
          ·rw [if_pos c11] at H
           have c11b0 : decide ((rd l1 x6_1) < (l0.length : Int)) = true := decide_eq_true c11
           clear c11; replace H := Option.bind_eq_some_iff.mp H
           obtain ⟨t254, A120, H⟩ := H
           replace H : (swarfref38_way.l0 k1 l0 l1 (wrap64 (x5_1 + t254)) (wrap64 (x6_1 + 1))) = some r := H
           have A12 := Aside0.mk A120; clear A120; have H' := Aside0.mk H; clear H
           try go_wp2
           have n0_ := Aside0.mk (below_drew1 HB.out)
           clear HB; have HB := n0_; clear n0_
           have p250 : 0 ≤ ((ji4) : Int) := of_decide_eq_true (by first | (with_reducible assumption) | assumption)
           have q250 : (ji4) < (l1.length : Int) := of_decide_eq_true (by first | (with_reducible assumption) | assumption)
           obtain ⟨ad250, e250, hx250_0⟩ := Kd.at_int HR1.out (ji4) p250 q250
           have hw250_0 := hx250_0; cases e250
           replace hx250_0 := (HB.out.cell (World.block_lt_of_cell? w _ hx250_0)).trans hx250_0
           replace p250 := eq_true p250; replace q250 := eq_true q250
           have p251 : 0 ≤ ((rd l1 (ji4)) : Int) := of_decide_eq_true (by first | (with_reducible assumption) | assumption)
           have q251 : (rd l1 (ji4)) < (l0.length : Int) := of_decide_eq_true (by first | (with_reducible assumption) | assumption)
           obtain ⟨ad251, e251, hx251_0, hx251_1⟩ := at_T31 HR0.out (rd l1 (ji4)) p251 q251
           have hw251_1 := hx251_1; have hw251_0 := hx251_0; cases e251
           replace hx251_0 := (HB.out.cell (World.block_lt_of_cell? w _ hx251_0)).trans hx251_0
           replace hx251_1 := (HB.out.cell (World.block_lt_of_cell? w _ hx251_1)).trans hx251_1
           replace p251 := eq_true p251; replace q251 := eq_true q251
           have p252 : 0 ≤ (x6_1 : Int) := of_decide_eq_true (by first | (with_reducible assumption) | assumption)
           have q252 : x6_1 < (l1.length : Int) := of_decide_eq_true (by first | (with_reducible assumption) | assumption)
           obtain ⟨ad252, e252, hx252_0⟩ := Kd.at_int HR1.out x6_1 p252 q252
           have hw252_0 := hx252_0
           obtain rfl : ad250 = ad252 := (by injection e252)
           replace hx252_0 := (HB.out.cell (World.block_lt_of_cell? w _ hx252_0)).trans hx252_0
           replace p252 := eq_true p252; replace q252 := eq_true q252
           have p253 : 0 ≤ ((rd l1 x6_1) : Int) := of_decide_eq_true (by first | (with_reducible assumption) | assumption)
           have q253 : (rd l1 x6_1) < (l0.length : Int) := of_decide_eq_true (by first | (with_reducible assumption) | assumption)
           obtain ⟨ad253, e253, hx253_0, hx253_1⟩ := at_T31 HR0.out (rd l1 x6_1) p253 q253
           have hw253_1 := hx253_1; have hw253_0 := hx253_0
           obtain rfl : ad251 = ad253 := (by injection e253)
           replace hx253_0 := (HB.out.cell (World.block_lt_of_cell? w _ hx253_0)).trans hx253_0
           replace hx253_1 := (HB.out.cell (World.block_lt_of_cell? w _ hx253_1)).trans hx253_1
           replace p253 := eq_true p253; replace q253 := eq_true q253
           refine start_ (n := 19) (S := fun w' => w'.cell? (ad250.add ((ji4)).toNat) = some (.int .i64 (rd l1 (ji4))) ∧ w'.cell? (ad251.add (((rd l1 (ji4))).toNat * 2)) = some (.int .i64 ((rd_T31 l0 (rd l1 (ji4))).f0)) ∧ w'.cell? ⟨(ad251.add (((rd l1 (ji4))).toNat * 2)).block, (ad251.add (((rd l1 (ji4))).toNat * 2)).off + 1, none⟩ = some (.int .i64 ((rd_T31 l0 (rd l1 (ji4))).f1)) ∧ w'.cell? (ad250.add (x6_1).toNat) = some (.int .i64 (rd l1 x6_1)) ∧ w'.cell? (ad251.add (((rd l1 x6_1)).toNat * 2)) = some (.int .i64 ((rd_T31 l0 (rd l1 x6_1)).f0)) ∧ w'.cell? ⟨(ad251.add (((rd l1 x6_1)).toNat * 2)).block, (ad251.add (((rd l1 x6_1)).toNat * 2)).off + 1, none⟩ = some (.int .i64 ((rd_T31 l0 (rd l1 x6_1)).f1))) (ds := []) #[false, false, false, false, false, false, false, false, false, false, false, false, false, false, false, false, false, false, false] (by kernel_rfl) rfl rfl ⟨((HB.out.cell (World.block_lt_of_cell? w _ hw250_0)).trans hw250_0), ((HB.out.cell (World.block_lt_of_cell? w _ hw251_0)).trans hw251_0), ((HB.out.cell (World.block_lt_of_cell? w _ hw251_1)).trans hw251_1), ((HB.out.cell (World.block_lt_of_cell? w _ hw252_0)).trans hw252_0), ((HB.out.cell (World.block_lt_of_cell? w _ hw253_0)).trans hw253_0), ((HB.out.cell (World.block_lt_of_cell? w _ hw253_1)).trans hw253_1)⟩ (fun hHeld => ?_); refine with_tabW swarfref38_way.tab5 swarfref38_way.bits5 (fun HT_ HW_ => ?_)
           generalize wr.drew = w13 at HB hx250_0 hx251_0 hx251_1 hx252_0 hx253_0 hx253_1 hHeld ⊢
           refine pure_ (i := 0) (N := some 13) (v := ?_) (a' := ?_) #[true, false, false, false, false, false, false, false, false, false, false, false, false, false, false, false, false, false, false] rfl rfl (any_of HT_.out (by kernel_rfl)) (fun _ _ _ h => h) (Or.inl ⟨by rfl, ?_⟩) ?_ ?_
           rotate_left; ·intro w'; go_simp; with_reducible rfl
           rotate_left; ·simp only [Act.put, sA_, sZ_, sS_, i64_w, i32_w]; rfl
           refine pure_ (i := 1) (N := some 14) (v := ?_) (a' := ?_) #[true, true, false, false, false, false, false, false, false, false, false, false, false, false, false, false, false, false, false] rfl rfl (any_of HT_.out (by kernel_rfl)) (fun _ _ _ h => h) (Or.inl ⟨by rfl, ?_⟩) ?_ ?_
           rotate_left; ·intro w'; go_simp; with_reducible rfl
           rotate_left; ·simp only [Act.put, sA_, sZ_, sS_, i64_w, i32_w]; rfl
           refine pure_ (i := 2) (N := some 15) (v := ?_) (a' := ?_) #[true, true, true, false, false, false, false, false, false, false, false, false, false, false, false, false, false, false, false] rfl rfl (any_of HT_.out (by kernel_rfl)) (fun _ _ _ h => h) (Or.inl ⟨by rfl, ?_⟩) ?_ ?_
           rotate_left; ·intro w'; go_simp; with_reducible rfl
           rotate_left; ·simp only [Act.put, sA_, sZ_, sS_, i64_w, i32_w]; rfl
           refine pure_ (i := 3) (N := some 16) (v := ?_) (a' := ?_) #[true, true, true, true, false, false, false, false, false, false, false, false, false, false, false, false, false, false, false] rfl rfl (any_of HT_.out (by kernel_rfl)) (fun _ _ _ h => h) (Or.inl ⟨by rfl, ?_⟩) ?_ ?_
           rotate_left; ·intro w'; go_simp; with_reducible rfl
           rotate_left; ·simp only [Act.put, sA_, sZ_, sS_, i64_w, i32_w]; rfl
           refine pure_ (i := 4) (N := some 17) (v := ?_) (a' := ?_) #[true, true, true, true, true, false, false, false, false, false, false, false, false, false, false, false, false, false, false] rfl rfl (any_of HT_.out (by kernel_rfl)) (fun _ _ _ h => h) (Or.inl ⟨by rfl, ?_⟩) ?_ ?_
           rotate_left; ·intro w'; go_simp; with_reducible rfl
           rotate_left; ·simp only [Act.put, sA_, sZ_, sS_, i64_w, i32_w]; rfl
           refine pure_ (i := 5) (N := some 18) (v := ?_) (a' := ?_) #[true, true, true, true, true, true, false, false, false, false, false, false, false, false, false, false, false, false, false] rfl rfl (any_of HT_.out (by kernel_rfl)) (fun _ _ _ h => h) (Or.inl ⟨by rfl, ?_⟩) ?_ ?_
           rotate_left; ·intro w'; go_simp; with_reducible rfl
           rotate_left; ·simp only [Act.put, sA_, sZ_, sS_, i64_w, i32_w]; rfl
           refine pure_ (i := 9) (N := some 22) (v := ?_) (a' := ?_) #[true, true, true, true, true, true, false, false, false, true, false, false, false, false, false, false, false, false, false] rfl rfl (any_of HT_.out (by kernel_rfl)) (fun _ _ _ h => h) (Or.inl ⟨by rfl, ?_⟩) ?_ ?_
           rotate_left; ·intro w'; go_simp; with_reducible rfl
           rotate_left; ·simp only [Act.put, sA_, sZ_, sS_, i64_w, i32_w]; rfl
           refine pure_ (i := 10) (N := some 23) (v := ?_) (a' := ?_) #[true, true, true, true, true, true, false, false, false, true, true, false, false, false, false, false, false, false, false] rfl rfl (any_of HT_.out (by kernel_rfl)) (fun _ _ _ h => h) (Or.inl ⟨by rfl, ?_⟩) ?_ ?_
           rotate_left; ·intro w'; go_simp; with_reducible rfl
           rotate_left; ·simp only [Act.put, sA_, sZ_, sS_, i64_w, i32_w]; rfl
           refine pure_ (i := 11) (N := some 24) (v := ?_) (a' := ?_) #[true, true, true, true, true, true, false, false, false, true, true, true, false, false, false, false, false, false, false] rfl rfl (any_of HT_.out (by kernel_rfl)) (fun _ _ _ h => h) (Or.inl ⟨by rfl, ?_⟩) ?_ ?_
           rotate_left; ·intro w'; go_simp; with_reducible rfl
           rotate_left; ·simp only [Act.put, sA_, sZ_, sS_, i64_w, i32_w]; rfl
           refine pure_ (i := 12) (N := some 25) (v := ?_) (a' := ?_) #[true, true, true, true, true, true, false, false, false, true, true, true, true, false, false, false, false, false, false] rfl rfl (any_of HT_.out (by kernel_rfl)) (fun _ _ _ h => h) (Or.inl ⟨by rfl, ?_⟩) ?_ ?_
           rotate_left; ·intro w'; go_simp; with_reducible rfl
           rotate_left; ·simp only [Act.put, sA_, sZ_, sS_, i64_w, i32_w]; rfl
           refine take_ (i := 6) (N := some 19) (v := ?_) (a' := ?_) #[true, true, true, true, true, true, true, false, false, true, true, true, true, false, false, false, false, false, false] rfl rfl (take_ofW HT_.out HW_.out (by kernel_rfl)) (fun _ _ _ h => h) (Or.inl ⟨by rfl, ?_⟩) hHeld ?_ ?_
           rotate_left
           ·rintro w' ⟨s0, s1, s2, s3, s4, s5⟩; go_simp; with_reducible rfl
           rotate_left; ·simp only [Act.put, sA_, sZ_, sS_, i64_w, i32_w]; rfl
           refine pure_ (i := 7) (N := some 20) (v := ?_) (a' := ?_) #[true, true, true, true, true, true, true, true, false, true, true, true, true, false, false, false, false, false, false] rfl rfl (any_of HT_.out (by kernel_rfl)) (fun _ _ _ h => h) (Or.inl ⟨by rfl, ?_⟩) ?_ ?_
           rotate_left; ·intro w'; go_simp; with_reducible rfl
           rotate_left; ·simp only [Act.put, sA_, sZ_, sS_, i64_w, i32_w]; rfl
           refine take_ (i := 8) (N := some 21) (v := ?_) (a' := ?_) #[true, true, true, true, true, true, true, true, true, true, true, true, true, false, false, false, false, false, false] rfl rfl (take_ofW HT_.out HW_.out (by kernel_rfl)) (fun _ _ _ h => h) (Or.inl ⟨by rfl, ?_⟩) hHeld ?_ ?_
           rotate_left
           ·rintro w' ⟨s0, s1, s2, s3, s4, s5⟩; go_simp; with_reducible rfl
           rotate_left; ·simp only [Act.put, sA_, sZ_, sS_, i64_w, i32_w]; rfl
           refine take_ (i := 13) (N := some 26) (v := ?_) (a' := ?_) #[true, true, true, true, true, true, true, true, true, true, true, true, true, true, false, false, false, false, false] rfl rfl (take_ofW HT_.out HW_.out (by kernel_rfl)) (fun _ _ _ h => h) (Or.inl ⟨by rfl, ?_⟩) hHeld ?_ ?_
           rotate_left
           ·rintro w' ⟨s0, s1, s2, s3, s4, s5⟩; go_simp; with_reducible rfl
           rotate_left; ·simp only [Act.put, sA_, sZ_, sS_, i64_w, i32_w]; rfl
           refine pure_ (i := 14) (N := some 27) (v := ?_) (a' := ?_) #[true, true, true, true, true, true, true, true, true, true, true, true, true, true, true, false, false, false, false] rfl rfl (any_of HT_.out (by kernel_rfl)) (fun _ _ _ h => h) (Or.inl ⟨by rfl, ?_⟩) ?_ ?_
           rotate_left; ·intro w'; go_simp; with_reducible rfl
           rotate_left; ·simp only [Act.put, sA_, sZ_, sS_, i64_w, i32_w]; rfl
           refine take_ (i := 15) (N := some 28) (v := ?_) (a' := ?_) #[true, true, true, true, true, true, true, true, true, true, true, true, true, true, true, true, false, false, false] rfl rfl (take_ofW HT_.out HW_.out (by kernel_rfl)) (fun _ _ _ h => h) (Or.inl ⟨by rfl, ?_⟩) hHeld ?_ ?_
           rotate_left
           ·rintro w' ⟨s0, s1, s2, s3, s4, s5⟩; go_simp; with_reducible rfl
           rotate_left; ·simp only [Act.put, sA_, sZ_, sS_, i64_w, i32_w]; rfl
           refine one_ (i := 16) (N := some 29) #[true, true, true, true, true, true, true, true, true, true, true, true, true, true, true, true, true, false, false] rfl rfl (one_of HT_.out (by kernel_rfl)) (by decide) (fun K hK => ?_)
           refine goes_ Try.func16 (by kernel_rfl) rfl #[.agg #[.int .i64 ((rd_T31 l0 (rd l1 (ji4))).f0), .int .i64 ((rd_T31 l0 (rd l1 (ji4))).f1)], .agg #[.int .i64 ((rd_T31 l0 (rd l1 x6_1)).f0), .int .i64 ((rd_T31 l0 (rd l1 x6_1)).f1)]] (by rfl) rfl rfl (by (try simp only [List.map_toArray, List.map_cons, List.map_nil]); first | done | (simp only [hji4]; rfl) | rfl | (simp only [List.length_drop, List.length_take]; rfl)) ?_
           with_reducible refine (swarfref38_Distance.calls ((rd_T31 l0 (rd l1 (ji4))).f0) ((rd_T31 l0 (rd l1 (ji4))).f1) ((rd_T31 l0 (rd l1 x6_1)).f0) ((rd_T31 l0 (rd l1 x6_1)).f1) t254 _ A12.out).mono ?_
           rintro e w14 ⟨rfl, hb⟩
           refine ⟨_, rfl, ?_⟩
           have n0_ := Aside0.mk (below_step (by repeat (first | (with_reducible first | exact HB.out | apply below_alloc | apply pw_below_drewN | apply below_drew1) | exact HB.out)) hb)
           clear HB; have HB := n0_; clear n0_; (try clear hb); (try clear hb2); (try clear hk); (try clear hi)
           refine hK.out _ _ ⟨((HB.out.cell (World.block_lt_of_cell? w _ hw250_0)).trans hw250_0), ((HB.out.cell (World.block_lt_of_cell? w _ hw251_0)).trans hw251_0), ((HB.out.cell (World.block_lt_of_cell? w _ hw251_1)).trans hw251_1), ((HB.out.cell (World.block_lt_of_cell? w _ hw252_0)).trans hw252_0), ((HB.out.cell (World.block_lt_of_cell? w _ hw253_0)).trans hw253_0), ((HB.out.cell (World.block_lt_of_cell? w _ hw253_1)).trans hw253_1)⟩ (fun hHeld => ?_)
           clear hK K
           refine norm_ (a' := ?_) ?_ ?_
           rotate_left
           ·show Act.put _ (some 29) _ = _
            simp only [Act.put, sA_, sZ_, sS_, i64_w, i32_w]; rfl
           refine pure_ (i := 17) (N := some 30) (v := ?_) (a' := ?_) #[true, true, true, true, true, true, true, true, true, true, true, true, true, true, true, true, true, true, false] rfl rfl (any_of HT_.out (by kernel_rfl)) (fun _ _ _ h => h) (Or.inl ⟨by rfl, ?_⟩) ?_ ?_
           rotate_left; ·intro w'; go_simp; with_reducible rfl
           rotate_left; ·simp only [Act.put, sA_, sZ_, sS_, i64_w, i32_w]; rfl
           refine pure_ (i := 18) (N := some 5) (v := ?_) (a' := ?_) #[true, true, true, true, true, true, true, true, true, true, true, true, true, true, true, true, true, true, true] rfl rfl (any_of HT_.out (by kernel_rfl)) (fun _ _ _ h => h) (Or.inl ⟨by rfl, ?_⟩) ?_ ?_
           rotate_left; ·intro w'; go_simp; with_reducible rfl
           rotate_left; ·simp only [Act.put, sA_, sZ_, sS_, i64_w, i32_w]; rfl
           refine done_ (done_of HT_.out (by kernel_rfl)) ?_
           try go_wp2
           go_roundg k1
           case measure => have := HK1.out; omega
           case rel => exact ⟨(wrap64 (x5_1 + t254)), (wrap64 (x6_1 + 1)), (by first | rfl | (simp; done) | (simp [*]; done)), (by first | rfl | (simp; done) | (simp [*]; done)), H', ⟨by have := HK1.out; omega⟩, ⟨by repeat (first | (with_reducible first | exact HB.out | apply below_alloc | apply pw_below_drewN | apply below_drew1) | exact HB.out)⟩⟩
          ·rw [if_neg c11] at H
           exact absurd H (by simp)
         ·rw [if_neg c10] at H
          exact absurd H (by simp)
        ·rw [if_neg c9] at H
         exact absurd H (by simp)
       ·rw [if_neg c8] at H
        exact absurd H (by simp)
      ·rw [if_neg c7] at H
       exact absurd H (by simp)
     ·rw [if_neg c6] at H
      exact absurd H (by simp)
    ·rw [if_neg c5] at H
     exact absurd H (by simp)
   ·rw [if_neg c3] at H
    have c3b0 : decide (x6_1 < (l1.length : Int)) = false := decide_eq_false c3
    clear c3; obtain rfl := Option.some.inj H; go_wp2; go_ret
    exact ⟨by first | rfl | (simp [errW_none, errW_some] <;> rfl) | (simp [*, errW_none, errW_some] <;> rfl), by repeat (first | (with_reducible first | exact HB.out | apply below_alloc | apply pw_below_drewN | apply below_drew1) | exact HB.out)⟩

end Go.Proofs.Ytohjocajaanhaaa.P

-- PRINTED by print.py (a twelfth state) out of the translation. Not trusted: Lean checks it.

namespace Go.Proofs.Ytohjocajaanhaaa.P
open Go.RowKit Go.Proofs.YtohjocajaanhaaaW.PrintWords Go.Proofs.YtohjocajaanhaaaW.PrintLast Go.Proofs.YtohjocajaanhaaaW.PrintMore
attribute [local go_sem] max2_int min2_int max_two min_two max_three min_three max_four min_four   -- for this text's walks alone
set_option linter.unusedVariables false
set_option linter.unusedSimpArgs false

/-! ### swarfref38_Length: function 13 -/
def swarfref38_Length.f (k : Nat) (l0 : List (S31)) (l1 : List Int) : Option (Int × Int) := (swarfref38_Valid.f k l0 200).bind fun t255 => (if t255 = 0 then ((swarfref38_Order.f k (l0.length : Int) l1).bind fun t256 => (if t256 = true then ((swarfref38_way.f k l0 l1).bind fun t257 => (some (t257, 0))) else (some (0, 1)))) else (some (0, t255)))
theorem swarfref38_Length.mono : ∀ a0 a1 k, LeO (swarfref38_Length.f k a0 a1) (swarfref38_Length.f (k + 1) a0 a1) := by
 intro a0 a1 k
 unfold swarfref38_Length.f
 repeat' first
   | (with_reducible exact swarfref38_Order.mono _ _ _)
   | (with_reducible exact swarfref38_Valid.mono _ _ _)
   | (with_reducible exact swarfref38_way.mono _ _ _)
   | (with_reducible exact LeO.refl _)
   | (with_reducible exact LeO.none _)
   | (with_reducible refine LeO.ite ?_ ?_)
   | (with_reducible refine LeO.bind ?_ (fun _ => ?_))
   | exact swarfref38_Order.mono _ _ _
   | exact swarfref38_Valid.mono _ _ _
   | exact swarfref38_way.mono _ _ _
   | exact LeO.none _
   | refine LeO.ite ?_ ?_
   | refine LeO.bind ?_ (fun _ => ?_)
set_option maxHeartbeats 8000000 in
set_option maxRecDepth 100000 in
theorem swarfref38_Length.calls (k : Nat) (A0 : Option Addr) (c0 : Nat) (l0 : List (S31)) (A1 : Option Addr) (c1 : Nat) (l1 : List Int) (r1 : Int) (r2 : Int) (w : World) (hr0 : Kd.C k31 w A0 l0.length l0) (hc0 : l0.length ≤ c0) (hr1 : Kd.C (Kd.int .i64) w A1 l1.length l1) (hc1 : l1.length ≤ c1) (h : swarfref38_Length.f k l0 l1 = some (r1, r2)) :
  Calls Try.prog 13 #[.slice A0 l0.length c0, .slice A1 l1.length c1] w fun e w' => e = .returned (.tuple #[.int .i64 r1, .int .i64 r2]) ∧ Below w.heap.size w w' := by
 have HR0 := Aside0.mk hr0
 have HC0 := Aside0.mk hc0
 clear hr0 hc0
 have HR1 := Aside0.mk hr1
 have HC1 := Aside0.mk hc1
 clear hr1 hc1
 have HB := Aside0.mk (Below.refl w.heap.size w)
 have H : ((swarfref38_Valid.f k l0 200).bind fun t255 => (if t255 = 0 then ((swarfref38_Order.f k (l0.length : Int) l1).bind fun t256 => (if t256 = true then ((swarfref38_way.f k l0 l1).bind fun t257 => (some (t257, 0))) else (some (0, 1)))) else (some (0, t255)))) = some (r1, r2) := h
 clear h
 replace H := Option.bind_eq_some_iff.mp H
 obtain ⟨t255, A30, H⟩ := H
 replace H : (if t255 = 0 then ((swarfref38_Order.f k (l0.length : Int) l1).bind fun t256 => (if t256 = true then ((swarfref38_way.f k l0 l1).bind fun t257 => (some (t257, 0))) else (some (0, 1)))) else (some (0, t255))) = some (r1, r2) := H
 have A3 := Aside0.mk A30
 clear A30
 by_cases c4 : t255 = 0
 ·rw [if_pos c4] at H
  have c4b0 : (t255 == 0) = true := beq_iff_eq.mpr c4
  have c4b1 : (t255 != 0) = false := bne_eq_false_iff_eq.mpr c4
  clear c4; replace H := Option.bind_eq_some_iff.mp H
  obtain ⟨t256, A50, H⟩ := H
  replace H : (if t256 = true then ((swarfref38_way.f k l0 l1).bind fun t257 => (some (t257, 0))) else (some (0, 1))) = some (r1, r2) := H
  have A5 := Aside0.mk A50; clear A50
  by_cases c6 : t256 = true
  ·subst c6
   have H1 : ((swarfref38_way.f k l0 l1).bind fun t257 => (some (t257, 0))) = some (r1, r2) := by rw [if_pos rfl] at H; exact H
   clear H; have H := H1; clear H1; replace H := Option.bind_eq_some_iff.mp H
   obtain ⟨t257, A70, H⟩ := H
   replace H : (some (t257, 0)) = some (r1, r2) := H
   have A7 := Aside0.mk A70; clear A70
   simp only [Option.some.injEq, Prod.mk.injEq] at H
   obtain ⟨rfl, rfl⟩ := H
   go_enter Try.func13, Try.ntmps13
   go_wp2_with (first | ((with_reducible refine gate_callee (f := 31) rfl ?_); refine goesL_ (some 8) rfl rfl Try.func31 (by kernel_rfl) rfl #[.slice A0 l0.length c0, .int .i64 200] rfl (by (try simp only [List.map_toArray, List.map_cons, List.map_nil]); first | done | rfl | (simp only [List.length_drop, List.length_take]; rfl)) ?_; (with_reducible refine (swarfref38_Valid.calls k _ _ l0 200 t255 _ ?side1 ?side2 A3.out).mono ?_); (case side1 => repeat (first | exact HR0.out | (with_reducible refine Kd.C_alloc ?_ _) | (with_reducible refine Kd.C_drewN ?_ _) | (with_reducible refine Kd.C_drew ?_))); (case side2 => exact HC0.out); rintro e w' ⟨rfl, ⟨nd, rfl⟩⟩; refine ⟨_, rfl, ?_⟩) | ((with_reducible refine gate_callee (f := 32) rfl ?_); refine goesL_ (some 15) rfl rfl Try.func32 (by kernel_rfl) rfl #[.int .i64 (l0.length : Int), .slice A1 l1.length c1] rfl (by (try simp only [List.map_toArray, List.map_cons, List.map_nil]); first | done | rfl | (simp only [List.length_drop, List.length_take]; rfl)) ?_; (with_reducible refine (swarfref38_Order.calls k (l0.length : Int) _ _ l1 true _ ?side1 ?side2 A5.out).mono ?_); (case side1 => repeat (first | exact HR1.out | (with_reducible refine Kd.C_alloc ?_ _) | (with_reducible refine Kd.C_drewN ?_ _) | (with_reducible refine Kd.C_drew ?_))); (case side2 => exact HC1.out); rintro e w8 ⟨rfl, hb⟩; refine ⟨_, rfl, ?_⟩; have n0_ := Aside0.mk (below_step (by repeat (first | (with_reducible first | exact HB.out | apply below_alloc | apply pw_below_drewN | apply below_drew1) | exact HB.out)) hb); clear HB; have HB := n0_; clear n0_; (try clear hb); (try clear hb2); (try clear hk); (try clear hi)) | ((with_reducible refine gate_callee (f := 33) rfl ?_); refine goesL_ (some 19) rfl rfl Try.func33 (by kernel_rfl) rfl #[.slice A0 l0.length c0, .slice A1 l1.length c1] rfl (by (try simp only [List.map_toArray, List.map_cons, List.map_nil]); first | done | rfl | (simp only [List.length_drop, List.length_take]; rfl)) ?_; (with_reducible refine (swarfref38_way.calls k _ _ l0 _ _ l1 t257 _ ?side1 ?side2 ?side3 ?side4 A7.out).mono ?_); (case side1 => repeat (first | exact (Kd.C_below HR0.out HB.out) | (with_reducible refine Kd.C_alloc ?_ _) | (with_reducible refine Kd.C_drewN ?_ _) | (with_reducible refine Kd.C_drew ?_))); (case side2 => exact HC0.out); (case side3 => repeat (first | exact (Kd.C_below HR1.out HB.out) | (with_reducible refine Kd.C_alloc ?_ _) | (with_reducible refine Kd.C_drewN ?_ _) | (with_reducible refine Kd.C_drew ?_))); (case side4 => exact HC1.out); rintro e w9 ⟨rfl, hb⟩; refine ⟨_, rfl, ?_⟩; have n0_ := Aside0.mk (below_step (by repeat (first | (with_reducible first | exact HB.out | apply below_alloc | apply pw_below_drewN | apply below_drew1) | exact HB.out)) hb); clear HB; have HB := n0_; clear n0_; (try clear hb); (try clear hb2); (try clear hk); (try clear hi)))
   go_ret2
   exact ⟨by first | rfl | (simp [errW_none, errW_some] <;> rfl) | (simp [*, errW_none, errW_some] <;> rfl), by repeat (first | (with_reducible first | exact HB.out | apply below_alloc | apply pw_below_drewN | apply below_drew1) | exact HB.out)⟩
  ·replace c6 := Bool.eq_false_iff.mpr c6
   subst c6
   have H1 : (some (0, 1)) = some (r1, r2) := by rw [if_neg (show ¬ (false = true) by decide)] at H; exact H
   clear H; have H := H1; clear H1
   simp only [Option.some.injEq, Prod.mk.injEq] at H
   obtain ⟨rfl, rfl⟩ := H
   go_enter Try.func13, Try.ntmps13
   go_wp2_with (first | ((with_reducible refine gate_callee (f := 31) rfl ?_); refine goesL_ (some 8) rfl rfl Try.func31 (by kernel_rfl) rfl #[.slice A0 l0.length c0, .int .i64 200] rfl (by (try simp only [List.map_toArray, List.map_cons, List.map_nil]); first | done | rfl | (simp only [List.length_drop, List.length_take]; rfl)) ?_; (with_reducible refine (swarfref38_Valid.calls k _ _ l0 200 t255 _ ?side1 ?side2 A3.out).mono ?_); (case side1 => repeat (first | exact HR0.out | (with_reducible refine Kd.C_alloc ?_ _) | (with_reducible refine Kd.C_drewN ?_ _) | (with_reducible refine Kd.C_drew ?_))); (case side2 => exact HC0.out); rintro e w' ⟨rfl, ⟨nd, rfl⟩⟩; refine ⟨_, rfl, ?_⟩) | ((with_reducible refine gate_callee (f := 32) rfl ?_); refine goesL_ (some 15) rfl rfl Try.func32 (by kernel_rfl) rfl #[.int .i64 (l0.length : Int), .slice A1 l1.length c1] rfl (by (try simp only [List.map_toArray, List.map_cons, List.map_nil]); first | done | rfl | (simp only [List.length_drop, List.length_take]; rfl)) ?_; (with_reducible refine (swarfref38_Order.calls k (l0.length : Int) _ _ l1 false _ ?side1 ?side2 A5.out).mono ?_); (case side1 => repeat (first | exact HR1.out | (with_reducible refine Kd.C_alloc ?_ _) | (with_reducible refine Kd.C_drewN ?_ _) | (with_reducible refine Kd.C_drew ?_))); (case side2 => exact HC1.out); rintro e w10 ⟨rfl, hb⟩; refine ⟨_, rfl, ?_⟩; have n0_ := Aside0.mk (below_step (by repeat (first | (with_reducible first | exact HB.out | apply below_alloc | apply pw_below_drewN | apply below_drew1) | exact HB.out)) hb); clear HB; have HB := n0_; clear n0_; (try clear hb); (try clear hb2); (try clear hk); (try clear hi)))
   go_ret2
   exact ⟨by first | rfl | (simp [errW_none, errW_some] <;> rfl) | (simp [*, errW_none, errW_some] <;> rfl), by repeat (first | (with_reducible first | exact HB.out | apply below_alloc | apply pw_below_drewN | apply below_drew1) | exact HB.out)⟩
 ·rw [if_neg c4] at H
  have c4b0 : (t255 == 0) = false := beq_eq_false_iff_ne.mpr c4
  have c4b1 : (t255 != 0) = true := bne_iff_ne.mpr c4
  simp only [Option.some.injEq, Prod.mk.injEq] at H
  obtain ⟨rfl, rfl⟩ := H
  go_enter Try.func13, Try.ntmps13
  go_wp2_with (first | ((with_reducible refine gate_callee (f := 31) rfl ?_); refine goesL_ (some 8) rfl rfl Try.func31 (by kernel_rfl) rfl #[.slice A0 l0.length c0, .int .i64 200] rfl (by (try simp only [List.map_toArray, List.map_cons, List.map_nil]); first | done | rfl | (simp only [List.length_drop, List.length_take]; rfl)) ?_; (with_reducible refine (swarfref38_Valid.calls k _ _ l0 200 t255 _ ?side1 ?side2 A3.out).mono ?_); (case side1 => repeat (first | exact HR0.out | (with_reducible refine Kd.C_alloc ?_ _) | (with_reducible refine Kd.C_drewN ?_ _) | (with_reducible refine Kd.C_drew ?_))); (case side2 => exact HC0.out); rintro e w' ⟨rfl, ⟨nd, rfl⟩⟩; refine ⟨_, rfl, ?_⟩))
  go_ret2
  exact ⟨by first | rfl | (simp [errW_none, errW_some] <;> rfl) | (simp [*, errW_none, errW_some] <;> rfl), by repeat (first | (with_reducible first | exact HB.out | apply below_alloc | apply pw_below_drewN | apply below_drew1) | exact HB.out)⟩

end Go.Proofs.Ytohjocajaanhaaa.P

/- What the printed functions of tours come to: the error of positions, orders, lengths. Plain numbers and lists. -/

namespace Go.Proofs.Ytohjocajaanhaaa.B
open Go.RowKit Go.Proofs.Ytohjocajaanhaaa.P Go.Proofs.YtohjocajaanhaaaW.PrintWords Go.Proofs.YtohjocajaanhaaaW.PrintLast Go.Proofs.YtohjocajaanhaaaW.PrintMore
set_option linter.unusedVariables false
set_option linter.unusedSimpArgs false

theorem wrap_mid (x : Int) (h0 : -4000000000000000 ≤ x) (h1 : x ≤ 4000000000000000) : wrap64 x = x := by unfold wrap64; omega
theorem ev_end {α : Type} {g : Nat → Option α} {r : α} (h : ∀ k, g (k + 1) = some r) : Ev g r := Ev.step (f := fun _ => some r) h (Ev.now r)
def okp (p : S31) : Bool := decide (-10000000 ≤ p.f0) && decide (p.f0 ≤ 10000000) && (decide (-10000000 ≤ p.f1) && decide (p.f1 ≤ 10000000))
theorem okp_iff (p : S31) : okp p = true ↔ (-10000000 ≤ p.f0 ∧ p.f0 ≤ 10000000) ∧ (-10000000 ≤ p.f1 ∧ p.f1 ≤ 10000000) := by simp [okp]
def gapZ (a b : Int) : Int := if a < b then b - a else a - b
/-- The distance of two positions. -/
def dst (p q : S31) : Int := mx (gapZ p.f0 q.f0) (gapZ p.f1 q.f1)
theorem dst_nonneg (p q : S31) : 0 ≤ dst p q := by unfold dst mx gapZ; repeat' split <;> omega
theorem dst_le {p q : S31} (hp : okp p = true) (hq : okp q = true) : dst p q ≤ 20000000 := by
  rw [okp_iff] at hp hq
  unfold dst mx gapZ; repeat' split <;> omega
theorem dst_symm (p q : S31) : dst p q = dst q p := by unfold dst mx gapZ; repeat' split <;> omega
theorem dist_eq {p q : S31} (hp : okp p = true) (hq : okp q = true) : tour_Distance.f p.f0 p.f1 q.f0 q.f1 = some (dst p q) := by
  rw [okp_iff] at hp hq
  unfold tour_Distance.f
  rw [wrap_mid _ (by omega) (by omega), wrap_mid _ (by omega) (by omega), wrap_mid _ (by omega) (by omega), wrap_mid _ (by omega) (by omega)]
  congr 1
  unfold dst mx gapZ; repeat' split <;> omega
theorem ref_dist_eq {p q : S31} (hp : okp p = true) (hq : okp q = true) : swarfref38_Distance.f p.f0 p.f1 q.f0 q.f1 = some (dst p q) := by
  rw [okp_iff] at hp hq
  unfold swarfref38_Distance.f swarfref38_gap.f
  rw [wrap_mid _ (by omega) (by omega), wrap_mid _ (by omega) (by omega), wrap_mid _ (by omega) (by omega), wrap_mid _ (by omega) (by omega)]
  unfold dst gapZ
  by_cases h1 : p.f0 < q.f0 <;> by_cases h2 : p.f1 < q.f1 <;> simp [h1, h2]
theorem drop_T31 (l : List S31) (j : Nat) (h : j < l.length) : l.drop j = rd_T31 l (j : Int) :: l.drop (j + 1) := by
  rw [List.drop_eq_getElem_cons h]
  congr 1
  unfold rd_T31
  simp [List.getD, h]
theorem drop_rd (l : List Int) (j : Nat) (h : j < l.length) : l.drop j = rd l (j : Int) :: l.drop (j + 1) := by
  rw [List.drop_eq_getElem_cons h]
  congr 1
  unfold rd
  simp [List.getD, h]
theorem ok_at {l : List S31} (h : l.all okp = true) (i : Int) (h0 : 0 ≤ i) (h1 : i < (l.length : Int)) : okp (rd_T31 l i) = true := by
  rw [List.all_eq_true] at h
  have : i.toNat < l.length := by omega
  have e : rd_T31 l i = l[i.toNat] := by unfold rd_T31; simp [List.getD, this]
  rw [e]
  exact h _ (List.getElem_mem this)

/-! ### The error of positions -/
theorem check_l0 (l : List S31) (hn : l.length ≤ 1000) (d : Nat) : ∀ j : Nat, j + d = l.length → Ev (fun k => tour_check.l0 k l (l.length : Int) (j : Int)) (if (l.drop j).all okp = true then 0 else 11) := by
  induction d with
  | zero =>
    intro j hj
    rw [List.drop_eq_nil_of_le (by omega)]
    exact ev_end (fun k => by simp only [tour_check.l0]; rw [if_neg (by omega)]; rfl)
  | succ d ih =>
    intro j hj
    have hw : wrap64 ((j : Int) + 1) = ((j + 1 : Nat) : Int) := by rw [wrap_mid _ (by omega) (by omega)]; omega
    rw [drop_T31 l j (by omega)]
    generalize hp : rd_T31 l (j : Int) = p
    by_cases ho : okp p = true
    · have hi := ih (j + 1) (by omega)
      rw [List.all_cons, ho, Bool.true_and]
      refine Ev.step (fun k => ?_) hi
      rw [okp_iff] at ho
      simp only [tour_check.l0]
      rw [if_pos (by omega), if_pos (by omega), if_pos (by omega), hp, if_neg (by unfold mx; split <;> omega), if_neg (by unfold mn; split <;> omega), hw]
    · rw [List.all_cons, show okp p = false by simpa using ho, Bool.false_and]
      refine ev_end (fun k => ?_)
      rw [okp_iff] at ho
      simp only [tour_check.l0]
      rw [if_pos (by omega), if_pos (by omega), if_pos (by omega), hp]
      by_cases h1 : mx p.f0 p.f1 > 10000000
      · rw [if_pos h1]; rfl
      · rw [if_neg h1, if_pos (by unfold mx at h1; unfold mn; split at h1 <;> split <;> omega)]; rfl
theorem rvalid_l0 (l : List S31) (hn : l.length ≤ 1000) (d : Nat) : ∀ j : Nat, j + d = l.length → Ev (fun k => swarfref38_Valid.l0 k l (j : Int)) (if (l.drop j).all okp = true then 0 else 11) := by
  induction d with
  | zero =>
    intro j hj
    rw [List.drop_eq_nil_of_le (by omega)]
    exact ev_end (fun k => by simp only [swarfref38_Valid.l0]; rw [if_neg (by omega)]; rfl)
  | succ d ih =>
    intro j hj
    have hw : wrap64 ((j : Int) + 1) = ((j + 1 : Nat) : Int) := by rw [wrap_mid _ (by omega) (by omega)]; omega
    rw [drop_T31 l j (by omega)]
    generalize hp : rd_T31 l (j : Int) = p
    by_cases ho : okp p = true
    · have hi := ih (j + 1) (by omega)
      rw [List.all_cons, ho, Bool.true_and]
      refine Ev.step (fun k => ?_) hi
      rw [okp_iff] at ho
      simp only [swarfref38_Valid.l0]
      rw [if_pos (by omega), if_pos (by omega), hp, if_neg (by omega), if_neg (by omega), if_neg (by omega), if_neg (by omega), hw]
    · rw [List.all_cons, show okp p = false by simpa using ho, Bool.false_and]
      refine ev_end (fun k => ?_)
      rw [okp_iff] at ho
      simp only [swarfref38_Valid.l0]
      rw [if_pos (by omega), if_pos (by omega), hp]
      by_cases h1 : p.f0 > 10000000
      · rw [if_pos h1]; rfl
      · rw [if_neg h1]
        by_cases h2 : p.f0 < -10000000
        · rw [if_pos h2]; rfl
        · rw [if_neg h2]
          by_cases h3 : p.f1 > 10000000
          · rw [if_pos h3]; rfl
          · rw [if_neg h3, if_pos (by omega)]; rfl
/-- The error of positions. -/
def chkE (l : List S31) (m : Int) : Int := if (l.length : Int) > m then 3 else if l.all okp = true then 0 else 11
theorem chkE_zero {l : List S31} {m : Int} (h : chkE l m = 0) : (l.length : Int) ≤ m ∧ l.all okp = true := by
  unfold chkE at h
  split at h
  · cases h
  · split at h
    · rename_i h1 h2; exact ⟨by omega, h2⟩
    · cases h
theorem check_ev (l : List S31) (m : Int) (hn : l.length ≤ 1000) : Ev (fun k => tour_check.f k l m) (chkE l m) := by
  unfold tour_check.f chkE
  by_cases h : (l.length : Int) > m
  · simp only [if_pos h]; exact Ev.now _
  · simp only [if_neg h]
    exact check_l0 l hn l.length 0 (by omega)
theorem rvalid_ev (l : List S31) (m : Int) (hn : l.length ≤ 1000) : Ev (fun k => swarfref38_Valid.f k l m) (chkE l m) := by
  unfold swarfref38_Valid.f chkE
  by_cases h : (l.length : Int) > m
  · simp only [if_pos h]; exact Ev.now _
  · simp only [if_neg h]
    exact rvalid_l0 l hn l.length 0 (by omega)
theorem right_ev (l : List S31) (m : Int) (hn : l.length ≤ 1000) : Ev (fun k => swarflaw38_right.f k l m) (chkE l m == 0) := by
  unfold swarflaw38_right.f
  exact Ev.bind (rvalid_ev l m hn) (Ev.now _)

/-! ### Orders -/
theorem rdOf_set (s : List Bool) (x y : Int) (h0 : 0 ≤ x) (h1 : x < (s.length : Int)) (hy : 0 ≤ y) : rdOf false (s.set x.toNat true) y = if x = y then true else rdOf false s y := by
  unfold rdOf
  rw [List.getD_eq_getElem?_getD, List.getD_eq_getElem?_getD, List.getElem?_set]
  by_cases h : x = y
  · subst h; rw [if_pos rfl, if_pos (by omega), if_pos rfl]; rfl
  · rw [if_neg (by omega), if_neg h]
def ordS (n : Nat) (seen : List Bool) : List Int → Bool
  | [] => true
  | x :: xs => if x < 0 then false else if x ≥ (n : Int) then false else if rdOf false seen x = true then false else ordS n (seen.set x.toNat true) xs
theorem ordS_spec (n : Nat) (xs : List Int) : ∀ seen : List Bool, seen.length = n → ordS n seen xs = true → (∀ x ∈ xs, 0 ≤ x ∧ x < (n : Int) ∧ rdOf false seen x = false) ∧ xs.Nodup := by
  induction xs with
  | nil => intro seen _ _; exact ⟨fun x h => (by cases h), List.nodup_nil⟩
  | cons x xs ih =>
    intro seen hs h
    unfold ordS at h
    split at h
    · cases h
    · split at h
      · cases h
      · split at h
        · cases h
        · rename_i h0 h1 h2
          obtain ⟨g1, g2⟩ := ih (seen.set x.toNat true) (by simp [hs]) h
          refine ⟨fun y hy => ?_, List.nodup_cons.2 ⟨fun hx => ?_, g2⟩⟩
          · rcases List.mem_cons.1 hy with rfl | hy
            · exact ⟨by omega, by omega, by simpa using h2⟩
            · obtain ⟨a, b, c⟩ := g1 y hy
              rw [rdOf_set seen x y (by omega) (by omega) a] at c
              split at c
              · cases c
              · exact ⟨a, b, c⟩
          · obtain ⟨a, b, c⟩ := g1 x hx
            rw [rdOf_set seen x x (by omega) (by omega) a, if_pos rfl] at c
            cases c
theorem isOrder_l0 (n : Nat) (o : List Int) (hl : o.length ≤ 1000) (d : Nat) : ∀ (j : Nat) (seen : List Bool), seen.length = n → j + d = o.length → Ev (fun k => tour_isOrder.l0 k (n : Int) seen o (o.length : Int) (j : Int)) (ordS n seen (o.drop j)) := by
  induction d with
  | zero =>
    intro j seen hs hj
    rw [List.drop_eq_nil_of_le (by omega)]
    exact ev_end (fun k => by simp only [tour_isOrder.l0]; rw [if_neg (by omega)]; rfl)
  | succ d ih =>
    intro j seen hs hj
    have hw : wrap64 ((j : Int) + 1) = ((j + 1 : Nat) : Int) := by rw [wrap_mid _ (by omega) (by omega)]; omega
    rw [drop_rd o j (by omega)]
    generalize hx : rd o (j : Int) = x
    unfold ordS
    by_cases h0 : x < 0
    · rw [if_pos h0]
      exact ev_end (fun k => by simp only [tour_isOrder.l0]; rw [if_pos (by omega), if_pos (by omega), if_pos (by omega), hx, if_pos h0])
    · rw [if_neg h0]
      by_cases h1 : x ≥ (n : Int)
      · rw [if_pos h1]
        exact ev_end (fun k => by simp only [tour_isOrder.l0]; rw [if_pos (by omega), if_pos (by omega), if_pos (by omega), hx, if_neg h0, if_pos h1])
      · rw [if_neg h1]
        by_cases h2 : rdOf false seen x = true
        · rw [if_pos h2]
          exact ev_end (fun k => by simp only [tour_isOrder.l0]; rw [if_pos (by omega), if_pos (by omega), if_pos (by omega), hx, if_neg h0, if_neg h1, if_pos (by omega), if_pos (by omega), if_pos h2])
        · rw [if_neg h2]
          refine Ev.step (fun k => ?_) (ih (j + 1) (seen.set x.toNat true) (by simp [hs]) (by omega))
          simp only [tour_isOrder.l0]
          rw [if_pos (by omega), if_pos (by omega), if_pos (by omega), hx, if_neg h0, if_neg h1, if_pos (by omega), if_pos (by omega), if_neg h2, hw]
theorem rorder_l0 (n : Nat) (o : List Int) (hl : o.length = n) (hn : n ≤ 1000) (d : Nat) : ∀ (j : Nat) (seen : List Bool), seen.length = n → j + d = n → Ev (fun k => swarfref38_Order.l0 k (n : Int) o seen (j : Int)) (ordS n seen (o.drop j)) := by
  induction d with
  | zero =>
    intro j seen hs hj
    rw [List.drop_eq_nil_of_le (by omega)]
    exact ev_end (fun k => by simp only [swarfref38_Order.l0]; rw [if_neg (by omega)]; rfl)
  | succ d ih =>
    intro j seen hs hj
    have hw : wrap64 ((j : Int) + 1) = ((j + 1 : Nat) : Int) := by rw [wrap_mid _ (by omega) (by omega)]; omega
    rw [drop_rd o j (by omega)]
    generalize hx : rd o (j : Int) = x
    unfold ordS
    by_cases h0 : x < 0
    · rw [if_pos h0]
      exact ev_end (fun k => by simp only [swarfref38_Order.l0]; rw [if_pos (by omega), if_pos (by omega), if_pos (by omega), hx, if_pos h0])
    · rw [if_neg h0]
      by_cases h1 : x ≥ (n : Int)
      · rw [if_pos h1]
        exact ev_end (fun k => by simp only [swarfref38_Order.l0]; rw [if_pos (by omega), if_pos (by omega), if_pos (by omega), hx, if_neg h0, if_pos h1])
      · rw [if_neg h1]
        by_cases h2 : rdOf false seen x = true
        · rw [if_pos h2]
          exact ev_end (fun k => by simp only [swarfref38_Order.l0]; rw [if_pos (by omega), if_pos (by omega), if_pos (by omega), hx, if_neg h0, if_neg h1, if_pos (by omega), if_pos (by omega), if_pos h2])
        · rw [if_neg h2]
          refine Ev.step (fun k => ?_) (ih (j + 1) (seen.set x.toNat true) (by simp [hs]) (by omega))
          simp only [swarfref38_Order.l0]
          rw [if_pos (by omega), if_pos (by omega), if_pos (by omega), hx, if_neg h0, if_neg h1, if_pos (by omega), if_pos (by omega), if_neg h2, hw]
/-- Whether a list is an order of n positions. -/
def isOrd (n : Nat) (o : List Int) : Bool := if o.length = n then (if n = 0 ∨ rd o 0 = 0 then ordS n (List.replicate n false) o else false) else false
theorem isOrder_ev (n : Nat) (hn : n ≤ 1000) (o : List Int) : Ev (fun k => tour_isOrder.f k o (n : Int)) (isOrd n o) := by
  unfold tour_isOrder.f isOrd
  by_cases h : o.length = n
  · simp only [if_pos h, if_pos (show (o.length : Int) = (n : Int) by omega)]
    have hgo : Ev (fun k => tour_isOrder.j0 k o (n : Int) false) (ordS n (List.replicate n false) o) := by
      refine Ev.step (fun k => ?_) (isOrder_l0 n o (by omega) n 0 (List.replicate n false) (by simp) (by omega))
      simp only [tour_isOrder.j0]
      rw [if_neg (by decide), if_pos (by omega), if_pos (by omega), Int.toNat_natCast]
      rfl
    by_cases h0 : n = 0
    · simp only [if_neg (show ¬ (n : Int) > 0 by omega), if_pos (show n = 0 ∨ rd o 0 = 0 from .inl h0)]
      exact hgo
    · simp only [if_pos (show (n : Int) > 0 by omega), if_pos (show 0 < (o.length : Int) by omega)]
      by_cases h1 : rd o 0 = 0
      · have hb : (rd o 0 != 0) = false := by rw [h1]; rfl
        rw [if_pos (show n = 0 ∨ rd o 0 = 0 from .inr h1)]
        simp only [hb]
        exact hgo
      · simp only [if_neg (show ¬ (n = 0 ∨ rd o 0 = 0) by omega), show (rd o 0 != 0) = true by simpa using h1]
        exact ev_end (fun k => by simp only [tour_isOrder.j0]; rfl)
  · simp only [if_neg h, if_neg (show ¬ (o.length : Int) = (n : Int) by omega)]
    exact ev_end (fun k => by simp only [tour_isOrder.j0]; rfl)
theorem rorder_ev (n : Nat) (hn : n ≤ 1000) (o : List Int) : Ev (fun k => swarfref38_Order.f k (n : Int) o) (isOrd n o) := by
  unfold swarfref38_Order.f isOrd
  by_cases h : o.length = n
  · simp only [if_pos h, if_pos (show (o.length : Int) = (n : Int) by omega)]
    have hgo : Ev (fun k => swarfref38_Order.j0 k (n : Int) o false) (ordS n (List.replicate n false) o) := by
      refine Ev.step (fun k => ?_) (rorder_l0 n o h hn n 0 (List.replicate n false) (by simp) (by omega))
      simp only [swarfref38_Order.j0]
      rw [if_neg (by decide), if_pos (by omega), if_pos (by omega), Int.toNat_natCast]
      rfl
    by_cases h0 : n = 0
    · simp only [if_neg (show ¬ (n : Int) > 0 by omega), if_pos (show n = 0 ∨ rd o 0 = 0 from .inl h0)]
      exact hgo
    · simp only [if_pos (show (n : Int) > 0 by omega), if_pos (show 0 < (o.length : Int) by omega)]
      by_cases h1 : rd o 0 = 0
      · have hb : (rd o 0 != 0) = false := by rw [h1]; rfl
        rw [if_pos (show n = 0 ∨ rd o 0 = 0 from .inr h1)]
        simp only [hb]
        exact hgo
      · simp only [if_neg (show ¬ (n = 0 ∨ rd o 0 = 0) by omega), show (rd o 0 != 0) = true by simpa using h1]
        exact ev_end (fun k => by simp only [swarfref38_Order.j0]; rfl)
  · simp only [if_neg h, if_neg (show ¬ (o.length : Int) = (n : Int) by omega)]
    exact ev_end (fun k => by simp only [swarfref38_Order.j0]; rfl)
theorem isOrd_spec {n : Nat} {o : List Int} (h : isOrd n o = true) : o.length = n ∧ (n = 0 ∨ rd o 0 = 0) ∧ (∀ x ∈ o, 0 ≤ x ∧ x < (n : Int)) ∧ o.Nodup := by
  unfold isOrd at h
  split at h
  · rename_i h1
    split at h
    · rename_i h2
      obtain ⟨a, b⟩ := ordS_spec n o _ (by simp) h
      exact ⟨h1, h2, fun x hx => ⟨(a x hx).1, (a x hx).2.1⟩, b⟩
    · cases h
  · cases h

/-! ### Lengths -/
def wy (l : List S31) : List Int → Int
  | [] => 0
  | [_] => 0
  | a :: b :: t => dst (rd_T31 l a) (rd_T31 l b) + wy l (b :: t)
theorem wy_nonneg (l : List S31) : ∀ o : List Int, 0 ≤ wy l o
  | [] => Int.le_refl _
  | [_] => Int.le_refl _
  | a :: b :: t => by
    have := wy_nonneg l (b :: t)
    have := dst_nonneg (rd_T31 l a) (rd_T31 l b)
    simp only [wy]; omega
theorem rd_mem {o : List Int} {i : Int} (h0 : 0 ≤ i) (h1 : i < (o.length : Int)) : rd o i ∈ o := by
  have : i.toNat < o.length := by omega
  have e : rd o i = o[i.toNat] := by unfold rd; simp [List.getD, this]
  rw [e]; exact List.getElem_mem this
theorem length_l0 (l : List S31) (hv : l.all okp = true) (o : List Int) (hl : o.length ≤ 1000) (hr : ∀ x ∈ o, 0 ≤ x ∧ x < (l.length : Int)) (d : Nat) : ∀ (j : Nat) (acc : Int), 0 ≤ acc → acc ≤ 20000000 * j → j + 1 + d = o.length →
    Ev (fun k => tour_length.l0 k l o acc ((j + 1 : Nat) : Int)) (acc + wy l (o.drop j)) ∧ Ev (fun k => swarfref38_way.l0 k l o acc ((j + 1 : Nat) : Int)) (acc + wy l (o.drop j)) := by
  induction d with
  | zero =>
    intro j acc ha0 ha1 hj
    rw [drop_rd o j (by omega), List.drop_eq_nil_of_le (by omega)]
    have e : acc + wy l [rd o (j : Int)] = acc := by simp [wy]
    rw [e]
    exact ⟨ev_end (fun k => by simp only [tour_length.l0]; rw [if_neg (by omega)]), ev_end (fun k => by simp only [swarfref38_way.l0]; rw [if_neg (by omega)])⟩
  | succ d ih =>
    intro j acc ha0 ha1 hj
    have m1 := hr _ (rd_mem (o := o) (i := (j : Int)) (by omega) (by omega))
    have m2 := hr _ (rd_mem (o := o) (i := ((j + 1 : Nat) : Int)) (by omega) (by omega))
    have k1 := ok_at hv _ m1.1 m1.2
    have k2 := ok_at hv _ m2.1 m2.2
    have dn := dst_nonneg (rd_T31 l (rd o (j : Int))) (rd_T31 l (rd o ((j + 1 : Nat) : Int)))
    have dl := dst_le k1 k2
    have hw1 : wrap64 (((j + 1 : Nat) : Int) - 1) = (j : Int) := by rw [wrap_mid _ (by omega) (by omega)]; omega
    have hw2 : wrap64 (((j + 1 : Nat) : Int) + 1) = ((j + 1 + 1 : Nat) : Int) := by rw [wrap_mid _ (by omega) (by omega)]; omega
    have hw3 : wrap64 (acc + dst (rd_T31 l (rd o (j : Int))) (rd_T31 l (rd o ((j + 1 : Nat) : Int)))) = acc + dst (rd_T31 l (rd o (j : Int))) (rd_T31 l (rd o ((j + 1 : Nat) : Int))) := wrap_mid _ (by omega) (by omega)
    have hi := ih (j + 1) (acc + dst (rd_T31 l (rd o (j : Int))) (rd_T31 l (rd o ((j + 1 : Nat) : Int)))) (by omega) (by omega) (by omega)
    have e : acc + wy l (o.drop j) = acc + dst (rd_T31 l (rd o (j : Int))) (rd_T31 l (rd o ((j + 1 : Nat) : Int))) + wy l (o.drop (j + 1)) := by
      rw [drop_rd o j (by omega), drop_rd o (j + 1) (by omega)]
      simp only [wy]; omega
    rw [e]
    constructor
    · refine Ev.step (fun k => ?_) hi.1
      simp only [tour_length.l0]
      rw [if_pos (by omega), hw1, if_pos (by omega), if_pos (by omega), if_pos m1.1, if_pos m1.2, if_pos (by omega), if_pos m2.1, if_pos m2.2, dist_eq k1 k2]
      simp only [Option.bind_some]
      rw [hw2, hw3]
    · refine Ev.step (fun k => ?_) hi.2
      simp only [swarfref38_way.l0]
      rw [if_pos (by omega), hw1, if_pos (by omega), if_pos (by omega), if_pos m1.1, if_pos m1.2, if_pos (by omega), if_pos m2.1, if_pos m2.2, ref_dist_eq k1 k2]
      simp only [Option.bind_some]
      rw [hw2, hw3]
theorem length_ev (l : List S31) (hv : l.all okp = true) (o : List Int) (hl : o.length ≤ 1000) (hr : ∀ x ∈ o, 0 ≤ x ∧ x < (l.length : Int)) : Ev (fun k => tour_length.f k l o) (wy l o) ∧ Ev (fun k => swarfref38_way.f k l o) (wy l o) := by
  unfold tour_length.f swarfref38_way.f
  cases o with
  | nil => exact ⟨ev_end (fun k => by simp only [tour_length.l0]; rfl), ev_end (fun k => by simp only [swarfref38_way.l0]; rfl)⟩
  | cons a t =>
    have := length_l0 l hv (a :: t) hl hr t.length 0 0 (by omega) (by omega) (by simp only [List.length_cons]; omega)
    rw [List.drop_zero, Int.zero_add] at this
    exact this
/-- What Length answers. -/
def lenE (l : List S31) (o : List Int) : Int × Int := if chkE l 200 = 0 then (if isOrd l.length o = true then (wy l o, 0) else (0, 1)) else (0, chkE l 200)
theorem Length_ev (l : List S31) (o : List Int) (hn : l.length ≤ 1000) : Ev (fun k => tour_Length.f k l o) (lenE l o) ∧ Ev (fun k => swarfref38_Length.f k l o) (lenE l o) := by
  unfold tour_Length.f swarfref38_Length.f lenE
  by_cases hc : chkE l 200 = 0
  · obtain ⟨c1, c2⟩ := chkE_zero hc
    rw [if_pos hc]
    by_cases ho : isOrd l.length o = true
    · rw [if_pos ho]
      obtain ⟨o1, o2, o3, o4⟩ := isOrd_spec ho
      have hl := length_ev l c2 o (by omega) o3
      refine ⟨Ev.bind (check_ev l 200 hn) ?_, Ev.bind (rvalid_ev l 200 hn) ?_⟩
      · simp only [if_pos hc]
        refine Ev.bind (isOrder_ev l.length hn o) ?_
        simp only [if_pos ho]
        exact Ev.bind hl.1 (Ev.now _)
      · simp only [if_pos hc]
        refine Ev.bind (rorder_ev l.length hn o) ?_
        simp only [if_pos ho]
        exact Ev.bind hl.2 (Ev.now _)
    · rw [if_neg ho]
      refine ⟨Ev.bind (check_ev l 200 hn) ?_, Ev.bind (rvalid_ev l 200 hn) ?_⟩
      · simp only [if_pos hc]
        refine Ev.bind (isOrder_ev l.length hn o) ?_
        simp only [if_neg ho]
        exact Ev.now _
      · simp only [if_pos hc]
        refine Ev.bind (rorder_ev l.length hn o) ?_
        simp only [if_neg ho]
        exact Ev.now _
  · rw [if_neg hc]
    refine ⟨Ev.bind (check_ev l 200 hn) ?_, Ev.bind (rvalid_ev l 200 hn) ?_⟩
    · simp only [if_neg hc]; exact Ev.now _
    · simp only [if_neg hc]; exact Ev.now _
end Go.Proofs.Ytohjocajaanhaaa.B

/- Least spanning trees: two runs that always add the cheapest edge come to the same sum, and no spanning tree is lighter. Plain numbers and lists. -/
namespace Go.Proofs.Ytohjocajaanhaaa.Mst
set_option linter.unusedVariables false
def wt (c : Nat → Nat → Int) : List (Nat × Nat) → Int
  | [] => 0
  | e :: E => c e.1 e.2 + wt c E
theorem wt_erase (c : Nat → Nat → Int) (e : Nat × Nat) (E : List (Nat × Nat)) (h : e ∈ E) : wt c E = c e.1 e.2 + wt c (E.erase e) := by
  induction E with
  | nil => cases h
  | cons f E ih =>
    rw [List.erase_cons]
    by_cases hf : f = e
    · subst hf; simp [wt]
    · rw [if_neg (by simpa using hf)]
      have := ih ((List.mem_cons.1 h).resolve_left (fun h => hf h.symm))
      simp only [wt]; omega
inductive Conn (E : List (Nat × Nat)) (S : Nat → Prop) : Nat → Prop
  | base {x : Nat} : S x → Conn E S x
  | step {a b : Nat} : Conn E S a → ((a, b) ∈ E ∨ (b, a) ∈ E) → Conn E S b
inductive Out (E : List (Nat × Nat)) (S : Nat → Prop) (b : Nat) : Nat → Prop
  | base : ¬ S b → Out E S b b
  | step {x y : Nat} : Out E S b x → ((x, y) ∈ E ∨ (y, x) ∈ E) → ¬ S y → Out E S b y
theorem Out.not {E : List (Nat × Nat)} {S : Nat → Prop} {b x : Nat} (h : Out E S b x) : ¬ S x := by
  cases h with
  | base h => exact h
  | step _ _ h => exact h
theorem exit {E : List (Nat × Nat)} {S : Nat → Prop} {x : Nat} (h : Conn E S x) : ¬ S x → ∃ a b, S a ∧ ¬ S b ∧ ((a, b) ∈ E ∨ (b, a) ∈ E) ∧ Out E S b x := by
  induction h with
  | base h => intro hn; exact absurd h hn
  | @step a b hc he ih =>
    intro hn
    by_cases ha : S a
    · exact ⟨a, b, ha, hn, he, .base hn⟩
    · obtain ⟨p, q, h1, h2, h3, h4⟩ := ih ha
      exact ⟨p, q, h1, h2, h3, .step h4 he hn⟩
theorem Out.back {E : List (Nat × Nat)} {S : Nat → Prop} {b x : Nat} (h : Out E S b x) (e : Nat × Nat) (he : S e.1 ∨ S e.2) (T : Nat → Prop) : Conn (E.erase e) T x → Conn (E.erase e) T b := by
  induction h with
  | base _ => exact id
  | @step x y hx hxy hy ih =>
    intro hc
    refine ih (.step hc ?_)
    have hnx := hx.not
    rcases hxy with h | h
    · refine .inr ((List.mem_erase_of_ne ?_).2 h)
      rintro rfl
      exact he.elim hnx hy
    · refine .inl ((List.mem_erase_of_ne ?_).2 h)
      rintro rfl
      exact he.elim hy hnx
/-- A run that always adds a cheapest edge out of S: its number of steps and its sum. -/
inductive Run (c : Nat → Nat → Int) (n : Nat) : (Nat → Prop) → Nat → Int → Prop
  | nil {S : Nat → Prop} : (∀ x, x < n → S x) → Run c n S 0 0
  | cons {S : Nat → Prop} {u v k : Nat} {t : Int} : S u → u < n → ¬ S v → v < n → (∀ a b, S a → a < n → ¬ S b → b < n → c u v ≤ c a b) → Run c n (fun x => S x ∨ x = v) k t → Run c n S (k + 1) (c u v + t)
/-- Edges that are added one after the other, each to a new number. -/
inductive Grow (n : Nat) : (Nat → Prop) → List (Nat × Nat) → Prop
  | nil {S : Nat → Prop} : (∀ x, x < n → S x) → Grow n S []
  | cons {S : Nat → Prop} {u v : Nat} {E : List (Nat × Nat)} : S u → u < n → ¬ S v → v < n → Grow n (fun x => S x ∨ x = v) E → Grow n S ((u, v) :: E)
theorem conn_cons {n : Nat} {E : List (Nat × Nat)} {S : Nat → Prop} {u v x : Nat} (hu : S u) (h : Conn E (fun x => S x ∨ x = v) x) : Conn ((u, v) :: E) S x := by
  induction h with
  | base h =>
    rcases h with h | rfl
    · exact .base h
    · exact .step (.base hu) (.inl List.mem_cons_self)
  | step _ he ih => exact .step ih (he.elim (fun h => .inl (List.mem_cons_of_mem _ h)) (fun h => .inr (List.mem_cons_of_mem _ h)))
theorem Grow.conn {n : Nat} {S : Nat → Prop} {E : List (Nat × Nat)} (h : Grow n S E) : ∀ x, x < n → Conn E S x := by
  induction h with
  | nil h => intro x hx; exact .base (h x hx)
  | cons hu _ _ _ _ ih => intro x hx; exact conn_cons (n := n) hu (ih x hx)
theorem Grow.lt {n : Nat} {S : Nat → Prop} {E : List (Nat × Nat)} (h : Grow n S E) : ∀ e ∈ E, e.1 < n ∧ e.2 < n := by
  induction h with
  | nil h => intro e he; cases he
  | cons hu hun _ hv _ ih =>
    intro e he
    rcases List.mem_cons.1 he with rfl | he
    · exact ⟨hun, hv⟩
    · exact ih e he
theorem Run.grow {c : Nat → Nat → Int} {n : Nat} {S : Nat → Prop} {k : Nat} {t : Int} (h : Run c n S k t) : ∃ E, Grow n S E ∧ E.length = k ∧ wt c E = t := by
  induction h with
  | nil h => exact ⟨[], .nil h, rfl, rfl⟩
  | @cons S u v k t hu hun hv hvn hm _ ih =>
    obtain ⟨E, h1, h2, h3⟩ := ih
    exact ⟨(u, v) :: E, .cons hu hun hv hvn h1, by simp [h2], by simp [wt, h3]⟩
theorem Run.least {c : Nat → Nat → Int} (sym : ∀ a b, c a b = c b a) {n : Nat} {S : Nat → Prop} {k : Nat} {t : Int} (h : Run c n S k t) :
    ∀ E, (∀ e ∈ E, e.1 < n ∧ e.2 < n) → (∀ x, x < n → Conn E S x) → E.length = k → t ≤ wt c E := by
  induction h with
  | nil h => intro E _ _ hl; rw [List.eq_nil_of_length_eq_zero hl]; exact Int.le_refl _
  | @cons S u v k t hu hun hv hvn hm _ ih =>
    intro E hlt hc hl
    obtain ⟨a, b, ha, hb, hab, ho⟩ := exit (hc v hvn) hv
    have main : ∀ e : Nat × Nat, e ∈ E → (e = (a, b) ∨ e = (b, a)) → c u v + t ≤ wt c E := by
      intro e he hor
      have hS : S e.1 ∨ S e.2 := by rcases hor with rfl | rfl; exact .inl ha; exact .inr ha
      have hcost : c u v ≤ c e.1 e.2 := by
        rcases hor with rfl | rfl
        · exact hm a b ha (hlt _ he).1 hb (hlt _ he).2
        · have := hm a b ha (hlt _ he).2 hb (hlt _ he).1
          rw [sym a b] at this; exact this
      rw [wt_erase c e E he]
      have hob := ho.back e hS (fun x => S x ∨ x = v) (.base (.inr rfl))
      have : t ≤ wt c (E.erase e) := by
        refine ih (E.erase e) (fun f hf => hlt f (List.mem_of_mem_erase hf)) (fun x hx => ?_) (by rw [List.length_erase_of_mem he]; omega)
        have := hc x hx
        clear hx
        induction this with
        | base h => exact .base (.inl h)
        | @step p q hp hpq ihp =>
          by_cases h1 : (p, q) = e ∨ (q, p) = e
          · have hq : q = a ∨ q = b := by
              rcases h1 with h1 | h1 <;> rcases hor with h2 | h2 <;> rw [h2] at h1 <;> injection h1 with h3 h4 <;> first | exact .inl h3 | exact .inl h4 | exact .inr h3 | exact .inr h4
            rcases hq with rfl | rfl
            · exact .base (.inl ha)
            · exact hob
          · have h2 := not_or.1 h1
            exact .step ihp (hpq.elim (fun h => .inl ((List.mem_erase_of_ne h2.1).2 h)) (fun h => .inr ((List.mem_erase_of_ne h2.2).2 h)))
      omega
    rcases hab with h | h
    · exact main _ h (.inl rfl)
    · exact main _ h (.inr rfl)
/-- No growth is lighter than a run. -/
theorem Run.le {c : Nat → Nat → Int} (sym : ∀ a b, c a b = c b a) {n : Nat} {S : Nat → Prop} {k : Nat} {t : Int} (h : Run c n S k t) {E : List (Nat × Nat)} (hg : Grow n S E) (hl : E.length = k) : t ≤ wt c E :=
  h.least sym E hg.lt hg.conn hl
/-- Two runs come to one sum. -/
theorem Run.same {c : Nat → Nat → Int} (sym : ∀ a b, c a b = c b a) {n : Nat} {S : Nat → Prop} {k : Nat} {t u : Int} (h : Run c n S k t) (g : Run c n S k u) : t = u := by
  obtain ⟨E, h1, h2, h3⟩ := h.grow
  obtain ⟨F, g1, g2, g3⟩ := g.grow
  have a := h.le sym g1 g2
  have b := g.le sym h1 h2
  omega
end Go.Proofs.Ytohjocajaanhaaa.Mst
