import Derived.Test.YtohjocajaanhaaaT5M21
import Derived.Test.YtohjocajaanhaaaT5M25
import Derived.Test.YtohjocajaanhaaaT5M23
-- PRINTED by print.py (a twelfth state) out of the translation. Not trusted: Lean checks it.

namespace Go.Proofs.Ytohjocajaanhaaa.P
open Go.RowKit Go.Proofs.YtohjocajaanhaaaW.PrintWords Go.Proofs.YtohjocajaanhaaaW.PrintLast Go.Proofs.YtohjocajaanhaaaW.PrintMore
attribute [local go_sem] max2_int min2_int max_two min_two max_three min_three max_four min_four   -- for this text's walks alone
set_option linter.unusedVariables false
set_option linter.unusedSimpArgs false

/-! ### swarflaw38_right: function 14 -/
def swarflaw38_right.f (k : Nat) (l0 : List (S31)) (a1 : Int) : Option (Bool) := (swarfref38_Valid.f k l0 a1).bind fun t258 => (some (t258 == 0))
theorem swarflaw38_right.mono : ∀ a0 a1 k, LeO (swarflaw38_right.f k a0 a1) (swarflaw38_right.f (k + 1) a0 a1) := by
  intro a0 a1 k
  unfold swarflaw38_right.f
  repeat' first
      | (with_reducible exact swarfref38_Valid.mono _ _ _)
      | (with_reducible exact LeO.refl _)
      | (with_reducible exact LeO.none _)
      | (with_reducible refine LeO.ite ?_ ?_)
      | (with_reducible refine LeO.bind ?_ (fun _ => ?_))
      | exact swarfref38_Valid.mono _ _ _
      | exact LeO.none _
      | refine LeO.ite ?_ ?_
      | refine LeO.bind ?_ (fun _ => ?_)
set_option maxHeartbeats 8000000 in
set_option maxRecDepth 100000 in
theorem swarflaw38_right.calls (k : Nat) (A0 : Option Addr) (c0 : Nat) (l0 : List (S31)) (a1 : Int) (r : Bool) (w : World) (hr0 : Kd.C k31 w A0 l0.length l0) (hc0 : l0.length ≤ c0) (h : swarflaw38_right.f k l0 a1 = some r) :
    Calls Try.prog 14 #[.slice A0 l0.length c0, .int .i64 a1] w fun e w' => e = .returned (.bool r) ∧ Drawn0 w w' := by
  have HR0 := Aside0.mk hr0
  have HC0 := Aside0.mk hc0
  clear hr0 hc0
  have H : ((swarfref38_Valid.f k l0 a1).bind fun t258 => (some (t258 == 0))) = some r := h
  clear h
  replace H := Option.bind_eq_some_iff.mp H
  obtain ⟨t258, A30, H⟩ := H
  replace H : (some (t258 == 0)) = some r := H
  have A3 := Aside0.mk A30
  clear A30
  obtain rfl := Option.some.inj H
  go_enter Try.func14, Try.ntmps14
  go_wp2_with (first | ((with_reducible refine gate_callee (f := 31) rfl ?_); refine goesL_ (some 7) rfl rfl Try.func31 (by kernel_rfl) rfl #[.slice A0 l0.length c0, .int .i64 a1] rfl (by (try simp only [List.map_toArray, List.map_cons, List.map_nil]); first | done | rfl | (simp only [List.length_drop, List.length_take]; rfl)) ?_; (with_reducible refine (swarfref38_Valid.calls k _ _ l0 a1 t258 _ ?side1 ?side2 A3.out).mono ?_); (case side1 => repeat (first | exact HR0.out | (with_reducible refine Kd.C_alloc ?_ _) | (with_reducible refine Kd.C_drewN ?_ _) | (with_reducible refine Kd.C_drew ?_))); (case side2 => exact HC0.out); rintro e w' ⟨rfl, ⟨nd, rfl⟩⟩; refine ⟨_, rfl, ?_⟩))
  go_ret
  exact ⟨by first | rfl | (simp; done) | (simp [*]; done), by repeat (first | exact Drawn0.refl _ | apply Drawn0.step)⟩

end Go.Proofs.Ytohjocajaanhaaa.P

-- PRINTED by print.py (a twelfth state) out of the translation. Not trusted: Lean checks it.

namespace Go.Proofs.Ytohjocajaanhaaa.P
open Go.RowKit Go.Proofs.YtohjocajaanhaaaW.PrintWords Go.Proofs.YtohjocajaanhaaaW.PrintLast Go.Proofs.YtohjocajaanhaaaW.PrintMore
attribute [local go_sem] max2_int min2_int max_two min_two max_three min_three max_four min_four   -- for this text's walks alone
set_option linter.unusedVariables false
set_option linter.unusedSimpArgs false

/-! ### swarflaw38_TourProof: function 7 -/
def swarflaw38_TourProof.j0 : Nat → List (S31) → List Int → Bool → Option (Bool)
  | 0, _, _, _ => none
  | k + 1, x0, x1, x28 => if x28 = true then ((swarflaw38_awake.f k).bind fun t438 => (some t438)) else ((tour_Exact.f k x0).bind fun bt439 => ((tour_Bound.f k x0 x1).bind fun bt444 => (if 0 ≤ (x0.length : Int) then (if ((x0.length : Int) : Int).toNat ≤ 35184372088832 then ((tour_Bound.f k x0 (List.replicate ((x0.length : Int) : Int).toNat 0)).bind fun bt449 => (if bt439.2.2 = 0 then (if bt444.2 = 0 then (if bt444.1 ≤ bt439.2.1 then (if bt449.2 = 0 then ((tour_Tree.f k x0).bind fun t451 => (if bt449.1 = t451 then (some (decide (bt449.1 ≤ bt439.2.1))) else (some false))) else (some false)) else (some false)) else (if bt449.2 = 0 then ((tour_Tree.f k x0).bind fun t452 => (if bt449.1 = t452 then (some (decide (bt449.1 ≤ bt439.2.1))) else (some false))) else (some false))) else (some false))) else (none)) else (none))))
def swarflaw38_TourProof.f (k : Nat) (l0 : List (S31)) (l1 : List Int) : Option (Bool) := (swarflaw38_awake.f k).bind fun t436 => (if t436 = true then ((swarflaw38_right.f k l0 7).bind fun t437 => (if t437 = true then (if (l0.length : Int) = 0 then (swarflaw38_TourProof.j0 k l0 l1 true) else (swarflaw38_TourProof.j0 k l0 l1 (decide ((l1.length : Int) > 20)))) else (swarflaw38_TourProof.j0 k l0 l1 true))) else (swarflaw38_TourProof.j0 k l0 l1 true))
theorem swarflaw38_TourProof.mono_l : ∀ k, (∀ y0 y1 y2, LeO (swarflaw38_TourProof.j0 k y0 y1 y2) (swarflaw38_TourProof.j0 (k + 1) y0 y1 y2))
  | 0 => fun _ _ _ r h => by simp [swarflaw38_TourProof.j0] at h
  | k + 1 => by
    have ih0 := swarflaw38_TourProof.mono_l k
    · intro y0 y1 y2
      unfold swarflaw38_TourProof.j0
      repeat' first
      | (with_reducible exact ih0 _ _ _)
      | (with_reducible exact swarflaw38_awake.mono _)
      | (with_reducible exact swarflaw38_right.mono _ _ _)
      | (with_reducible exact tour_Bound.mono _ _ _)
      | (with_reducible exact tour_Exact.mono _ _)
      | (with_reducible exact tour_Tree.mono _ _)
      | (with_reducible exact LeO.refl _)
      | (with_reducible exact LeO.none _)
      | (with_reducible refine LeO.ite ?_ ?_)
      | (with_reducible refine LeO.bind ?_ (fun _ => ?_))
      | exact ih0 _ _ _
      | exact swarflaw38_awake.mono _
      | exact swarflaw38_right.mono _ _ _
      | exact tour_Bound.mono _ _ _
      | exact tour_Exact.mono _ _
      | exact tour_Tree.mono _ _
      | exact LeO.none _
      | refine LeO.ite ?_ ?_
      | refine LeO.bind ?_ (fun _ => ?_)
theorem swarflaw38_TourProof.mono : ∀ a0 a1 k, LeO (swarflaw38_TourProof.f k a0 a1) (swarflaw38_TourProof.f (k + 1) a0 a1) := by
  intro a0 a1 k
  have ih0 := swarflaw38_TourProof.mono_l k
  unfold swarflaw38_TourProof.f
  repeat' first
      | (with_reducible exact ih0 _ _ _)
      | (with_reducible exact swarflaw38_awake.mono _)
      | (with_reducible exact swarflaw38_right.mono _ _ _)
      | (with_reducible exact tour_Bound.mono _ _ _)
      | (with_reducible exact tour_Exact.mono _ _)
      | (with_reducible exact tour_Tree.mono _ _)
      | (with_reducible exact LeO.refl _)
      | (with_reducible exact LeO.none _)
      | (with_reducible refine LeO.ite ?_ ?_)
      | (with_reducible refine LeO.bind ?_ (fun _ => ?_))
      | exact ih0 _ _ _
      | exact swarflaw38_awake.mono _
      | exact swarflaw38_right.mono _ _ _
      | exact tour_Bound.mono _ _ _
      | exact tour_Exact.mono _ _
      | exact tour_Tree.mono _ _
      | exact LeO.none _
      | refine LeO.ite ?_ ?_
      | refine LeO.bind ?_ (fun _ => ?_)
set_option maxHeartbeats 8000000 in
set_option maxRecDepth 100000 in
theorem swarflaw38_TourProof.calls (k : Nat) (A0 : Option Addr) (c0 : Nat) (l0 : List (S31)) (A1 : Option Addr) (c1 : Nat) (l1 : List Int) (r : Bool) (w : World) (hr0 : Kd.C k31 w A0 l0.length l0) (hc0 : l0.length ≤ c0) (hr1 : Kd.C (Kd.int .i64) w A1 l1.length l1) (hc1 : l1.length ≤ c1) (h : swarflaw38_TourProof.f k l0 l1 = some r) (hr : r = true) :
    Calls Try.prog 7 #[.slice A0 l0.length c0, .slice A1 l1.length c1] w fun e w' => e = .returned (.bool r) ∧ Below w.heap.size w w' := by
  have HRT := Aside0.mk hr
  clear hr
  have HR0 := Aside0.mk hr0
  have HC0 := Aside0.mk hc0
  clear hr0 hc0
  have HR1 := Aside0.mk hr1
  have HC1 := Aside0.mk hc1
  clear hr1 hc1
  have HB := Aside0.mk (Below.refl w.heap.size w)
  have H : ((swarflaw38_awake.f k).bind fun t436 => (if t436 = true then ((swarflaw38_right.f k l0 7).bind fun t437 => (if t437 = true then (if (l0.length : Int) = 0 then (swarflaw38_TourProof.j0 k l0 l1 true) else (swarflaw38_TourProof.j0 k l0 l1 (decide ((l1.length : Int) > 20)))) else (swarflaw38_TourProof.j0 k l0 l1 true))) else (swarflaw38_TourProof.j0 k l0 l1 true))) = some r := h
  clear h
  have HC3 := Aside0.mk H
  clear H
  go_enter Try.func7, Try.ntmps7
  go_upto_region 1 with (fail)
  go_cut [28] (fun v28 wc => ∃ (kq : Nat) (x28_2 : Bool), v28 = .bool x28_2 ∧ Aside0 (swarflaw38_TourProof.j0 kq l0 l1 x28_2 = some r) ∧ Aside0 (kq ≤ k) ∧ Aside0 (Below w.heap.size w wc))
  case first =>
    have H := HC3.out
    clear HC3
    replace H := Option.bind_eq_some_iff.mp H
    obtain ⟨t436, A40, H⟩ := H
    replace H : (if t436 = true then ((swarflaw38_right.f k l0 7).bind fun t437 => (if t437 = true then (if (l0.length : Int) = 0 then (swarflaw38_TourProof.j0 k l0 l1 true) else (swarflaw38_TourProof.j0 k l0 l1 (decide ((l1.length : Int) > 20)))) else (swarflaw38_TourProof.j0 k l0 l1 true))) else (swarflaw38_TourProof.j0 k l0 l1 true)) = some r := H
    have A4 := Aside0.mk A40
    clear A40
    by_cases c5 : t436 = true
    · subst c5
      have H1 : ((swarflaw38_right.f k l0 7).bind fun t437 => (if t437 = true then (if (l0.length : Int) = 0 then (swarflaw38_TourProof.j0 k l0 l1 true) else (swarflaw38_TourProof.j0 k l0 l1 (decide ((l1.length : Int) > 20)))) else (swarflaw38_TourProof.j0 k l0 l1 true))) = some r := by rw [if_pos rfl] at H; exact H
      clear H
      have H := H1
      clear H1
      replace H := Option.bind_eq_some_iff.mp H
      obtain ⟨t437, A60, H⟩ := H
      replace H : (if t437 = true then (if (l0.length : Int) = 0 then (swarflaw38_TourProof.j0 k l0 l1 true) else (swarflaw38_TourProof.j0 k l0 l1 (decide ((l1.length : Int) > 20)))) else (swarflaw38_TourProof.j0 k l0 l1 true)) = some r := H
      have A6 := Aside0.mk A60
      clear A60
      by_cases c7 : t437 = true
      · subst c7
        have H1 : (if (l0.length : Int) = 0 then (swarflaw38_TourProof.j0 k l0 l1 true) else (swarflaw38_TourProof.j0 k l0 l1 (decide ((l1.length : Int) > 20)))) = some r := by rw [if_pos rfl] at H; exact H
        clear H
        have H := H1
        clear H1
        by_cases c8 : (l0.length : Int) = 0
        · rw [if_pos c8] at H
          have c8b0 : ((l0.length : Int) == 0) = true := beq_iff_eq.mpr c8
          have c8b1 : ((l0.length : Int) != 0) = false := bne_eq_false_iff_eq.mpr c8
          clear c8
          (first | rw [c8b0] | (simp only [i64_w, i32_w]; rw [c8b0]) | skip)
          have H' := Aside0.mk H
          clear H
          go_wp2_with (first | ((with_reducible refine gate_callee (f := 10) rfl ?_); refine goesL_ (some 12) rfl rfl Try.func10 (by kernel_rfl) rfl #[] rfl (by (try simp only [List.map_toArray, List.map_cons, List.map_nil]); first | done | rfl | (simp only [List.length_drop, List.length_take]; rfl)) ?_; (with_reducible refine (swarflaw38_awake.calls k  true _ A4.out).mono ?_); rintro e w9 ⟨rfl, hb⟩; refine ⟨_, rfl, ?_⟩; have n0_ := Aside0.mk (below_step (by repeat (first | (with_reducible first | exact HB.out | apply below_alloc | apply pw_below_drewN | apply below_drew1) | exact HB.out)) hb); clear HB; have HB := n0_; clear n0_; (try clear hb); (try clear hb2); (try clear hk); (try clear hi)) | (go_at_call 14; (with_reducible refine (swarflaw38_right.calls k _ _ l0 7 true _ ?side1 ?side2 A6.out).mono ?_); (case side1 => repeat (first | exact (Kd.C_below HR0.out HB.out) | (with_reducible refine Kd.C_alloc ?_ _) | (with_reducible refine Kd.C_drewN ?_ _) | (with_reducible refine Kd.C_drew ?_))); (case side2 => exact HC0.out); rintro e w' ⟨rfl, ⟨nd, rfl⟩⟩))
          go_meet
          case rel => exact ⟨_, (true), (by first | rfl | (simp; done) | (simp [*]; done)), H', ⟨by first | omega | exact Nat.le_refl _⟩, ⟨by repeat (first | (with_reducible first | exact HB.out | apply below_alloc | apply pw_below_drewN | apply below_drew1) | exact HB.out)⟩⟩
        · rw [if_neg c8] at H
          have c8b0 : ((l0.length : Int) == 0) = false := beq_eq_false_iff_ne.mpr c8
          have c8b1 : ((l0.length : Int) != 0) = true := bne_iff_ne.mpr c8
          have c8b2 : ¬ (l0 = []) := fun h_ => c8 (by rw [h_]; rfl)
          (first | rw [c8b0] | (simp only [i64_w, i32_w]; rw [c8b0]) | skip)
          have H' := Aside0.mk H
          clear H
          go_wp2_with (first | ((with_reducible refine gate_callee (f := 10) rfl ?_); refine goesL_ (some 12) rfl rfl Try.func10 (by kernel_rfl) rfl #[] rfl (by (try simp only [List.map_toArray, List.map_cons, List.map_nil]); first | done | rfl | (simp only [List.length_drop, List.length_take]; rfl)) ?_; (with_reducible refine (swarflaw38_awake.calls k  true _ A4.out).mono ?_); rintro e w10 ⟨rfl, hb⟩; refine ⟨_, rfl, ?_⟩; have n0_ := Aside0.mk (below_step (by repeat (first | (with_reducible first | exact HB.out | apply below_alloc | apply pw_below_drewN | apply below_drew1) | exact HB.out)) hb); clear HB; have HB := n0_; clear n0_; (try clear hb); (try clear hb2); (try clear hk); (try clear hi)) | (go_at_call 14; (with_reducible refine (swarflaw38_right.calls k _ _ l0 7 true _ ?side1 ?side2 A6.out).mono ?_); (case side1 => repeat (first | exact (Kd.C_below HR0.out HB.out) | (with_reducible refine Kd.C_alloc ?_ _) | (with_reducible refine Kd.C_drewN ?_ _) | (with_reducible refine Kd.C_drew ?_))); (case side2 => exact HC0.out); rintro e w' ⟨rfl, ⟨nd, rfl⟩⟩))
          go_meet
          case rel => exact ⟨_, (decide ((l1.length : Int) > 20)), (by first | rfl | (simp; done) | (simp [*]; done)), H', ⟨by first | omega | exact Nat.le_refl _⟩, ⟨by repeat (first | (with_reducible first | exact HB.out | apply below_alloc | apply pw_below_drewN | apply below_drew1) | exact HB.out)⟩⟩
      · replace c7 := Bool.eq_false_iff.mpr c7
        subst c7
        have H1 : (swarflaw38_TourProof.j0 k l0 l1 true) = some r := by rw [if_neg (show ¬ (false = true) by decide)] at H; exact H
        clear H
        have H := H1
        clear H1
        have H' := Aside0.mk H
        clear H
        go_wp2_with (first | ((with_reducible refine gate_callee (f := 10) rfl ?_); refine goesL_ (some 12) rfl rfl Try.func10 (by kernel_rfl) rfl #[] rfl (by (try simp only [List.map_toArray, List.map_cons, List.map_nil]); first | done | rfl | (simp only [List.length_drop, List.length_take]; rfl)) ?_; (with_reducible refine (swarflaw38_awake.calls k  true _ A4.out).mono ?_); rintro e w11 ⟨rfl, hb⟩; refine ⟨_, rfl, ?_⟩; have n0_ := Aside0.mk (below_step (by repeat (first | (with_reducible first | exact HB.out | apply below_alloc | apply pw_below_drewN | apply below_drew1) | exact HB.out)) hb); clear HB; have HB := n0_; clear n0_; (try clear hb); (try clear hb2); (try clear hk); (try clear hi)) | (go_at_call 14; (with_reducible refine (swarflaw38_right.calls k _ _ l0 7 false _ ?side1 ?side2 A6.out).mono ?_); (case side1 => repeat (first | exact (Kd.C_below HR0.out HB.out) | (with_reducible refine Kd.C_alloc ?_ _) | (with_reducible refine Kd.C_drewN ?_ _) | (with_reducible refine Kd.C_drew ?_))); (case side2 => exact HC0.out); rintro e w' ⟨rfl, ⟨nd, rfl⟩⟩))
        go_meet
        case rel => exact ⟨_, (true), (by first | rfl | (simp; done) | (simp [*]; done)), H', ⟨by first | omega | exact Nat.le_refl _⟩, ⟨by repeat (first | (with_reducible first | exact HB.out | apply below_alloc | apply pw_below_drewN | apply below_drew1) | exact HB.out)⟩⟩
    · replace c5 := Bool.eq_false_iff.mpr c5
      subst c5
      have H1 : (swarflaw38_TourProof.j0 k l0 l1 true) = some r := by rw [if_neg (show ¬ (false = true) by decide)] at H; exact H
      clear H
      have H := H1
      clear H1
      have H' := Aside0.mk H
      clear H
      go_wp2_with (first | ((with_reducible refine gate_callee (f := 10) rfl ?_); refine goesL_ (some 12) rfl rfl Try.func10 (by kernel_rfl) rfl #[] rfl (by (try simp only [List.map_toArray, List.map_cons, List.map_nil]); first | done | rfl | (simp only [List.length_drop, List.length_take]; rfl)) ?_; (with_reducible refine (swarflaw38_awake.calls k  false _ A4.out).mono ?_); rintro e w12 ⟨rfl, hb⟩; refine ⟨_, rfl, ?_⟩; have n0_ := Aside0.mk (below_step (by repeat (first | (with_reducible first | exact HB.out | apply below_alloc | apply pw_below_drewN | apply below_drew1) | exact HB.out)) hb); clear HB; have HB := n0_; clear n0_; (try clear hb); (try clear hb2); (try clear hk); (try clear hi)))
      go_meet
      case rel => exact ⟨_, (true), (by first | rfl | (simp; done) | (simp [*]; done)), H', ⟨by first | omega | exact Nat.le_refl _⟩, ⟨by repeat (first | (with_reducible first | exact HB.out | apply below_alloc | apply pw_below_drewN | apply below_drew1) | exact HB.out)⟩⟩
  case rest =>
    clear HC3
    try clear c1
    try clear p2
    try clear c5
    try clear c7
    try clear c8
    try clear c8b0
    try clear c8b1
    try clear c8b2
    try clear c10
    obtain ⟨kq, x28_2, rfl, HA, HJ2, HB⟩ := hcut
    cases kq with
    | zero => exact absurd HA.out (by simp [swarflaw38_TourProof.j0])
    | succ kj2 =>
      have H := HA.out
      clear HA
      simp only [swarflaw38_TourProof.j0] at H
      by_cases c13 : x28_2 = true
      · subst c13
        have H1 : ((swarflaw38_awake.f kj2).bind fun t438 => (some t438)) = some r := by rw [if_pos rfl] at H; exact H
        clear H
        have H := H1
        clear H1
        replace H := Option.bind_eq_some_iff.mp H
        obtain ⟨t438, A140, H⟩ := H
        replace H : (some t438) = some r := H
        have A14 := Aside0.mk A140
        clear A140
        obtain rfl := Option.some.inj H
        go_wp2_with (first | ((with_reducible refine gate_callee (f := 10) rfl ?_); refine goesL_ (some 29) rfl rfl Try.func10 (by kernel_rfl) rfl #[] rfl (by (try simp only [List.map_toArray, List.map_cons, List.map_nil]); first | done | rfl | (simp only [List.length_drop, List.length_take]; rfl)) ?_; (with_reducible refine (swarflaw38_awake.calls kj2  t438 _ A14.out).mono ?_); rintro e w15 ⟨rfl, hb⟩; refine ⟨_, rfl, ?_⟩; have n0_ := Aside0.mk (below_step (by repeat (first | (with_reducible first | exact HB.out | apply below_alloc | apply pw_below_drewN | apply below_drew1) | exact HB.out)) hb); clear HB; have HB := n0_; clear n0_; (try clear hb); (try clear hb2); (try clear hk); (try clear hi)))
        go_ret
        exact ⟨by first | rfl | (simp [errW_none, errW_some] <;> rfl) | (simp [*, errW_none, errW_some] <;> rfl), by repeat (first | (with_reducible first | exact HB.out | apply below_alloc | apply pw_below_drewN | apply below_drew1) | exact HB.out)⟩
      · replace c13 := Bool.eq_false_iff.mpr c13
        subst c13
        have H1 : ((tour_Exact.f kj2 l0).bind fun bt439 => ((tour_Bound.f kj2 l0 l1).bind fun bt444 => (if 0 ≤ (l0.length : Int) then (if ((l0.length : Int) : Int).toNat ≤ 35184372088832 then ((tour_Bound.f kj2 l0 (List.replicate ((l0.length : Int) : Int).toNat 0)).bind fun bt449 => (if bt439.2.2 = 0 then (if bt444.2 = 0 then (if bt444.1 ≤ bt439.2.1 then (if bt449.2 = 0 then ((tour_Tree.f kj2 l0).bind fun t451 => (if bt449.1 = t451 then (some (decide (bt449.1 ≤ bt439.2.1))) else (some false))) else (some false)) else (some false)) else (if bt449.2 = 0 then ((tour_Tree.f kj2 l0).bind fun t452 => (if bt449.1 = t452 then (some (decide (bt449.1 ≤ bt439.2.1))) else (some false))) else (some false))) else (some false))) else (none)) else (none)))) = some r := by rw [if_neg (show ¬ (false = true) by decide)] at H; exact H
        clear H
        have H := H1
        clear H1
        replace H := Option.bind_eq_some_iff.mp H
        obtain ⟨⟨t439, t440, t441⟩, A160, H⟩ := H
        replace H : ((tour_Bound.f kj2 l0 l1).bind fun bt444 => (if 0 ≤ (l0.length : Int) then (if ((l0.length : Int) : Int).toNat ≤ 35184372088832 then ((tour_Bound.f kj2 l0 (List.replicate ((l0.length : Int) : Int).toNat 0)).bind fun bt449 => (if t441 = 0 then (if bt444.2 = 0 then (if bt444.1 ≤ t440 then (if bt449.2 = 0 then ((tour_Tree.f kj2 l0).bind fun t451 => (if bt449.1 = t451 then (some (decide (bt449.1 ≤ t440))) else (some false))) else (some false)) else (some false)) else (if bt449.2 = 0 then ((tour_Tree.f kj2 l0).bind fun t452 => (if bt449.1 = t452 then (some (decide (bt449.1 ≤ t440))) else (some false))) else (some false))) else (some false))) else (none)) else (none))) = some r := H
        have A16 := Aside0.mk A160
        clear A160
        replace H := Option.bind_eq_some_iff.mp H
        obtain ⟨⟨t444, t445⟩, A170, H⟩ := H
        replace H : (if 0 ≤ (l0.length : Int) then (if ((l0.length : Int) : Int).toNat ≤ 35184372088832 then ((tour_Bound.f kj2 l0 (List.replicate ((l0.length : Int) : Int).toNat 0)).bind fun bt449 => (if t441 = 0 then (if t445 = 0 then (if t444 ≤ t440 then (if bt449.2 = 0 then ((tour_Tree.f kj2 l0).bind fun t451 => (if bt449.1 = t451 then (some (decide (bt449.1 ≤ t440))) else (some false))) else (some false)) else (some false)) else (if bt449.2 = 0 then ((tour_Tree.f kj2 l0).bind fun t452 => (if bt449.1 = t452 then (some (decide (bt449.1 ≤ t440))) else (some false))) else (some false))) else (some false))) else (none)) else (none)) = some r := H
        have A17 := Aside0.mk A170
        clear A170
        by_cases c18 : 0 ≤ (l0.length : Int)
        · rw [if_pos c18] at H
          have c18b0 := eq_true c18
          have c18b1 : decide (0 ≤ (l0.length : Int)) = true := decide_eq_true c18
          clear c18
          by_cases c19 : ((l0.length : Int) : Int).toNat ≤ 35184372088832
          · rw [if_pos c19] at H
            have c19b0 := eq_true c19
            have c19b1 : decide (((l0.length : Int) : Int).toNat ≤ 35184372088832) = true := decide_eq_true c19
            clear c19
            obtain ⟨y446, hy446⟩ : ∃ y_ : List Int, y_ = (List.replicate ((l0.length : Int) : Int).toNat 0) := ⟨_, rfl⟩
            replace H : ((tour_Bound.f kj2 l0 y446).bind fun bt449 => (if t441 = 0 then (if t445 = 0 then (if t444 ≤ t440 then (if bt449.2 = 0 then ((tour_Tree.f kj2 l0).bind fun t451 => (if bt449.1 = t451 then (some (decide (bt449.1 ≤ t440))) else (some false))) else (some false)) else (some false)) else (if bt449.2 = 0 then ((tour_Tree.f kj2 l0).bind fun t452 => (if bt449.1 = t452 then (some (decide (bt449.1 ≤ t440))) else (some false))) else (some false))) else (some false))) = some r := by first | (rw [hy446]; with_reducible exact H) | (have H2_ := (Option.bind_some _ _).symm.trans H; rw [hy446]; with_reducible exact H2_) | (have H2_ := (Option.bind_some _ _).symm.trans H; with_reducible exact H2_) | with_reducible exact H | (rw [hy446]; exact H) | exact H
            have Ny446 := Aside0.mk hy446
            clear hy446
            replace H := Option.bind_eq_some_iff.mp H
            obtain ⟨⟨t449, t450⟩, A200, H⟩ := H
            replace H : (if t441 = 0 then (if t445 = 0 then (if t444 ≤ t440 then (if t450 = 0 then ((tour_Tree.f kj2 l0).bind fun t451 => (if t449 = t451 then (some (decide (t449 ≤ t440))) else (some false))) else (some false)) else (some false)) else (if t450 = 0 then ((tour_Tree.f kj2 l0).bind fun t452 => (if t449 = t452 then (some (decide (t449 ≤ t440))) else (some false))) else (some false))) else (some false)) = some r := H
            have A20 := Aside0.mk A200
            clear A200
            by_cases c21 : t441 = 0
            · rw [if_pos c21] at H
              have c21b0 : (t441 == 0) = true := beq_iff_eq.mpr c21
              have c21b1 : (t441 != 0) = false := bne_eq_false_iff_eq.mpr c21
              clear c21
              by_cases c22 : t445 = 0
              · rw [if_pos c22] at H
                have c22b0 : (t445 == 0) = true := beq_iff_eq.mpr c22
                have c22b1 : (t445 != 0) = false := bne_eq_false_iff_eq.mpr c22
                clear c22
                by_cases c23 : t444 ≤ t440
                · rw [if_pos c23] at H
                  have c23b0 : decide (t444 ≤ t440) = true := decide_eq_true c23
                  clear c23
                  by_cases c24 : t450 = 0
                  · rw [if_pos c24] at H
                    have c24b0 : (t450 == 0) = true := beq_iff_eq.mpr c24
                    have c24b1 : (t450 != 0) = false := bne_eq_false_iff_eq.mpr c24
                    clear c24
                    replace H := Option.bind_eq_some_iff.mp H
                    obtain ⟨t451, A250, H⟩ := H
                    replace H : (if t449 = t451 then (some (decide (t449 ≤ t440))) else (some false)) = some r := H
                    have A25 := Aside0.mk A250
                    clear A250
                    by_cases c26 : t449 = t451
                    · rw [if_pos c26] at H
                      have c26b0 : (t449 == t451) = true := beq_iff_eq.mpr c26
                      have c26b1 : (t449 != t451) = false := bne_eq_false_iff_eq.mpr c26
                      clear c26
                      obtain rfl := Option.some.inj H
                      go_wp2_with (first | ((with_reducible refine gate_callee (f := 22) rfl ?_); refine goesL_ (some 32) rfl rfl Try.func22 (by kernel_rfl) rfl #[.slice A0 l0.length c0] rfl (by (try simp only [List.map_toArray, List.map_cons, List.map_nil]); first | done | rfl | (simp only [List.length_drop, List.length_take]; rfl)) ?_; (with_reducible refine (tour_Exact.calls kj2 _ _ l0 t439 t440 t441 _ ?side1 ?side2 A16.out).mono ?_); (case side1 => repeat (first | exact (Kd.C_below HR0.out HB.out) | (with_reducible refine Kd.C_alloc ?_ _) | (with_reducible refine Kd.C_drewN ?_ _) | (with_reducible refine Kd.C_drew ?_))); (case side2 => exact HC0.out); rintro e w27 ⟨v442, rfl, ho0, hb⟩; refine ⟨_, rfl, ?_⟩; have n0_ := Aside0.mk (Kd.R_lower ho0 (below_size (by repeat (first | (with_reducible first | exact HB.out | apply below_alloc | apply pw_below_drewN | apply below_drew1) | exact HB.out)))); have n1_ := Aside0.mk (below_step (by repeat (first | (with_reducible first | exact HB.out | apply below_alloc | apply pw_below_drewN | apply below_drew1) | exact HB.out)) hb); clear HB; have HO443 := n0_; have HB := n1_; clear n0_ n1_; (try clear hb); (try clear hb2); (try clear hk); (try clear hi); (try clear ho0)) | ((with_reducible refine gate_callee (f := 24) rfl ?_); refine goesL_ (some 39) rfl rfl Try.func24 (by kernel_rfl) rfl #[.slice A0 l0.length c0, .slice A1 l1.length c1] rfl (by (try simp only [List.map_toArray, List.map_cons, List.map_nil]); first | done | rfl | (simp only [List.length_drop, List.length_take]; rfl)) ?_; (with_reducible refine (tour_Bound.calls kj2 _ _ l0 _ _ l1 t444 t445 _ ?side1 ?side2 ?side3 ?side4 A17.out).mono ?_); (case side1 => repeat (first | exact (Kd.C_below HR0.out HB.out) | (with_reducible refine Kd.C_alloc ?_ _) | (with_reducible refine Kd.C_drewN ?_ _) | (with_reducible refine Kd.C_drew ?_))); (case side2 => exact HC0.out); (case side3 => repeat (first | exact (Kd.C_below HR1.out HB.out) | (with_reducible refine Kd.C_alloc ?_ _) | (with_reducible refine Kd.C_drewN ?_ _) | (with_reducible refine Kd.C_drew ?_))); (case side4 => exact HC1.out); rintro e w28 ⟨rfl, hb⟩; refine ⟨_, rfl, ?_⟩; have n0_ := Aside0.mk (Kd.R_below (by (with_reducible repeat (first | apply Kd.R_alloc | apply Kd.R_drewN | apply Kd.R_drew)); exact HO443.out) hb); have n1_ := Aside0.mk (below_step (by repeat (first | (with_reducible first | exact HB.out | apply below_alloc | apply pw_below_drewN | apply below_drew1) | exact HB.out)) hb); clear HO443; clear HB; have HO443 := n0_; have HB := n1_; clear n0_ n1_; (try clear hb); (try clear hb2); (try clear hk); (try clear hi)) | ((with_reducible refine gate_dst (N := 46) rfl ?_); (try (refine gate_guard (by rfl) ?_; dsimp only)); refine Kd.R_make (Kd.int .i64) _ 2 rfl (N := 46) rfl 39 _ _ rfl (l0.length : Int) rfl rfl Try.underlying39 (.int .i64 0) 8 info2 rfl (by decide) (by omega) 0 (ok := fun _ => True) (okp := fun _ => True) rfl (fun _ hk => hk) trivial (of_decide_eq_true (by first | (with_reducible assumption) | assumption)) (Nat.le_trans (Nat.mul_le_mul_right _ (of_decide_eq_true (by first | (with_reducible assumption) | assumption) : (l0.length : Int).toNat ≤ 35184372088832)) (by omega)) (Below.refl _ _) (Nat.le_refl _) ?_; intro v447 w29 ho30 hb hg_ hnew_; clear hg_ hnew_; (first | rw [← Ny446.out] at ho30 | (simp only [Int.reduceToNat] at ho30; rw [← Ny446.out] at ho30)); have n0_ := Aside0.mk (Kd.R_below (by (with_reducible repeat (first | apply Kd.R_alloc | apply Kd.R_drewN | apply Kd.R_drew)); exact HO443.out) hb); have n1_ := Aside0.mk (Kd.R_lower ho30 (below_size (by repeat (first | (with_reducible first | exact HB.out | apply below_alloc | apply pw_below_drewN | apply below_drew1) | exact HB.out)))); have n2_ := Aside0.mk (below_step (by repeat (first | (with_reducible first | exact HB.out | apply below_alloc | apply pw_below_drewN | apply below_drew1) | exact HB.out)) hb); clear HO443; clear HB; have HO443 := n0_; have HO448 := n1_; have HB := n2_; clear n0_ n1_ n2_; clear hb ho30; obtain ⟨Ao31, co31, eo31⟩ := Kd.R_slice HO448.out; subst eo31) | ((with_reducible refine gate_callee (f := 24) rfl ?_); refine goesL_ (some 47) rfl rfl Try.func24 (by kernel_rfl) rfl #[.slice A0 l0.length c0, .slice Ao31 y446.length co31] rfl (by (try simp only [List.map_toArray, List.map_cons, List.map_nil]); first | done | rfl | (simp only [List.length_drop, List.length_take]; rfl)) ?_; (with_reducible refine (tour_Bound.calls kj2 _ _ l0 _ _ y446 t449 t450 _ ?side1 ?side2 ?side3 ?side4 A20.out).mono ?_); (case side1 => repeat (first | exact (Kd.C_below HR0.out HB.out) | (with_reducible refine Kd.C_alloc ?_ _) | (with_reducible refine Kd.C_drewN ?_ _) | (with_reducible refine Kd.C_drew ?_))); (case side2 => exact HC0.out); (case side3 => repeat (first | exact (Kd.R_reads' HO448.out).2.2 | (with_reducible refine Kd.C_alloc ?_ _) | (with_reducible refine Kd.C_drewN ?_ _) | (with_reducible refine Kd.C_drew ?_))); (case side4 => exact (Kd.R_reads' HO448.out).2.1); rintro e w32 ⟨rfl, hb⟩; refine ⟨_, rfl, ?_⟩; have n0_ := Aside0.mk (Kd.R_below (by (with_reducible repeat (first | apply Kd.R_alloc | apply Kd.R_drewN | apply Kd.R_drew)); exact HO443.out) hb); have n1_ := Aside0.mk (Kd.R_below (by (with_reducible repeat (first | apply Kd.R_alloc | apply Kd.R_drewN | apply Kd.R_drew)); exact HO448.out) hb); have n2_ := Aside0.mk (below_step (by repeat (first | (with_reducible first | exact HB.out | apply below_alloc | apply pw_below_drewN | apply below_drew1) | exact HB.out)) hb); clear HO443; clear HO448; clear HB; have HO443 := n0_; have HO448 := n1_; have HB := n2_; clear n0_ n1_ n2_; (try clear hb); (try clear hb2); (try clear hk); (try clear hi)) | (go_at_call 20; (with_reducible refine (tour_Tree.calls kj2 _ _ l0 t451 _ ?side1 ?side2 A25.out).mono ?_); (case side1 => repeat (first | exact (Kd.C_below HR0.out HB.out) | (with_reducible refine Kd.C_alloc ?_ _) | (with_reducible refine Kd.C_drewN ?_ _) | (with_reducible refine Kd.C_drew ?_))); (case side2 => exact HC0.out); rintro e w33 ⟨rfl, hb⟩; have n0_ := Aside0.mk (Kd.R_below (by (with_reducible repeat (first | apply Kd.R_alloc | apply Kd.R_drewN | apply Kd.R_drew)); exact HO443.out) hb); have n1_ := Aside0.mk (Kd.R_below (by (with_reducible repeat (first | apply Kd.R_alloc | apply Kd.R_drewN | apply Kd.R_drew)); exact HO448.out) hb); have n2_ := Aside0.mk (below_step (by repeat (first | (with_reducible first | exact HB.out | apply below_alloc | apply pw_below_drewN | apply below_drew1) | exact HB.out)) hb); clear HO443; clear HO448; clear HB; have HO443 := n0_; have HO448 := n1_; have HB := n2_; clear n0_ n1_ n2_; (try clear hb); (try clear hb2); (try clear hk); (try clear hi)))
                      go_ret
                      exact ⟨by first | rfl | (simp [errW_none, errW_some] <;> rfl) | (simp [*, errW_none, errW_some] <;> rfl), by repeat (first | (with_reducible first | exact HB.out | apply below_alloc | apply pw_below_drewN | apply below_drew1) | exact HB.out)⟩
                    · rw [if_neg c26] at H
                      have c26b0 : (t449 == t451) = false := beq_eq_false_iff_ne.mpr c26
                      have c26b1 : (t449 != t451) = true := bne_iff_ne.mpr c26
                      (rw [HRT.out] at H; exact absurd H (by decide))
                  · rw [if_neg c24] at H
                    have c24b0 : (t450 == 0) = false := beq_eq_false_iff_ne.mpr c24
                    have c24b1 : (t450 != 0) = true := bne_iff_ne.mpr c24
                    (rw [HRT.out] at H; exact absurd H (by decide))
                · rw [if_neg c23] at H
                  have c23b0 : decide (t444 ≤ t440) = false := decide_eq_false c23
                  clear c23
                  (rw [HRT.out] at H; exact absurd H (by decide))
              · rw [if_neg c22] at H
                have c22b0 : (t445 == 0) = false := beq_eq_false_iff_ne.mpr c22
                have c22b1 : (t445 != 0) = true := bne_iff_ne.mpr c22
                by_cases c53 : t450 = 0
                · rw [if_pos c53] at H
                  have c53b0 : (t450 == 0) = true := beq_iff_eq.mpr c53
                  have c53b1 : (t450 != 0) = false := bne_eq_false_iff_eq.mpr c53
                  clear c53
                  replace H := Option.bind_eq_some_iff.mp H
                  obtain ⟨t452, A540, H⟩ := H
                  replace H : (if t449 = t452 then (some (decide (t449 ≤ t440))) else (some false)) = some r := H
                  have A54 := Aside0.mk A540
                  clear A540
                  by_cases c55 : t449 = t452
                  · rw [if_pos c55] at H
                    have c55b0 : (t449 == t452) = true := beq_iff_eq.mpr c55
                    have c55b1 : (t449 != t452) = false := bne_eq_false_iff_eq.mpr c55
                    clear c55
                    obtain rfl := Option.some.inj H
                    go_wp2_with (first | ((with_reducible refine gate_callee (f := 22) rfl ?_); refine goesL_ (some 32) rfl rfl Try.func22 (by kernel_rfl) rfl #[.slice A0 l0.length c0] rfl (by (try simp only [List.map_toArray, List.map_cons, List.map_nil]); first | done | rfl | (simp only [List.length_drop, List.length_take]; rfl)) ?_; (with_reducible refine (tour_Exact.calls kj2 _ _ l0 t439 t440 t441 _ ?side1 ?side2 A16.out).mono ?_); (case side1 => repeat (first | exact (Kd.C_below HR0.out HB.out) | (with_reducible refine Kd.C_alloc ?_ _) | (with_reducible refine Kd.C_drewN ?_ _) | (with_reducible refine Kd.C_drew ?_))); (case side2 => exact HC0.out); rintro e w56 ⟨v442, rfl, ho0, hb⟩; refine ⟨_, rfl, ?_⟩; have n0_ := Aside0.mk (Kd.R_lower ho0 (below_size (by repeat (first | (with_reducible first | exact HB.out | apply below_alloc | apply pw_below_drewN | apply below_drew1) | exact HB.out)))); have n1_ := Aside0.mk (below_step (by repeat (first | (with_reducible first | exact HB.out | apply below_alloc | apply pw_below_drewN | apply below_drew1) | exact HB.out)) hb); clear HB; have HO443 := n0_; have HB := n1_; clear n0_ n1_; (try clear hb); (try clear hb2); (try clear hk); (try clear hi); (try clear ho0)) | ((with_reducible refine gate_callee (f := 24) rfl ?_); refine goesL_ (some 39) rfl rfl Try.func24 (by kernel_rfl) rfl #[.slice A0 l0.length c0, .slice A1 l1.length c1] rfl (by (try simp only [List.map_toArray, List.map_cons, List.map_nil]); first | done | rfl | (simp only [List.length_drop, List.length_take]; rfl)) ?_; (with_reducible refine (tour_Bound.calls kj2 _ _ l0 _ _ l1 t444 t445 _ ?side1 ?side2 ?side3 ?side4 A17.out).mono ?_); (case side1 => repeat (first | exact (Kd.C_below HR0.out HB.out) | (with_reducible refine Kd.C_alloc ?_ _) | (with_reducible refine Kd.C_drewN ?_ _) | (with_reducible refine Kd.C_drew ?_))); (case side2 => exact HC0.out); (case side3 => repeat (first | exact (Kd.C_below HR1.out HB.out) | (with_reducible refine Kd.C_alloc ?_ _) | (with_reducible refine Kd.C_drewN ?_ _) | (with_reducible refine Kd.C_drew ?_))); (case side4 => exact HC1.out); rintro e w57 ⟨rfl, hb⟩; refine ⟨_, rfl, ?_⟩; have n0_ := Aside0.mk (Kd.R_below (by (with_reducible repeat (first | apply Kd.R_alloc | apply Kd.R_drewN | apply Kd.R_drew)); exact HO443.out) hb); have n1_ := Aside0.mk (below_step (by repeat (first | (with_reducible first | exact HB.out | apply below_alloc | apply pw_below_drewN | apply below_drew1) | exact HB.out)) hb); clear HO443; clear HB; have HO443 := n0_; have HB := n1_; clear n0_ n1_; (try clear hb); (try clear hb2); (try clear hk); (try clear hi)) | ((with_reducible refine gate_dst (N := 46) rfl ?_); (try (refine gate_guard (by rfl) ?_; dsimp only)); refine Kd.R_make (Kd.int .i64) _ 2 rfl (N := 46) rfl 39 _ _ rfl (l0.length : Int) rfl rfl Try.underlying39 (.int .i64 0) 8 info2 rfl (by decide) (by omega) 0 (ok := fun _ => True) (okp := fun _ => True) rfl (fun _ hk => hk) trivial (of_decide_eq_true (by first | (with_reducible assumption) | assumption)) (Nat.le_trans (Nat.mul_le_mul_right _ (of_decide_eq_true (by first | (with_reducible assumption) | assumption) : (l0.length : Int).toNat ≤ 35184372088832)) (by omega)) (Below.refl _ _) (Nat.le_refl _) ?_; intro v447 w58 ho59 hb hg_ hnew_; clear hg_ hnew_; (first | rw [← Ny446.out] at ho59 | (simp only [Int.reduceToNat] at ho59; rw [← Ny446.out] at ho59)); have n0_ := Aside0.mk (Kd.R_below (by (with_reducible repeat (first | apply Kd.R_alloc | apply Kd.R_drewN | apply Kd.R_drew)); exact HO443.out) hb); have n1_ := Aside0.mk (Kd.R_lower ho59 (below_size (by repeat (first | (with_reducible first | exact HB.out | apply below_alloc | apply pw_below_drewN | apply below_drew1) | exact HB.out)))); have n2_ := Aside0.mk (below_step (by repeat (first | (with_reducible first | exact HB.out | apply below_alloc | apply pw_below_drewN | apply below_drew1) | exact HB.out)) hb); clear HO443; clear HB; have HO443 := n0_; have HO448 := n1_; have HB := n2_; clear n0_ n1_ n2_; clear hb ho59; obtain ⟨Ao60, co60, eo60⟩ := Kd.R_slice HO448.out; subst eo60) | ((with_reducible refine gate_callee (f := 24) rfl ?_); refine goesL_ (some 47) rfl rfl Try.func24 (by kernel_rfl) rfl #[.slice A0 l0.length c0, .slice Ao60 y446.length co60] rfl (by (try simp only [List.map_toArray, List.map_cons, List.map_nil]); first | done | rfl | (simp only [List.length_drop, List.length_take]; rfl)) ?_; (with_reducible refine (tour_Bound.calls kj2 _ _ l0 _ _ y446 t449 t450 _ ?side1 ?side2 ?side3 ?side4 A20.out).mono ?_); (case side1 => repeat (first | exact (Kd.C_below HR0.out HB.out) | (with_reducible refine Kd.C_alloc ?_ _) | (with_reducible refine Kd.C_drewN ?_ _) | (with_reducible refine Kd.C_drew ?_))); (case side2 => exact HC0.out); (case side3 => repeat (first | exact (Kd.R_reads' HO448.out).2.2 | (with_reducible refine Kd.C_alloc ?_ _) | (with_reducible refine Kd.C_drewN ?_ _) | (with_reducible refine Kd.C_drew ?_))); (case side4 => exact (Kd.R_reads' HO448.out).2.1); rintro e w61 ⟨rfl, hb⟩; refine ⟨_, rfl, ?_⟩; have n0_ := Aside0.mk (Kd.R_below (by (with_reducible repeat (first | apply Kd.R_alloc | apply Kd.R_drewN | apply Kd.R_drew)); exact HO443.out) hb); have n1_ := Aside0.mk (Kd.R_below (by (with_reducible repeat (first | apply Kd.R_alloc | apply Kd.R_drewN | apply Kd.R_drew)); exact HO448.out) hb); have n2_ := Aside0.mk (below_step (by repeat (first | (with_reducible first | exact HB.out | apply below_alloc | apply pw_below_drewN | apply below_drew1) | exact HB.out)) hb); clear HO443; clear HO448; clear HB; have HO443 := n0_; have HO448 := n1_; have HB := n2_; clear n0_ n1_ n2_; (try clear hb); (try clear hb2); (try clear hk); (try clear hi)) | (go_at_call 20; (with_reducible refine (tour_Tree.calls kj2 _ _ l0 t452 _ ?side1 ?side2 A54.out).mono ?_); (case side1 => repeat (first | exact (Kd.C_below HR0.out HB.out) | (with_reducible refine Kd.C_alloc ?_ _) | (with_reducible refine Kd.C_drewN ?_ _) | (with_reducible refine Kd.C_drew ?_))); (case side2 => exact HC0.out); rintro e w62 ⟨rfl, hb⟩; have n0_ := Aside0.mk (Kd.R_below (by (with_reducible repeat (first | apply Kd.R_alloc | apply Kd.R_drewN | apply Kd.R_drew)); exact HO443.out) hb); have n1_ := Aside0.mk (Kd.R_below (by (with_reducible repeat (first | apply Kd.R_alloc | apply Kd.R_drewN | apply Kd.R_drew)); exact HO448.out) hb); have n2_ := Aside0.mk (below_step (by repeat (first | (with_reducible first | exact HB.out | apply below_alloc | apply pw_below_drewN | apply below_drew1) | exact HB.out)) hb); clear HO443; clear HO448; clear HB; have HO443 := n0_; have HO448 := n1_; have HB := n2_; clear n0_ n1_ n2_; (try clear hb); (try clear hb2); (try clear hk); (try clear hi)))
                    go_ret
                    exact ⟨by first | rfl | (simp [errW_none, errW_some] <;> rfl) | (simp [*, errW_none, errW_some] <;> rfl), by repeat (first | (with_reducible first | exact HB.out | apply below_alloc | apply pw_below_drewN | apply below_drew1) | exact HB.out)⟩
                  · rw [if_neg c55] at H
                    have c55b0 : (t449 == t452) = false := beq_eq_false_iff_ne.mpr c55
                    have c55b1 : (t449 != t452) = true := bne_iff_ne.mpr c55
                    (rw [HRT.out] at H; exact absurd H (by decide))
                · rw [if_neg c53] at H
                  have c53b0 : (t450 == 0) = false := beq_eq_false_iff_ne.mpr c53
                  have c53b1 : (t450 != 0) = true := bne_iff_ne.mpr c53
                  (rw [HRT.out] at H; exact absurd H (by decide))
            · rw [if_neg c21] at H
              have c21b0 : (t441 == 0) = false := beq_eq_false_iff_ne.mpr c21
              have c21b1 : (t441 != 0) = true := bne_iff_ne.mpr c21
              (rw [HRT.out] at H; exact absurd H (by decide))
          · rw [if_neg c19] at H
            exact absurd H (by simp)
        · rw [if_neg c18] at H
          exact absurd H (by simp)

end Go.Proofs.Ytohjocajaanhaaa.P

/- The examples of the chapter hold, told by the printed function. -/

namespace Go.Proofs.Ytohjocajaanhaaa.B
open Go.RowKit Go.Proofs.Ytohjocajaanhaaa.P Go.Proofs.YtohjocajaanhaaaW.PrintWords Go.Proofs.YtohjocajaanhaaaW.PrintLast
theorem awake_ev : Ev (fun k => swarflaw38_awake.f k) true := Ev.of swarflaw38_awake.mono swarflaw38_awake.small
end Go.Proofs.Ytohjocajaanhaaa.B

-- PRINTED by print.py (a twelfth state) out of the translation. Not trusted: Lean checks it.

namespace Go.Proofs.Ytohjocajaanhaaa.P
open Go.RowKit Go.Proofs.YtohjocajaanhaaaW.PrintWords Go.Proofs.YtohjocajaanhaaaW.PrintLast Go.Proofs.YtohjocajaanhaaaW.PrintMore
attribute [local go_sem] max2_int min2_int max_two min_two max_three min_three max_four min_four   -- for this text's walks alone
set_option linter.unusedVariables false
set_option linter.unusedSimpArgs false

/-! ### swarflaw38_few: function 11 -/
def swarflaw38_few.f (l0 : List (S31)) (a1 : Int) : Option (Bool) := if (l0.length : Int) ≤ a1 then (some true) else (if (l0.length : Int) > 199 then (some (decide ((l0.length : Int) < 203))) else (some false))
set_option maxHeartbeats 8000000 in
set_option maxRecDepth 100000 in
theorem swarflaw38_few.calls (A0 : Option Addr) (c0 : Nat) (l0 : List (S31)) (a1 : Int) (r : Bool) (w : World) (hr0 : Kd.C k31 w A0 l0.length l0) (hc0 : l0.length ≤ c0) (h : swarflaw38_few.f l0 a1 = some r) :
    Calls Try.prog 11 #[.slice A0 l0.length c0, .int .i64 a1] w fun e w' => e = .returned (.bool r) ∧ Drawn0 w w' := by
  have HR0 := Aside0.mk hr0
  have HC0 := Aside0.mk hc0
  clear hr0 hc0
  have H : (if (l0.length : Int) ≤ a1 then (some true) else (if (l0.length : Int) > 199 then (some (decide ((l0.length : Int) < 203))) else (some false))) = some r := h
  clear h
  by_cases c3 : (l0.length : Int) ≤ a1
  · rw [if_pos c3] at H
    have c3b0 : decide ((l0.length : Int) ≤ a1) = true := decide_eq_true c3
    clear c3
    obtain rfl := Option.some.inj H
    go_enter Try.func11, Try.ntmps11
    go_wp2
    go_ret
    exact ⟨by first | rfl | (simp; done) | (simp [*]; done), by repeat (first | exact Drawn0.refl _ | apply Drawn0.step)⟩
  · rw [if_neg c3] at H
    have c3b0 : decide ((l0.length : Int) ≤ a1) = false := decide_eq_false c3
    clear c3
    by_cases c4 : (l0.length : Int) > 199
    · rw [if_pos c4] at H
      have c4b0 : decide (199 < (l0.length : Int)) = true := decide_eq_true c4
      have c4b1 : decide (199 < l0.length) = true := decide_eq_true (by omega)
      clear c4
      obtain rfl := Option.some.inj H
      go_enter Try.func11, Try.ntmps11
      go_wp2
      go_ret
      exact ⟨by first | rfl | (simp; done) | (simp [*]; done), by repeat (first | exact Drawn0.refl _ | apply Drawn0.step)⟩
    · rw [if_neg c4] at H
      have c4b0 : decide (199 < (l0.length : Int)) = false := decide_eq_false c4
      have c4b1 : decide (199 < l0.length) = false := decide_eq_false (by omega)
      clear c4
      obtain rfl := Option.some.inj H
      go_enter Try.func11, Try.ntmps11
      go_wp2
      go_ret
      exact ⟨by first | rfl | (simp; done) | (simp [*]; done), by repeat (first | exact Drawn0.refl _ | apply Drawn0.step)⟩

end Go.Proofs.Ytohjocajaanhaaa.P

-- PRINTED by print.py (a twelfth state) out of the translation. Not trusted: Lean checks it.

namespace Go.Proofs.Ytohjocajaanhaaa.P
open Go.RowKit Go.Proofs.YtohjocajaanhaaaW.PrintWords Go.Proofs.YtohjocajaanhaaaW.PrintLast Go.Proofs.YtohjocajaanhaaaW.PrintMore
attribute [local go_sem] max2_int min2_int max_two min_two max_three min_three max_four min_four   -- for this text's walks alone
set_option linter.unusedVariables false
set_option linter.unusedSimpArgs false

/-! ### swarfref38_Order: function 32 -/
mutual
def swarfref38_Order.j0 : Nat → Int → List Int → Bool → Option (Bool)
  | 0, _, _, _ => none
  | k + 1, x0, x1, x20 => if x20 = true then (some false) else (if 0 ≤ x0 then (if (x0 : Int).toNat ≤ 281474976710656 then (swarfref38_Order.l0 k x0 x1 (List.replicate (x0 : Int).toNat false) 0) else (none)) else (none))
def swarfref38_Order.l0 : Nat → Int → List Int → List Bool → Int → Option (Bool)
  | 0, _, _, _, _ => none
  | k + 1, x0, x1, x5, x6 => if x6 < x0 then (if 0 ≤ x6 then (if x6 < (x1.length : Int) then (if (rd x1 x6) < 0 then (some false) else (if (rd x1 x6) ≥ x0 then (some false) else (if 0 ≤ (rd x1 x6) then (if (rd x1 x6) < (x5.length : Int) then (if rdOf false x5 (rd x1 x6) = true then (some false) else (swarfref38_Order.l0 k x0 x1 (x5.set ((rd x1 x6) : Int).toNat true) (wrap64 (x6 + 1)))) else (none)) else (none)))) else (none)) else (none)) else (some true)
end
def swarfref38_Order.f (k : Nat) (a0 : Int) (l1 : List Int) : Option (Bool) := if (l1.length : Int) = a0 then (if a0 > 0 then (if 0 < (l1.length : Int) then (swarfref38_Order.j0 k a0 l1 ((rd l1 0) != 0)) else (none)) else (swarfref38_Order.j0 k a0 l1 false)) else (swarfref38_Order.j0 k a0 l1 true)
theorem swarfref38_Order.mono_l : ∀ k, (∀ y0 y1 y2, LeO (swarfref38_Order.j0 k y0 y1 y2) (swarfref38_Order.j0 (k + 1) y0 y1 y2)) ∧ (∀ y0 y1 y2 y3, LeO (swarfref38_Order.l0 k y0 y1 y2 y3) (swarfref38_Order.l0 (k + 1) y0 y1 y2 y3))
  | 0 => ⟨fun _ _ _ r h => by simp [swarfref38_Order.j0] at h, fun _ _ _ _ r h => by simp [swarfref38_Order.l0] at h⟩
  | k + 1 => by
    obtain ⟨ih0, ih1⟩ := swarfref38_Order.mono_l k
    refine ⟨?_, ?_⟩
    · intro y0 y1 y2
      unfold swarfref38_Order.j0
      repeat' first
      | (with_reducible exact ih0 _ _ _)
      | (with_reducible exact ih1 _ _ _ _)
      | (with_reducible exact LeO.refl _)
      | (with_reducible exact LeO.none _)
      | (with_reducible refine LeO.ite ?_ ?_)
      | (with_reducible refine LeO.bind ?_ (fun _ => ?_))
      | exact ih0 _ _ _
      | exact ih1 _ _ _ _
      | exact LeO.none _
      | refine LeO.ite ?_ ?_
      | refine LeO.bind ?_ (fun _ => ?_)
    · intro y0 y1 y2 y3
      unfold swarfref38_Order.l0
      repeat' first
      | (with_reducible exact ih0 _ _ _)
      | (with_reducible exact ih1 _ _ _ _)
      | (with_reducible exact LeO.refl _)
      | (with_reducible exact LeO.none _)
      | (with_reducible refine LeO.ite ?_ ?_)
      | (with_reducible refine LeO.bind ?_ (fun _ => ?_))
      | exact ih0 _ _ _
      | exact ih1 _ _ _ _
      | exact LeO.none _
      | refine LeO.ite ?_ ?_
      | refine LeO.bind ?_ (fun _ => ?_)
theorem swarfref38_Order.mono : ∀ a0 a1 k, LeO (swarfref38_Order.f k a0 a1) (swarfref38_Order.f (k + 1) a0 a1) := by
  intro a0 a1 k
  obtain ⟨ih0, ih1⟩ := swarfref38_Order.mono_l k
  unfold swarfref38_Order.f
  repeat' first
      | (with_reducible exact ih0 _ _ _)
      | (with_reducible exact ih1 _ _ _ _)
      | (with_reducible exact LeO.refl _)
      | (with_reducible exact LeO.none _)
      | (with_reducible refine LeO.ite ?_ ?_)
      | (with_reducible refine LeO.bind ?_ (fun _ => ?_))
      | exact ih0 _ _ _
      | exact ih1 _ _ _ _
      | exact LeO.none _
      | refine LeO.ite ?_ ?_
      | refine LeO.bind ?_ (fun _ => ?_)
set_option maxHeartbeats 8000000 in
set_option maxRecDepth 100000 in
theorem swarfref38_Order.calls (k : Nat) (a0 : Int) (A1 : Option Addr) (c1 : Nat) (l1 : List Int) (r : Bool) (w : World) (hr1 : Kd.C (Kd.int .i64) w A1 l1.length l1) (hc1 : l1.length ≤ c1) (h : swarfref38_Order.f k a0 l1 = some r) :
    Calls Try.prog 32 #[.int .i64 a0, .slice A1 l1.length c1] w fun e w' => e = .returned (.bool r) ∧ Below w.heap.size w w' := by
  have HR1 := Aside0.mk hr1
  have HC1 := Aside0.mk hc1
  clear hr1 hc1
  have HB := Aside0.mk (Below.refl w.heap.size w)
  have H : (if (l1.length : Int) = a0 then (if a0 > 0 then (if 0 < (l1.length : Int) then (swarfref38_Order.j0 k a0 l1 ((rd l1 0) != 0)) else (none)) else (swarfref38_Order.j0 k a0 l1 false)) else (swarfref38_Order.j0 k a0 l1 true)) = some r := h
  clear h
  have HC3 := Aside0.mk H
  clear H
  go_enter Try.func32, Try.ntmps32
  go_upto_region 1 with (fail)
  go_cut [20] (fun v20 wc => ∃ (kq : Nat) (x20_2 : Bool), v20 = .bool x20_2 ∧ Aside0 (swarfref38_Order.j0 kq a0 l1 x20_2 = some r) ∧ Aside0 (kq ≤ k) ∧ Aside0 (Below w.heap.size w wc))
  case first =>
    have H := HC3.out
    clear HC3
    by_cases c4 : (l1.length : Int) = a0
    · rw [if_pos c4] at H
      have c4b0 : ((l1.length : Int) == a0) = true := beq_iff_eq.mpr c4
      have c4b1 : ((l1.length : Int) != a0) = false := bne_eq_false_iff_eq.mpr c4
      clear c4
      (first | rw [c4b0] | (simp only [i64_w, i32_w]; rw [c4b0]) | skip)
      by_cases c5 : a0 > 0
      · rw [if_pos c5] at H
        have c5b0 : decide (0 < a0) = true := decide_eq_true c5
        clear c5
        by_cases c6 : 0 < (l1.length : Int)
        · rw [if_pos c6] at H
          have c6b0 : decide (0 < (l1.length : Int)) = true := decide_eq_true c6
          have c6b1 : decide (0 < l1.length) = true := decide_eq_true (by omega)
          clear c6
          have H' := Aside0.mk H
          clear H
          have p236 : 0 ≤ (0 : Int) := (by omega)
          have q236 : 0 < (l1.length : Int) := of_decide_eq_true (by first | (with_reducible assumption) | assumption)
          obtain ⟨ad236, e236, hx236_0⟩ := Kd.at_int HR1.out 0 p236 q236
          cases e236
          have qi236 : (0 < l1.length) = True := eq_true (by omega)
          (try rw [show ((0 : Int)).toNat = 0 from rfl] at hx236_0)
          (try rw [Addr.add_zero'] at hx236_0)
          replace hx236_0 := (HB.out.cell (World.block_lt_of_cell? w _ hx236_0)).trans hx236_0
          replace p236 := eq_true p236
          replace q236 := eq_true q236
          go_wp2
          go_meet
          case rel => exact ⟨_, (((rd l1 0) != 0)), (by first | rfl | (simp; done) | (simp [*]; done)), H', ⟨by first | omega | exact Nat.le_refl _⟩, ⟨by repeat (first | (with_reducible first | exact HB.out | apply below_alloc | apply pw_below_drewN | apply below_drew1) | exact HB.out)⟩⟩
        · rw [if_neg c6] at H
          exact absurd H (by simp)
      · rw [if_neg c5] at H
        have c5b0 : decide (0 < a0) = false := decide_eq_false c5
        clear c5
        have H' := Aside0.mk H
        clear H
        go_wp2
        go_meet
        case rel => exact ⟨_, (false), (by first | rfl | (simp; done) | (simp [*]; done)), H', ⟨by first | omega | exact Nat.le_refl _⟩, ⟨by repeat (first | (with_reducible first | exact HB.out | apply below_alloc | apply pw_below_drewN | apply below_drew1) | exact HB.out)⟩⟩
    · rw [if_neg c4] at H
      have c4b0 : ((l1.length : Int) == a0) = false := beq_eq_false_iff_ne.mpr c4
      have c4b1 : ((l1.length : Int) != a0) = true := bne_iff_ne.mpr c4
      (first | rw [c4b0] | (simp only [i64_w, i32_w]; rw [c4b0]) | skip)
      have H' := Aside0.mk H
      clear H
      go_wp2
      go_meet
      case rel => exact ⟨_, (true), (by first | rfl | (simp; done) | (simp [*]; done)), H', ⟨by first | omega | exact Nat.le_refl _⟩, ⟨by repeat (first | (with_reducible first | exact HB.out | apply below_alloc | apply pw_below_drewN | apply below_drew1) | exact HB.out)⟩⟩
  case rest =>
    clear HC3
    try clear c1
    try clear p2
    try clear q2
    try clear hx2
    try clear qi2
    try clear c3
    try clear c4
    try clear c4b0
    try clear c4b1
    try clear c5
    try clear c5b0
    try clear c6
    try clear c6b0
    try clear c6b1
    try clear hx236_0
    try clear p236
    try clear q236
    obtain ⟨kq, x20_2, rfl, HA, HJ2, HB⟩ := hcut
    cases kq with
    | zero => exact absurd HA.out (by simp [swarfref38_Order.j0])
    | succ kj2 =>
      have H := HA.out
      clear HA
      simp only [swarfref38_Order.j0] at H
      by_cases c7 : x20_2 = true
      · subst c7
        have H1 : (some false) = some r := by rw [if_pos rfl] at H; exact H
        clear H
        have H := H1
        clear H1
        obtain rfl := Option.some.inj H
        go_wp2
        go_ret
        exact ⟨by first | rfl | (simp [errW_none, errW_some] <;> rfl) | (simp [*, errW_none, errW_some] <;> rfl), by repeat (first | (with_reducible first | exact HB.out | apply below_alloc | apply pw_below_drewN | apply below_drew1) | exact HB.out)⟩
      · replace c7 := Bool.eq_false_iff.mpr c7
        subst c7
        have H1 : (if 0 ≤ a0 then (if (a0 : Int).toNat ≤ 281474976710656 then (swarfref38_Order.l0 kj2 a0 l1 (List.replicate (a0 : Int).toNat false) 0) else (none)) else (none)) = some r := by rw [if_neg (show ¬ (false = true) by decide)] at H; exact H
        clear H
        have H := H1
        clear H1
        by_cases c8 : 0 ≤ a0
        · rw [if_pos c8] at H
          have c8b0 := eq_true c8
          have c8b1 : decide (0 ≤ a0) = true := decide_eq_true c8
          clear c8
          by_cases c9 : (a0 : Int).toNat ≤ 281474976710656
          · rw [if_pos c9] at H
            have c9b0 := eq_true c9
            have c9b1 : decide ((a0 : Int).toNat ≤ 281474976710656) = true := decide_eq_true c9
            clear c9
            obtain ⟨y237, hy237⟩ : ∃ y_ : List Bool, y_ = (List.replicate (a0 : Int).toNat false) := ⟨_, rfl⟩
            replace H : (swarfref38_Order.l0 kj2 a0 l1 y237 0) = some r := by first | (rw [hy237]; with_reducible exact H) | (have H2_ := (Option.bind_some _ _).symm.trans H; rw [hy237]; with_reducible exact H2_) | (have H2_ := (Option.bind_some _ _).symm.trans H; with_reducible exact H2_) | with_reducible exact H | (rw [hy237]; exact H) | exact H
            have Ny237 := Aside0.mk hy237
            clear hy237
            have H' := Aside0.mk H
            clear H
            go_wp2_with (first | ((with_reducible refine gate_dst (N := 22) rfl ?_); refine Kd.R_make Kd.bool _ 4 rfl (N := 22) rfl 49 _ _ rfl a0 rfl rfl Try.underlying49 (.bool false) 1 info4 rfl (by decide) (by omega) false (ok := fun _ => True) (okp := fun _ => True) rfl (fun _ hk => hk) trivial (of_decide_eq_true (by first | (with_reducible assumption) | assumption)) (Nat.le_trans (Nat.mul_le_mul_right _ (of_decide_eq_true (by first | (with_reducible assumption) | assumption) : a0.toNat ≤ 281474976710656)) (by omega)) (Below.refl _ _) (Nat.le_refl _) ?_; intro v238 w10 ho11 hb hg_ hnew_; clear hg_ hnew_; (first | rw [← Ny237.out] at ho11 | (simp only [Int.reduceToNat] at ho11; rw [← Ny237.out] at ho11)); have n0_ := Aside0.mk (Kd.R_lower ho11 (below_size (by repeat (first | (with_reducible first | exact HB.out | apply below_alloc | apply pw_below_drewN | apply below_drew1) | exact HB.out)))); have n1_ := Aside0.mk (below_step (by repeat (first | (with_reducible first | exact HB.out | apply below_alloc | apply pw_below_drewN | apply below_drew1) | exact HB.out)) hb); clear HB; have HO239 := n0_; have HB := n1_; clear n0_ n1_; clear hb ho11))
            go_loopg [6] kj2 (fun kq v6 w' => ∃ (x5_2 : List Bool) (x6_2 : Int), v6 = .int .i64 x6_2 ∧ Aside0 (swarfref38_Order.l0 kq a0 l1 x5_2 x6_2 = some r) ∧ Aside0 (kq ≤ kj2) ∧ Aside0 (Kd.R Kd.bool 4 w' w.heap.size (fun _ => True) v238 x5_2) ∧ Aside0 (Below w.heap.size w w'))
            case atStart => exact ⟨(y237), (0), (by first | rfl | (simp; done) | (simp [*]; done)), H', ⟨Nat.le_refl _⟩, ⟨by (with_reducible repeat (first | apply Kd.R_alloc | apply Kd.R_drewN | apply Kd.R_drew)); exact HO239.out⟩, ⟨by repeat (first | (with_reducible first | exact HB.out | apply below_alloc | apply pw_below_drewN | apply below_drew1) | exact HB.out)⟩⟩
            case round =>
              clear H'
              try clear c1
              try clear p2
              try clear q2
              try clear hx2
              try clear qi2
              try clear c3
              try clear c4
              try clear c4b0
              try clear c4b1
              try clear c5
              try clear c5b0
              try clear c6
              try clear c6b0
              try clear c6b1
              try clear c7
              try clear c8
              try clear c8b0
              try clear c8b1
              try clear c9
              try clear c9b0
              try clear c9b1
              try clear hx236_0
              try clear p2
              try clear p236
              try clear q2
              try clear q236
              obtain ⟨x5_2, x6_2, rfl, HA, HK2, HO_5, HB⟩ := hrel
              cases gk with
              | zero => exact absurd HA.out (by simp [swarfref38_Order.l0])
              | succ k2 =>
                have H := HA.out
                clear HA
                simp only [swarfref38_Order.l0] at H
                by_cases c12 : x6_2 < a0
                · rw [if_pos c12] at H
                  have c12b0 : decide (x6_2 < a0) = true := decide_eq_true c12
                  clear c12
                  by_cases c13 : 0 ≤ x6_2
                  · rw [if_pos c13] at H
                    have c13b0 : decide (0 ≤ x6_2) = true := decide_eq_true c13
                    clear c13
                    by_cases c14 : x6_2 < (l1.length : Int)
                    · rw [if_pos c14] at H
                      have c14b0 : decide (x6_2 < (l1.length : Int)) = true := decide_eq_true c14
                      clear c14
                      by_cases c15 : (rd l1 x6_2) < 0
                      · rw [if_pos c15] at H
                        have c15b0 : decide ((rd l1 x6_2) < 0) = true := decide_eq_true c15
                        clear c15
                        obtain rfl := Option.some.inj H
                        have p240 : 0 ≤ (x6_2 : Int) := of_decide_eq_true (by first | (with_reducible assumption) | assumption)
                        have q240 : x6_2 < (l1.length : Int) := of_decide_eq_true (by first | (with_reducible assumption) | assumption)
                        obtain ⟨ad240, e240, hx240_0⟩ := Kd.at_int HR1.out x6_2 p240 q240
                        cases e240
                        replace hx240_0 := (HB.out.cell (World.block_lt_of_cell? w _ hx240_0)).trans hx240_0
                        replace p240 := eq_true p240
                        replace q240 := eq_true q240
                        go_wp2
                        go_ret
                        exact ⟨by first | rfl | (simp [errW_none, errW_some] <;> rfl) | (simp [*, errW_none, errW_some] <;> rfl), by repeat (first | (with_reducible first | exact HB.out | apply below_alloc | apply pw_below_drewN | apply below_drew1) | exact HB.out)⟩
                      · rw [if_neg c15] at H
                        have c15b0 : decide ((rd l1 x6_2) < 0) = false := decide_eq_false c15
                        clear c15
                        by_cases c16 : (rd l1 x6_2) ≥ a0
                        · rw [if_pos c16] at H
                          have c16b0 : decide (a0 ≤ (rd l1 x6_2)) = true := decide_eq_true c16
                          clear c16
                          obtain rfl := Option.some.inj H
                          have p240 : 0 ≤ (x6_2 : Int) := of_decide_eq_true (by first | (with_reducible assumption) | assumption)
                          have q240 : x6_2 < (l1.length : Int) := of_decide_eq_true (by first | (with_reducible assumption) | assumption)
                          obtain ⟨ad240, e240, hx240_0⟩ := Kd.at_int HR1.out x6_2 p240 q240
                          cases e240
                          replace hx240_0 := (HB.out.cell (World.block_lt_of_cell? w _ hx240_0)).trans hx240_0
                          replace p240 := eq_true p240
                          replace q240 := eq_true q240
                          have p241 : 0 ≤ (x6_2 : Int) := of_decide_eq_true (by first | (with_reducible assumption) | assumption)
                          have q241 : x6_2 < (l1.length : Int) := of_decide_eq_true (by first | (with_reducible assumption) | assumption)
                          obtain ⟨ad241, e241, hx241_0⟩ := Kd.at_int HR1.out x6_2 p241 q241
                          obtain rfl : ad240 = ad241 := (by injection e241)
                          replace hx241_0 := (HB.out.cell (World.block_lt_of_cell? w _ hx241_0)).trans hx241_0
                          replace p241 := eq_true p241
                          replace q241 := eq_true q241
                          go_wp2
                          go_ret
                          exact ⟨by first | rfl | (simp [errW_none, errW_some] <;> rfl) | (simp [*, errW_none, errW_some] <;> rfl), by repeat (first | (with_reducible first | exact HB.out | apply below_alloc | apply pw_below_drewN | apply below_drew1) | exact HB.out)⟩
                        · rw [if_neg c16] at H
                          have c16b0 : decide (a0 ≤ (rd l1 x6_2)) = false := decide_eq_false c16
                          clear c16
                          by_cases c17 : 0 ≤ (rd l1 x6_2)
                          · rw [if_pos c17] at H
                            have c17b0 : decide (0 ≤ (rd l1 x6_2)) = true := decide_eq_true c17
                            clear c17
                            by_cases c18 : (rd l1 x6_2) < (x5_2.length : Int)
                            · rw [if_pos c18] at H
                              have c18b0 : decide ((rd l1 x6_2) < (x5_2.length : Int)) = true := decide_eq_true c18
                              clear c18
                              obtain ⟨bq19, hbq19⟩ : ∃ b_ : Bool, b_ = (rdOf false x5_2 (rd l1 x6_2)) := ⟨_, rfl⟩
                              replace H : (if bq19 = true then (some false) else (swarfref38_Order.l0 k2 a0 l1 (x5_2.set ((rd l1 x6_2) : Int).toNat true) (wrap64 (x6_2 + 1)))) = some r := by rw [← hbq19] at H; exact H
                              have Nbq19 := Aside0.mk hbq19
                              clear hbq19
                              by_cases c20 : bq19 = true
                              · subst c20
                                have H1 : (some false) = some r := by rw [if_pos rfl] at H; exact H
                                clear H
                                have H := H1
                                clear H1
                                obtain rfl := Option.some.inj H
                                have p240 : 0 ≤ (x6_2 : Int) := of_decide_eq_true (by first | (with_reducible assumption) | assumption)
                                have q240 : x6_2 < (l1.length : Int) := of_decide_eq_true (by first | (with_reducible assumption) | assumption)
                                obtain ⟨ad240, e240, hx240_0⟩ := Kd.at_int HR1.out x6_2 p240 q240
                                cases e240
                                replace hx240_0 := (HB.out.cell (World.block_lt_of_cell? w _ hx240_0)).trans hx240_0
                                replace p240 := eq_true p240
                                replace q240 := eq_true q240
                                have p241 : 0 ≤ (x6_2 : Int) := of_decide_eq_true (by first | (with_reducible assumption) | assumption)
                                have q241 : x6_2 < (l1.length : Int) := of_decide_eq_true (by first | (with_reducible assumption) | assumption)
                                obtain ⟨ad241, e241, hx241_0⟩ := Kd.at_int HR1.out x6_2 p241 q241
                                obtain rfl : ad240 = ad241 := (by injection e241)
                                replace hx241_0 := (HB.out.cell (World.block_lt_of_cell? w _ hx241_0)).trans hx241_0
                                replace p241 := eq_true p241
                                replace q241 := eq_true q241
                                have p242 : 0 ≤ (x6_2 : Int) := of_decide_eq_true (by first | (with_reducible assumption) | assumption)
                                have q242 : x6_2 < (l1.length : Int) := of_decide_eq_true (by first | (with_reducible assumption) | assumption)
                                obtain ⟨ad242, e242, hx242_0⟩ := Kd.at_int HR1.out x6_2 p242 q242
                                obtain rfl : ad240 = ad242 := (by injection e242)
                                replace hx242_0 := (HB.out.cell (World.block_lt_of_cell? w _ hx242_0)).trans hx242_0
                                replace p242 := eq_true p242
                                replace q242 := eq_true q242
                                obtain ⟨Ao21, co21, eo21⟩ := Kd.R_slice HO_5.out
                                subst eo21
                                have p243 : 0 ≤ ((rd l1 x6_2) : Int) := of_decide_eq_true (by first | (with_reducible assumption) | assumption)
                                have q243 : (rd l1 x6_2) < (x5_2.length : Int) := of_decide_eq_true (by first | (with_reducible assumption) | assumption)
                                obtain ⟨ad243, e243, hx243_0⟩ := Kd.at_bool (Kd.R_reads' HO_5.out).2.2 (rd l1 x6_2) p243 q243
                                (try rw [← Nbq19.out] at hx243_0)
                                cases e243
                                replace p243 := eq_true p243
                                replace q243 := eq_true q243
                                go_wp2
                                go_ret
                                exact ⟨by first | rfl | (simp [errW_none, errW_some] <;> rfl) | (simp [*, errW_none, errW_some] <;> rfl), by repeat (first | (with_reducible first | exact HB.out | apply below_alloc | apply pw_below_drewN | apply below_drew1) | exact HB.out)⟩
                              · replace c20 := Bool.eq_false_iff.mpr c20
                                subst c20
                                have H1 : (swarfref38_Order.l0 k2 a0 l1 (x5_2.set ((rd l1 x6_2) : Int).toNat true) (wrap64 (x6_2 + 1))) = some r := by rw [if_neg (show ¬ (false = true) by decide)] at H; exact H
                                clear H
                                have H := H1
                                clear H1
                                obtain ⟨y245, hy245⟩ : ∃ y_ : List Bool, y_ = (x5_2.set ((rd l1 x6_2) : Int).toNat true) := ⟨_, rfl⟩
                                replace H : (swarfref38_Order.l0 k2 a0 l1 y245 (wrap64 (x6_2 + 1))) = some r := by first | (rw [hy245]; with_reducible exact H) | (have H2_ := (Option.bind_some _ _).symm.trans H; rw [hy245]; with_reducible exact H2_) | (have H2_ := (Option.bind_some _ _).symm.trans H; with_reducible exact H2_) | with_reducible exact H | (rw [hy245]; exact H) | exact H
                                have Ny245 := Aside0.mk hy245
                                clear hy245
                                have H' := Aside0.mk H
                                clear H
                                have p240 : 0 ≤ (x6_2 : Int) := of_decide_eq_true (by first | (with_reducible assumption) | assumption)
                                have q240 : x6_2 < (l1.length : Int) := of_decide_eq_true (by first | (with_reducible assumption) | assumption)
                                obtain ⟨ad240, e240, hx240_0⟩ := Kd.at_int HR1.out x6_2 p240 q240
                                cases e240
                                replace hx240_0 := (HB.out.cell (World.block_lt_of_cell? w _ hx240_0)).trans hx240_0
                                replace p240 := eq_true p240
                                replace q240 := eq_true q240
                                have p241 : 0 ≤ (x6_2 : Int) := of_decide_eq_true (by first | (with_reducible assumption) | assumption)
                                have q241 : x6_2 < (l1.length : Int) := of_decide_eq_true (by first | (with_reducible assumption) | assumption)
                                obtain ⟨ad241, e241, hx241_0⟩ := Kd.at_int HR1.out x6_2 p241 q241
                                obtain rfl : ad240 = ad241 := (by injection e241)
                                replace hx241_0 := (HB.out.cell (World.block_lt_of_cell? w _ hx241_0)).trans hx241_0
                                replace p241 := eq_true p241
                                replace q241 := eq_true q241
                                have p242 : 0 ≤ (x6_2 : Int) := of_decide_eq_true (by first | (with_reducible assumption) | assumption)
                                have q242 : x6_2 < (l1.length : Int) := of_decide_eq_true (by first | (with_reducible assumption) | assumption)
                                obtain ⟨ad242, e242, hx242_0⟩ := Kd.at_int HR1.out x6_2 p242 q242
                                obtain rfl : ad240 = ad242 := (by injection e242)
                                replace hx242_0 := (HB.out.cell (World.block_lt_of_cell? w _ hx242_0)).trans hx242_0
                                replace p242 := eq_true p242
                                replace q242 := eq_true q242
                                obtain ⟨Ao23, co23, eo23⟩ := Kd.R_slice HO_5.out
                                subst eo23
                                have p243 : 0 ≤ ((rd l1 x6_2) : Int) := of_decide_eq_true (by first | (with_reducible assumption) | assumption)
                                have q243 : (rd l1 x6_2) < (x5_2.length : Int) := of_decide_eq_true (by first | (with_reducible assumption) | assumption)
                                obtain ⟨ad243, e243, hx243_0⟩ := Kd.at_bool (Kd.R_reads' HO_5.out).2.2 (rd l1 x6_2) p243 q243
                                (try rw [← Nbq19.out] at hx243_0)
                                cases e243
                                replace p243 := eq_true p243
                                replace q243 := eq_true q243
                                have p244 : 0 ≤ (x6_2 : Int) := of_decide_eq_true (by first | (with_reducible assumption) | assumption)
                                have q244 : x6_2 < (l1.length : Int) := of_decide_eq_true (by first | (with_reducible assumption) | assumption)
                                obtain ⟨ad244, e244, hx244_0⟩ := Kd.at_int HR1.out x6_2 p244 q244
                                obtain rfl : ad240 = ad244 := (by injection e244)
                                replace hx244_0 := (HB.out.cell (World.block_lt_of_cell? w _ hx244_0)).trans hx244_0
                                replace p244 := eq_true p244
                                replace q244 := eq_true q244
                                have p22 : 0 ≤ ((rd l1 x6_2) : Int) := of_decide_eq_true (by first | (with_reducible assumption) | assumption)
                                have q22 : ((rd l1 x6_2) : Int) < ((x5_2.length : Int) : Int) := of_decide_eq_true (by first | (with_reducible assumption) | assumption)
                                obtain ⟨go22, co22, eo22, gb22, gl22, cl22, HG22⟩ := Kd.R_form HO_5.out (by omega)
                                (first | cases eo22 | (injection eo22 with ea_ en_ ec_; (first | subst ea_ | (injection ea_ with ea_; subst ea_)); subst ec_; clear en_))
                                have GB22 := Aside0.mk gb22
                                have GG22 := Aside0.mk HG22
                                clear gb22 gl22 HG22
                                (first | simp only [add_plain] at hx243_0 | skip)
                                obtain ⟨hx22_0, hf22_0⟩ := Kd.R_celln false HO_5.out ((rd l1 x6_2) : Int) p22 q22
                                replace p22 := eq_true p22
                                replace q22 := eq_true q22
                                have HP24 := Kd.R_putg HO_5.out ((rd l1 x6_2) : Int) true
                                go_wp2_with (first | ((with_reducible refine gate_store (t := 4) (p := 55) rfl ?_); refine store_event (t := 4) (p := 55) (v := ?vo_w25) (w1 := (wr.setCell ⟨go22, ((rd l1 x6_2) : Int).toNat, none⟩ (.bool true))) ?hg ?ho ?hn ?hr ?_; (case ho => rfl); (case hg => rfl); (case hn => rfl); (case hr => first | (go_simp; done) | (go_simp; rfl)); intro w25 hw; have hg : wr.grownBy w25 (some go22) := (by rw [hw]; exact HP24.2); have hp_ : Kd.R Kd.bool 4 w25 w.heap.size (fun _ => True) (.slice (some ⟨go22, 0, none⟩) x5_2.length co23) y245 := (by rw [hw, Ny245.out]; exact HP24.1); clear HP24; have n0_ := Aside0.mk (hp_); have n1_ := Aside0.mk ((by rw [hw]; exact below_set (HB.out) GB22.out : Below w.heap.size w w25)); clear HO_5; clear HB; have HO_5 := n0_; have HB := n1_; clear n0_ n1_; clear hg hw hp_))
                                go_roundg k2
                                case measure => have := HJ2.out; have := HK2.out; omega
                                case rel => exact ⟨(y245), (wrap64 (x6_2 + 1)), (by first | rfl | (simp; done) | (simp [*]; done)), H', ⟨by have := HJ2.out; have := HK2.out; omega⟩, ⟨by (with_reducible repeat (first | apply Kd.R_alloc | apply Kd.R_drewN | apply Kd.R_drew)); exact HO_5.out⟩, ⟨by repeat (first | (with_reducible first | exact HB.out | apply below_alloc | apply pw_below_drewN | apply below_drew1) | exact HB.out)⟩⟩
                            · rw [if_neg c18] at H
                              exact absurd H (by simp)
                          · rw [if_neg c17] at H
                            exact absurd H (by simp)
                    · rw [if_neg c14] at H
                      exact absurd H (by simp)
                  · rw [if_neg c13] at H
                    exact absurd H (by simp)
                · rw [if_neg c12] at H
                  have c12b0 : decide (x6_2 < a0) = false := decide_eq_false c12
                  clear c12
                  obtain rfl := Option.some.inj H
                  go_wp2
                  go_ret
                  exact ⟨by first | rfl | (simp [errW_none, errW_some] <;> rfl) | (simp [*, errW_none, errW_some] <;> rfl), by repeat (first | (with_reducible first | exact HB.out | apply below_alloc | apply pw_below_drewN | apply below_drew1) | exact HB.out)⟩
          · rw [if_neg c9] at H
            exact absurd H (by simp)
        · rw [if_neg c8] at H
          exact absurd H (by simp)

end Go.Proofs.Ytohjocajaanhaaa.P

-- PRINTED by print.py (a twelfth state) out of the translation. Not trusted: Lean checks it.

namespace Go.Proofs.Ytohjocajaanhaaa.P
open Go.RowKit Go.Proofs.YtohjocajaanhaaaW.PrintWords Go.Proofs.YtohjocajaanhaaaW.PrintLast Go.Proofs.YtohjocajaanhaaaW.PrintMore
attribute [local go_sem] max2_int min2_int max_two min_two max_three min_three max_four min_four   -- for this text's walks alone
set_option linter.unusedVariables false
set_option linter.unusedSimpArgs false

/-! ### swarfref38_gap: function 34 -/
def swarfref38_gap.f (a0 : Int) (a1 : Int) : Option (Int) := if a0 < a1 then (some (wrap64 (a1 - a0))) else (some (wrap64 (a0 - a1)))
set_option maxHeartbeats 8000000 in
set_option maxRecDepth 100000 in
theorem swarfref38_gap.calls (a0 : Int) (a1 : Int) (r : Int) (w : World) (h : swarfref38_gap.f a0 a1 = some r) :
    Calls Try.prog 34 #[.int .i64 a0, .int .i64 a1] w fun e w' => e = .returned (.int .i64 r) ∧ Drawn0 w w' := by
  have H : (if a0 < a1 then (some (wrap64 (a1 - a0))) else (some (wrap64 (a0 - a1)))) = some r := h
  clear h
  by_cases c3 : a0 < a1
  · rw [if_pos c3] at H
    have c3b0 : decide (a0 < a1) = true := decide_eq_true c3
    clear c3
    obtain rfl := Option.some.inj H
    go_enter Try.func34, Try.ntmps34
    go_wp2
    go_ret
    exact ⟨by first | rfl | (simp; done) | (simp [*]; done), by repeat (first | exact Drawn0.refl _ | apply Drawn0.step)⟩
  · rw [if_neg c3] at H
    have c3b0 : decide (a0 < a1) = false := decide_eq_false c3
    clear c3
    obtain rfl := Option.some.inj H
    go_enter Try.func34, Try.ntmps34
    go_wp2
    go_ret
    exact ⟨by first | rfl | (simp; done) | (simp [*]; done), by repeat (first | exact Drawn0.refl _ | apply Drawn0.step)⟩

end Go.Proofs.Ytohjocajaanhaaa.P

-- PRINTED by print.py (a twelfth state) out of the translation. Not trusted: Lean checks it.

namespace Go.Proofs.Ytohjocajaanhaaa.P
open Go.RowKit Go.Proofs.YtohjocajaanhaaaW.PrintWords Go.Proofs.YtohjocajaanhaaaW.PrintLast Go.Proofs.YtohjocajaanhaaaW.PrintMore
attribute [local go_sem] max2_int min2_int max_two min_two max_three min_three max_four min_four   -- for this text's walks alone
set_option linter.unusedVariables false
set_option linter.unusedSimpArgs false

/-! ### swarfref38_Distance: function 16 -/
def swarfref38_Distance.f (a0_0 : Int) (a0_1 : Int) (a1_0 : Int) (a1_1 : Int) : Option (Int) := (swarfref38_gap.f a0_0 a1_0).bind fun t248 => ((swarfref38_gap.f a0_1 a1_1).bind fun t249 => (some (mx t248 t249)))
set_option maxHeartbeats 8000000 in
set_option maxRecDepth 100000 in
theorem swarfref38_Distance.calls (a0_0 : Int) (a0_1 : Int) (a1_0 : Int) (a1_1 : Int) (r : Int) (w : World) (h : swarfref38_Distance.f a0_0 a0_1 a1_0 a1_1 = some r) :
    Calls Try.prog 16 #[.agg #[.int .i64 a0_0, .int .i64 a0_1], .agg #[.int .i64 a1_0, .int .i64 a1_1]] w fun e w' => e = .returned (.int .i64 r) ∧ Below w.heap.size w w' := by
  have hu31 := Try.underlying31
  have HB := Aside0.mk (Below.refl w.heap.size w)
  have H : ((swarfref38_gap.f a0_0 a1_0).bind fun t248 => ((swarfref38_gap.f a0_1 a1_1).bind fun t249 => (some (mx t248 t249)))) = some r := h
  clear h
  replace H := Option.bind_eq_some_iff.mp H
  obtain ⟨t248, A30, H⟩ := H
  replace H : ((swarfref38_gap.f a0_1 a1_1).bind fun t249 => (some (mx t248 t249))) = some r := H
  have A3 := Aside0.mk A30
  clear A30
  replace H := Option.bind_eq_some_iff.mp H
  obtain ⟨t249, A40, H⟩ := H
  replace H : (some (mx t248 t249)) = some r := H
  have A4 := Aside0.mk A40
  clear A40
  obtain ⟨ji5, hji5⟩ : ∃ j_ : Int, (mx t248 t249) = j_ := ⟨_, rfl⟩
  replace H : (some ji5) = some r := by first | (rw [hji5] at H; exact H) | (simp only [hji5] at H ⊢; exact H)
  (try rw [hji5] at A3)
  (try rw [hji5] at A4)
  have hji5_ : (if t248 < t249 then t249 else t248) = ji5 := hji5
  obtain rfl := Option.some.inj H
  go_enter Try.func16, Try.ntmps16
  go_wp2_with (first | ((with_reducible refine gate_dst (N := 2) rfl ?_); refine box_event ?hg (N := 2) ?hd (cs := #[.int .i64 a0_0, .int .i64 a0_1]) (t := 31) ?hr ?_; (case hd => rfl); (case hg => rfl); (case hr => first | (go_simp; done) | (go_simp; rfl)); intro gb246 hg w6 hbox hb; have n0_ := Aside0.mk (below_step (by repeat (first | (with_reducible first | exact HB.out | apply below_alloc | apply pw_below_drewN | apply below_drew1) | exact HB.out)) hb); have n1_ := Aside0.mk (hbox); have n2_ := Aside0.mk ((by rw [hg]; exact (below_size (by repeat (first | (with_reducible first | exact HB.out | apply below_alloc | apply pw_below_drewN | apply below_drew1) | exact HB.out))) : w.heap.size ≤ gb246)); have n3_ := Aside0.mk ((by rw [hg]; exact (below_size (by repeat (first | (with_reducible first | exact HB.out | apply below_alloc | apply pw_below_drewN | apply below_drew1) | exact HB.out))) : w.heap.size ≤ gb246)); clear HB; have HB := n0_; have BK246 := n1_; have GW246 := n2_; have GE246 := n3_; clear n0_ n1_ n2_ n3_; clear hb hbox hg) | ((with_reducible refine gate_dst (N := 3) rfl ?_); refine box_event ?hg (N := 3) ?hd (cs := #[.int .i64 a1_0, .int .i64 a1_1]) (t := 31) ?hr ?_; (case hd => rfl); (case hg => rfl); (case hr => first | (go_simp; done) | (go_simp; rfl)); intro gb247 hg w7 hbox hb; have n0_ := Aside0.mk (blk_below (g := gb246) (o := .cells #[.int .i64 a0_0, .int .i64 a0_1] 31 (0, 0)) (by (with_reducible repeat (first | refine blk_drewN ?_ _ | refine blk_drew ?_ | refine blk_alloc ?_ _)); exact BK246.out) hb); have n1_ := Aside0.mk (below_step (by repeat (first | (with_reducible first | exact HB.out | apply below_alloc | apply pw_below_drewN | apply below_drew1 | refine below_set ?_ GE246.out) | exact HB.out)) hb); have n2_ := Aside0.mk (hbox); have n3_ := Aside0.mk ((by rw [hg]; exact (below_size (by repeat (first | (with_reducible first | exact HB.out | apply below_alloc | apply pw_below_drewN | apply below_drew1 | refine below_set ?_ GE246.out) | exact HB.out))) : w.heap.size ≤ gb247)); have n4_ := Aside0.mk ((by rw [hg]; exact (below_size (by repeat (first | (with_reducible first | exact HB.out | apply below_alloc | apply pw_below_drewN | apply below_drew1 | refine below_set ?_ GE246.out) | exact HB.out))) : w.heap.size ≤ gb247)); have n5_ := Aside0.mk ((by rw [hg]; exact Nat.ne_of_lt (blk_lt (g := gb246) (o := .cells #[.int .i64 a0_0, .int .i64 a0_1] 31 (0, 0)) (by (with_reducible repeat (first | refine blk_drewN ?_ _ | refine blk_drew ?_ | refine blk_alloc ?_ _)); exact BK246.out)) : gb246 ≠ gb247)); have n6_ := Aside0.mk ((by rw [hg]; exact Nat.ne_of_gt (blk_lt (g := gb246) (o := .cells #[.int .i64 a0_0, .int .i64 a0_1] 31 (0, 0)) (by (with_reducible repeat (first | refine blk_drewN ?_ _ | refine blk_drew ?_ | refine blk_alloc ?_ _)); exact BK246.out)) : gb247 ≠ gb246)); clear BK246; clear HB; have BK246 := n0_; have HB := n1_; have BK247 := n2_; have GW247 := n3_; have GE247 := n4_; have NB246_247 := n5_; have NB247_246 := n6_; clear n0_ n1_ n2_ n3_ n4_ n5_ n6_; clear hb hbox hg; have hnb8 := NB246_247.out; have hnc8 := NB247_246.out; have hcz9_0 : w7.cell? ⟨gb246, 0, none⟩ = some (.int .i64 a0_0) := (blk_cell BK246.out 0).trans rfl; have hcz9_1 : w7.cell? ⟨gb246, 1, none⟩ = some (.int .i64 a0_1) := (blk_cell BK246.out 1).trans rfl; have hfz9_0 := blk_frozen BK246.out 0; have hfz9_1 := blk_frozen BK246.out 1; have hcz10_0 : w7.cell? ⟨gb247, 0, none⟩ = some (.int .i64 a1_0) := (blk_cell BK247.out 0).trans rfl; have hcz10_1 : w7.cell? ⟨gb247, 1, none⟩ = some (.int .i64 a1_1) := (blk_cell BK247.out 1).trans rfl; have hfz10_0 := blk_frozen BK247.out 0; have hfz10_1 := blk_frozen BK247.out 1) | (go_at_call 34; (with_reducible refine (swarfref38_gap.calls a0_0 a1_0 t248 _ A3.out).mono ?_); rintro e w' ⟨rfl, ⟨nd, rfl⟩⟩; (try first | exact ⟨rfl, _, World.drewN_drewN _ _ _⟩ | exact ⟨rfl, _, Eq.trans (World.drewN_drewN _ _ _) (congrArg (World.drewN _) (Nat.add_assoc _ _ _))⟩)) | (go_at_call 34; (with_reducible refine (swarfref38_gap.calls a0_1 a1_1 t249 _ A4.out).mono ?_); rintro e w' ⟨rfl, ⟨nd, rfl⟩⟩; (try first | exact ⟨rfl, _, World.drewN_drewN _ _ _⟩ | exact ⟨rfl, _, Eq.trans (World.drewN_drewN _ _ _) (congrArg (World.drewN _) (Nat.add_assoc _ _ _))⟩)))
  repeat (go_quiet (first | ((with_reducible refine gate_dst (N := 2) rfl ?_); refine box_event ?hg (N := 2) ?hd (cs := #[.int .i64 a0_0, .int .i64 a0_1]) (t := 31) ?hr ?_; (case hd => rfl); (case hg => rfl); (case hr => first | (go_simp; done) | (go_simp; rfl)); intro gb246 hg w6 hbox hb; have n0_ := Aside0.mk (below_step (by repeat (first | (with_reducible first | exact HB.out | apply below_alloc | apply pw_below_drewN | apply below_drew1) | exact HB.out)) hb); have n1_ := Aside0.mk (hbox); have n2_ := Aside0.mk ((by rw [hg]; exact (below_size (by repeat (first | (with_reducible first | exact HB.out | apply below_alloc | apply pw_below_drewN | apply below_drew1) | exact HB.out))) : w.heap.size ≤ gb246)); have n3_ := Aside0.mk ((by rw [hg]; exact (below_size (by repeat (first | (with_reducible first | exact HB.out | apply below_alloc | apply pw_below_drewN | apply below_drew1) | exact HB.out))) : w.heap.size ≤ gb246)); clear HB; have HB := n0_; have BK246 := n1_; have GW246 := n2_; have GE246 := n3_; clear n0_ n1_ n2_ n3_; clear hb hbox hg) | ((with_reducible refine gate_dst (N := 3) rfl ?_); refine box_event ?hg (N := 3) ?hd (cs := #[.int .i64 a1_0, .int .i64 a1_1]) (t := 31) ?hr ?_; (case hd => rfl); (case hg => rfl); (case hr => first | (go_simp; done) | (go_simp; rfl)); intro gb247 hg w7 hbox hb; have n0_ := Aside0.mk (blk_below (g := gb246) (o := .cells #[.int .i64 a0_0, .int .i64 a0_1] 31 (0, 0)) (by (with_reducible repeat (first | refine blk_drewN ?_ _ | refine blk_drew ?_ | refine blk_alloc ?_ _)); exact BK246.out) hb); have n1_ := Aside0.mk (below_step (by repeat (first | (with_reducible first | exact HB.out | apply below_alloc | apply pw_below_drewN | apply below_drew1 | refine below_set ?_ GE246.out) | exact HB.out)) hb); have n2_ := Aside0.mk (hbox); have n3_ := Aside0.mk ((by rw [hg]; exact (below_size (by repeat (first | (with_reducible first | exact HB.out | apply below_alloc | apply pw_below_drewN | apply below_drew1 | refine below_set ?_ GE246.out) | exact HB.out))) : w.heap.size ≤ gb247)); have n4_ := Aside0.mk ((by rw [hg]; exact (below_size (by repeat (first | (with_reducible first | exact HB.out | apply below_alloc | apply pw_below_drewN | apply below_drew1 | refine below_set ?_ GE246.out) | exact HB.out))) : w.heap.size ≤ gb247)); have n5_ := Aside0.mk ((by rw [hg]; exact Nat.ne_of_lt (blk_lt (g := gb246) (o := .cells #[.int .i64 a0_0, .int .i64 a0_1] 31 (0, 0)) (by (with_reducible repeat (first | refine blk_drewN ?_ _ | refine blk_drew ?_ | refine blk_alloc ?_ _)); exact BK246.out)) : gb246 ≠ gb247)); have n6_ := Aside0.mk ((by rw [hg]; exact Nat.ne_of_gt (blk_lt (g := gb246) (o := .cells #[.int .i64 a0_0, .int .i64 a0_1] 31 (0, 0)) (by (with_reducible repeat (first | refine blk_drewN ?_ _ | refine blk_drew ?_ | refine blk_alloc ?_ _)); exact BK246.out)) : gb247 ≠ gb246)); clear BK246; clear HB; have BK246 := n0_; have HB := n1_; have BK247 := n2_; have GW247 := n3_; have GE247 := n4_; have NB246_247 := n5_; have NB247_246 := n6_; clear n0_ n1_ n2_ n3_ n4_ n5_ n6_; clear hb hbox hg; have hnb8 := NB246_247.out; have hnc8 := NB247_246.out; have hcz9_0 : w7.cell? ⟨gb246, 0, none⟩ = some (.int .i64 a0_0) := (blk_cell BK246.out 0).trans rfl; have hcz9_1 : w7.cell? ⟨gb246, 1, none⟩ = some (.int .i64 a0_1) := (blk_cell BK246.out 1).trans rfl; have hfz9_0 := blk_frozen BK246.out 0; have hfz9_1 := blk_frozen BK246.out 1; have hcz10_0 : w7.cell? ⟨gb247, 0, none⟩ = some (.int .i64 a1_0) := (blk_cell BK247.out 0).trans rfl; have hcz10_1 : w7.cell? ⟨gb247, 1, none⟩ = some (.int .i64 a1_1) := (blk_cell BK247.out 1).trans rfl; have hfz10_0 := blk_frozen BK247.out 0; have hfz10_1 := blk_frozen BK247.out 1) | (go_at_call 34; (with_reducible refine (swarfref38_gap.calls a0_0 a1_0 t248 _ A3.out).mono ?_); rintro e w' ⟨rfl, ⟨nd, rfl⟩⟩; (try first | exact ⟨rfl, _, World.drewN_drewN _ _ _⟩ | exact ⟨rfl, _, Eq.trans (World.drewN_drewN _ _ _) (congrArg (World.drewN _) (Nat.add_assoc _ _ _))⟩)) | (go_at_call 34; (with_reducible refine (swarfref38_gap.calls a0_1 a1_1 t249 _ A4.out).mono ?_); rintro e w' ⟨rfl, ⟨nd, rfl⟩⟩; (try first | exact ⟨rfl, _, World.drewN_drewN _ _ _⟩ | exact ⟨rfl, _, Eq.trans (World.drewN_drewN _ _ _) (congrArg (World.drewN _) (Nat.add_assoc _ _ _))⟩))); try go_wp2_with (first | ((with_reducible refine gate_dst (N := 2) rfl ?_); refine box_event ?hg (N := 2) ?hd (cs := #[.int .i64 a0_0, .int .i64 a0_1]) (t := 31) ?hr ?_; (case hd => rfl); (case hg => rfl); (case hr => first | (go_simp; done) | (go_simp; rfl)); intro gb246 hg w6 hbox hb; have n0_ := Aside0.mk (below_step (by repeat (first | (with_reducible first | exact HB.out | apply below_alloc | apply pw_below_drewN | apply below_drew1) | exact HB.out)) hb); have n1_ := Aside0.mk (hbox); have n2_ := Aside0.mk ((by rw [hg]; exact (below_size (by repeat (first | (with_reducible first | exact HB.out | apply below_alloc | apply pw_below_drewN | apply below_drew1) | exact HB.out))) : w.heap.size ≤ gb246)); have n3_ := Aside0.mk ((by rw [hg]; exact (below_size (by repeat (first | (with_reducible first | exact HB.out | apply below_alloc | apply pw_below_drewN | apply below_drew1) | exact HB.out))) : w.heap.size ≤ gb246)); clear HB; have HB := n0_; have BK246 := n1_; have GW246 := n2_; have GE246 := n3_; clear n0_ n1_ n2_ n3_; clear hb hbox hg) | ((with_reducible refine gate_dst (N := 3) rfl ?_); refine box_event ?hg (N := 3) ?hd (cs := #[.int .i64 a1_0, .int .i64 a1_1]) (t := 31) ?hr ?_; (case hd => rfl); (case hg => rfl); (case hr => first | (go_simp; done) | (go_simp; rfl)); intro gb247 hg w7 hbox hb; have n0_ := Aside0.mk (blk_below (g := gb246) (o := .cells #[.int .i64 a0_0, .int .i64 a0_1] 31 (0, 0)) (by (with_reducible repeat (first | refine blk_drewN ?_ _ | refine blk_drew ?_ | refine blk_alloc ?_ _)); exact BK246.out) hb); have n1_ := Aside0.mk (below_step (by repeat (first | (with_reducible first | exact HB.out | apply below_alloc | apply pw_below_drewN | apply below_drew1 | refine below_set ?_ GE246.out) | exact HB.out)) hb); have n2_ := Aside0.mk (hbox); have n3_ := Aside0.mk ((by rw [hg]; exact (below_size (by repeat (first | (with_reducible first | exact HB.out | apply below_alloc | apply pw_below_drewN | apply below_drew1 | refine below_set ?_ GE246.out) | exact HB.out))) : w.heap.size ≤ gb247)); have n4_ := Aside0.mk ((by rw [hg]; exact (below_size (by repeat (first | (with_reducible first | exact HB.out | apply below_alloc | apply pw_below_drewN | apply below_drew1 | refine below_set ?_ GE246.out) | exact HB.out))) : w.heap.size ≤ gb247)); have n5_ := Aside0.mk ((by rw [hg]; exact Nat.ne_of_lt (blk_lt (g := gb246) (o := .cells #[.int .i64 a0_0, .int .i64 a0_1] 31 (0, 0)) (by (with_reducible repeat (first | refine blk_drewN ?_ _ | refine blk_drew ?_ | refine blk_alloc ?_ _)); exact BK246.out)) : gb246 ≠ gb247)); have n6_ := Aside0.mk ((by rw [hg]; exact Nat.ne_of_gt (blk_lt (g := gb246) (o := .cells #[.int .i64 a0_0, .int .i64 a0_1] 31 (0, 0)) (by (with_reducible repeat (first | refine blk_drewN ?_ _ | refine blk_drew ?_ | refine blk_alloc ?_ _)); exact BK246.out)) : gb247 ≠ gb246)); clear BK246; clear HB; have BK246 := n0_; have HB := n1_; have BK247 := n2_; have GW247 := n3_; have GE247 := n4_; have NB246_247 := n5_; have NB247_246 := n6_; clear n0_ n1_ n2_ n3_ n4_ n5_ n6_; clear hb hbox hg; have hnb8 := NB246_247.out; have hnc8 := NB247_246.out; have hcz9_0 : w7.cell? ⟨gb246, 0, none⟩ = some (.int .i64 a0_0) := (blk_cell BK246.out 0).trans rfl; have hcz9_1 : w7.cell? ⟨gb246, 1, none⟩ = some (.int .i64 a0_1) := (blk_cell BK246.out 1).trans rfl; have hfz9_0 := blk_frozen BK246.out 0; have hfz9_1 := blk_frozen BK246.out 1; have hcz10_0 : w7.cell? ⟨gb247, 0, none⟩ = some (.int .i64 a1_0) := (blk_cell BK247.out 0).trans rfl; have hcz10_1 : w7.cell? ⟨gb247, 1, none⟩ = some (.int .i64 a1_1) := (blk_cell BK247.out 1).trans rfl; have hfz10_0 := blk_frozen BK247.out 0; have hfz10_1 := blk_frozen BK247.out 1) | (go_at_call 34; (with_reducible refine (swarfref38_gap.calls a0_0 a1_0 t248 _ A3.out).mono ?_); rintro e w' ⟨rfl, ⟨nd, rfl⟩⟩; (try first | exact ⟨rfl, _, World.drewN_drewN _ _ _⟩ | exact ⟨rfl, _, Eq.trans (World.drewN_drewN _ _ _) (congrArg (World.drewN _) (Nat.add_assoc _ _ _))⟩)) | (go_at_call 34; (with_reducible refine (swarfref38_gap.calls a0_1 a1_1 t249 _ A4.out).mono ?_); rintro e w' ⟨rfl, ⟨nd, rfl⟩⟩; (try first | exact ⟨rfl, _, World.drewN_drewN _ _ _⟩ | exact ⟨rfl, _, Eq.trans (World.drewN_drewN _ _ _) (congrArg (World.drewN _) (Nat.add_assoc _ _ _))⟩))))
  go_ret
  exact ⟨by first | rfl | (simp [errW_none, errW_some] <;> rfl) | (simp only [← hji5]; first | rfl | (simp [errW_none, errW_some] <;> rfl)) | (simp [*, errW_none, errW_some] <;> rfl), by repeat (first | (with_reducible first | exact HB.out | apply below_alloc | apply pw_below_drewN | apply below_drew1 | refine below_set ?_ GE246.out | refine below_set ?_ GE247.out) | exact HB.out)⟩

end Go.Proofs.Ytohjocajaanhaaa.P

-- PRINTED by print.py (a twelfth state) out of the translation. Not trusted: Lean checks it.

namespace Go.Proofs.Ytohjocajaanhaaa.P
open Go.RowKit Go.Proofs.YtohjocajaanhaaaW.PrintWords Go.Proofs.YtohjocajaanhaaaW.PrintLast Go.Proofs.YtohjocajaanhaaaW.PrintMore
attribute [local go_sem] max2_int min2_int max_two min_two max_three min_three max_four min_four   -- for this text's walks alone
set_option linter.unusedVariables false
set_option linter.unusedSimpArgs false

/-! ### swarfref38_way: function 33 -/
def swarfref38_way.l0 : Nat → List (S31) → List Int → Int → Int → Option (Int)
  | 0, _, _, _, _ => none
  | k + 1, x0, x1, x5, x6 => if x6 < (x1.length : Int) then (if 0 ≤ (wrap64 (x6 - 1)) then (if (wrap64 (x6 - 1)) < (x1.length : Int) then (if 0 ≤ (rd x1 (wrap64 (x6 - 1))) then (if (rd x1 (wrap64 (x6 - 1))) < (x0.length : Int) then (if 0 ≤ x6 then (if 0 ≤ (rd x1 x6) then (if (rd x1 x6) < (x0.length : Int) then ((swarfref38_Distance.f ((rd_T31 x0 (rd x1 (wrap64 (x6 - 1)))).f0) ((rd_T31 x0 (rd x1 (wrap64 (x6 - 1)))).f1) ((rd_T31 x0 (rd x1 x6)).f0) ((rd_T31 x0 (rd x1 x6)).f1)).bind fun t254 => (swarfref38_way.l0 k x0 x1 (wrap64 (x5 + t254)) (wrap64 (x6 + 1)))) else (none)) else (none)) else (none)) else (none)) else (none)) else (none)) else (none)) else (some x5)
def swarfref38_way.f (k : Nat) (l0 : List (S31)) (l1 : List Int) : Option (Int) := swarfref38_way.l0 k l0 l1 0 1
theorem swarfref38_way.mono_l : ∀ k, (∀ y0 y1 y2 y3, LeO (swarfref38_way.l0 k y0 y1 y2 y3) (swarfref38_way.l0 (k + 1) y0 y1 y2 y3))
  | 0 => fun _ _ _ _ r h => by simp [swarfref38_way.l0] at h
  | k + 1 => by
    have ih0 := swarfref38_way.mono_l k
    · intro y0 y1 y2 y3
      unfold swarfref38_way.l0
      repeat' first
      | (with_reducible exact ih0 _ _ _ _)
      | (with_reducible exact LeO.refl _)
      | (with_reducible exact LeO.none _)
      | (with_reducible refine LeO.ite ?_ ?_)
      | (with_reducible refine LeO.bind ?_ (fun _ => ?_))
      | exact ih0 _ _ _ _
      | exact LeO.none _
      | refine LeO.ite ?_ ?_
      | refine LeO.bind ?_ (fun _ => ?_)
theorem swarfref38_way.mono : ∀ a0 a1 k, LeO (swarfref38_way.f k a0 a1) (swarfref38_way.f (k + 1) a0 a1) := by
  intro a0 a1 k
  have ih0 := swarfref38_way.mono_l k
  unfold swarfref38_way.f
  repeat' first
      | (with_reducible exact ih0 _ _ _ _)
      | (with_reducible exact LeO.refl _)
      | (with_reducible exact LeO.none _)
      | (with_reducible refine LeO.ite ?_ ?_)
      | (with_reducible refine LeO.bind ?_ (fun _ => ?_))
      | exact ih0 _ _ _ _
      | exact LeO.none _
      | refine LeO.ite ?_ ?_
      | refine LeO.bind ?_ (fun _ => ?_)
def swarfref38_way.T5 : Bool × List (List Nat × List Nat) := (true, [([], []), ([], []), ([], []), ([], []), ([3], [3]), ([2, 4], [2, 4]), ([5], [5]), ([1, 6], [1, 6]), ([7], [7]), ([], []), ([], []), ([], []), ([10, 11], [10, 11]), ([12], [12]), ([9, 13], [9, 13]), ([14], [14]), ([8, 15], [8, 15]), ([0, 16], [0, 16]), ([17, 16, 0, 1, 2, 3, 4, 5, 6, 7, 8, 9, 10, 11, 12, 13, 14, 15, 16, 17], [0, 17])])
def swarfref38_way.B5 : List Nat := [0, 0, 0, 0, 8, 28, 60, 126, 254, 0, 0, 0, 3072, 7168, 15872, 32256, 65534, 131071, 262143]
theorem swarfref38_way.tab5 : rtab .any (opsOf Try.f33 5) = swarfref38_way.T5 := by kernel_rfl
theorem swarfref38_way.bits5 : waitsOk swarfref38_way.T5.2 swarfref38_way.B5 = true := by kernel_rfl
set_option maxHeartbeats 8000000 in
set_option maxRecDepth 100000 in
theorem swarfref38_way.calls (k : Nat) (A0 : Option Addr) (c0 : Nat) (l0 : List (S31)) (A1 : Option Addr) (c1 : Nat) (l1 : List Int) (r : Int) (w : World) (hr0 : Kd.C k31 w A0 l0.length l0) (hc0 : l0.length ≤ c0) (hr1 : Kd.C (Kd.int .i64) w A1 l1.length l1) (hc1 : l1.length ≤ c1) (h : swarfref38_way.f k l0 l1 = some r) :
    Calls Try.prog 33 #[.slice A0 l0.length c0, .slice A1 l1.length c1] w fun e w' => e = .returned (.int .i64 r) ∧ Below w.heap.size w w' := by
  have hu31 := Try.underlying31
  have HR0 := Aside0.mk hr0
  have HC0 := Aside0.mk hc0
  clear hr0 hc0
  have HR1 := Aside0.mk hr1
  have HC1 := Aside0.mk hc1
  clear hr1 hc1
  have HB := Aside0.mk (Below.refl w.heap.size w)
  have H : (swarfref38_way.l0 k l0 l1 0 1) = some r := h
  clear h
  have H' := Aside0.mk H
  clear H
  go_enter Try.func33, Try.ntmps33
  go_wp2
  go_loopg [5, 6] k (fun kq v5 v6 w' => ∃ (x5_1 : Int) (x6_1 : Int), v5 = .int .i64 x5_1 ∧ v6 = .int .i64 x6_1 ∧ Aside0 (swarfref38_way.l0 kq l0 l1 x5_1 x6_1 = some r) ∧ Aside0 (kq ≤ k) ∧ Aside0 (Below w.heap.size w w'))
  case atStart => exact ⟨(0), (1), (by first | rfl | (simp; done) | (simp [*]; done)), (by first | rfl | (simp; done) | (simp [*]; done)), H', ⟨Nat.le_refl _⟩, ⟨by repeat (first | (with_reducible first | exact HB.out | apply below_alloc | apply pw_below_drewN | apply below_drew1) | exact HB.out)⟩⟩
  case round =>
    clear H'
    try clear c1
    try clear p2
    obtain ⟨x5_1, x6_1, rfl, rfl, HA, HK1, HB⟩ := hrel
    cases gk with
    | zero => exact absurd HA.out (by simp [swarfref38_way.l0])
    | succ k1 =>
      have H := HA.out
      clear HA
      simp only [swarfref38_way.l0] at H
      by_cases c3 : x6_1 < (l1.length : Int)
      · rw [if_pos c3] at H
        have c3b0 : decide (x6_1 < (l1.length : Int)) = true := decide_eq_true c3
        clear c3
        obtain ⟨ji4, hji4⟩ : ∃ j_ : Int, (wrap64 (x6_1 - 1)) = j_ := ⟨_, rfl⟩
        replace H : (if 0 ≤ (ji4) then (if (ji4) < (l1.length : Int) then (if 0 ≤ (rd l1 (ji4)) then (if (rd l1 (ji4)) < (l0.length : Int) then (if 0 ≤ x6_1 then (if 0 ≤ (rd l1 x6_1) then (if (rd l1 x6_1) < (l0.length : Int) then ((swarfref38_Distance.f ((rd_T31 l0 (rd l1 (ji4))).f0) ((rd_T31 l0 (rd l1 (ji4))).f1) ((rd_T31 l0 (rd l1 x6_1)).f0) ((rd_T31 l0 (rd l1 x6_1)).f1)).bind fun t254 => (swarfref38_way.l0 k1 l0 l1 (wrap64 (x5_1 + t254)) (wrap64 (x6_1 + 1)))) else (none)) else (none)) else (none)) else (none)) else (none)) else (none)) else (none)) = some r := by first | (rw [hji4] at H; exact H) | (simp only [hji4] at H ⊢; exact H)
        have hji4w : (IntKind.i64.wrap (x6_1 - 1)) = ji4 := (i64_w _).trans hji4
        by_cases c5 : 0 ≤ (ji4)
        · rw [if_pos c5] at H
          have c5b0 : decide (0 ≤ (ji4)) = true := decide_eq_true c5
          clear c5
          by_cases c6 : (ji4) < (l1.length : Int)
          · rw [if_pos c6] at H
            have c6b0 : decide ((ji4) < (l1.length : Int)) = true := decide_eq_true c6
            clear c6
            by_cases c7 : 0 ≤ (rd l1 (ji4))
            · rw [if_pos c7] at H
              have c7b0 : decide (0 ≤ (rd l1 (ji4))) = true := decide_eq_true c7
              clear c7
              by_cases c8 : (rd l1 (ji4)) < (l0.length : Int)
              · rw [if_pos c8] at H
                have c8b0 : decide ((rd l1 (ji4)) < (l0.length : Int)) = true := decide_eq_true c8
                clear c8
                by_cases c9 : 0 ≤ x6_1
                · rw [if_pos c9] at H
                  have c9b0 : decide (0 ≤ x6_1) = true := decide_eq_true c9
                  clear c9
                  by_cases c10 : 0 ≤ (rd l1 x6_1)
                  · rw [if_pos c10] at H
                    have c10b0 : decide (0 ≤ (rd l1 x6_1)) = true := decide_eq_true c10
                    clear c10
                    by_cases c11 : (rd l1 x6_1) < (l0.length : Int)
                    · rw [if_pos c11] at H
                      have c11b0 : decide ((rd l1 x6_1) < (l0.length : Int)) = true := decide_eq_true c11
                      clear c11
                      replace H := Option.bind_eq_some_iff.mp H
                      obtain ⟨t254, A120, H⟩ := H
                      replace H : (swarfref38_way.l0 k1 l0 l1 (wrap64 (x5_1 + t254)) (wrap64 (x6_1 + 1))) = some r := H
                      have A12 := Aside0.mk A120
                      clear A120
                      have H' := Aside0.mk H
                      clear H
                      try go_wp2
                      have n0_ := Aside0.mk (below_drew1 HB.out)
                      clear HB
                      have HB := n0_
                      clear n0_
                      have p250 : 0 ≤ ((ji4) : Int) := of_decide_eq_true (by first | (with_reducible assumption) | assumption)
                      have q250 : (ji4) < (l1.length : Int) := of_decide_eq_true (by first | (with_reducible assumption) | assumption)
                      obtain ⟨ad250, e250, hx250_0⟩ := Kd.at_int HR1.out (ji4) p250 q250
                      have hw250_0 := hx250_0
                      cases e250
                      replace hx250_0 := (HB.out.cell (World.block_lt_of_cell? w _ hx250_0)).trans hx250_0
                      replace p250 := eq_true p250
                      replace q250 := eq_true q250
                      have p251 : 0 ≤ ((rd l1 (ji4)) : Int) := of_decide_eq_true (by first | (with_reducible assumption) | assumption)
                      have q251 : (rd l1 (ji4)) < (l0.length : Int) := of_decide_eq_true (by first | (with_reducible assumption) | assumption)
                      obtain ⟨ad251, e251, hx251_0, hx251_1⟩ := at_T31 HR0.out (rd l1 (ji4)) p251 q251
                      have hw251_1 := hx251_1
                      have hw251_0 := hx251_0
                      cases e251
                      replace hx251_0 := (HB.out.cell (World.block_lt_of_cell? w _ hx251_0)).trans hx251_0
                      replace hx251_1 := (HB.out.cell (World.block_lt_of_cell? w _ hx251_1)).trans hx251_1
                      replace p251 := eq_true p251
                      replace q251 := eq_true q251
                      have p252 : 0 ≤ (x6_1 : Int) := of_decide_eq_true (by first | (with_reducible assumption) | assumption)
                      have q252 : x6_1 < (l1.length : Int) := of_decide_eq_true (by first | (with_reducible assumption) | assumption)
                      obtain ⟨ad252, e252, hx252_0⟩ := Kd.at_int HR1.out x6_1 p252 q252
                      have hw252_0 := hx252_0
                      obtain rfl : ad250 = ad252 := (by injection e252)
                      replace hx252_0 := (HB.out.cell (World.block_lt_of_cell? w _ hx252_0)).trans hx252_0
                      replace p252 := eq_true p252
                      replace q252 := eq_true q252
                      have p253 : 0 ≤ ((rd l1 x6_1) : Int) := of_decide_eq_true (by first | (with_reducible assumption) | assumption)
                      have q253 : (rd l1 x6_1) < (l0.length : Int) := of_decide_eq_true (by first | (with_reducible assumption) | assumption)
                      obtain ⟨ad253, e253, hx253_0, hx253_1⟩ := at_T31 HR0.out (rd l1 x6_1) p253 q253
                      have hw253_1 := hx253_1
                      have hw253_0 := hx253_0
                      obtain rfl : ad251 = ad253 := (by injection e253)
                      replace hx253_0 := (HB.out.cell (World.block_lt_of_cell? w _ hx253_0)).trans hx253_0
                      replace hx253_1 := (HB.out.cell (World.block_lt_of_cell? w _ hx253_1)).trans hx253_1
                      replace p253 := eq_true p253
                      replace q253 := eq_true q253
                      refine start_ (n := 19) (S := fun w' => w'.cell? (ad250.add ((ji4)).toNat) = some (.int .i64 (rd l1 (ji4))) ∧ w'.cell? (ad251.add (((rd l1 (ji4))).toNat * 2)) = some (.int .i64 ((rd_T31 l0 (rd l1 (ji4))).f0)) ∧ w'.cell? ⟨(ad251.add (((rd l1 (ji4))).toNat * 2)).block, (ad251.add (((rd l1 (ji4))).toNat * 2)).off + 1, none⟩ = some (.int .i64 ((rd_T31 l0 (rd l1 (ji4))).f1)) ∧ w'.cell? (ad250.add (x6_1).toNat) = some (.int .i64 (rd l1 x6_1)) ∧ w'.cell? (ad251.add (((rd l1 x6_1)).toNat * 2)) = some (.int .i64 ((rd_T31 l0 (rd l1 x6_1)).f0)) ∧ w'.cell? ⟨(ad251.add (((rd l1 x6_1)).toNat * 2)).block, (ad251.add (((rd l1 x6_1)).toNat * 2)).off + 1, none⟩ = some (.int .i64 ((rd_T31 l0 (rd l1 x6_1)).f1))) (ds := []) #[false, false, false, false, false, false, false, false, false, false, false, false, false, false, false, false, false, false, false] (by kernel_rfl) rfl rfl ⟨((HB.out.cell (World.block_lt_of_cell? w _ hw250_0)).trans hw250_0), ((HB.out.cell (World.block_lt_of_cell? w _ hw251_0)).trans hw251_0), ((HB.out.cell (World.block_lt_of_cell? w _ hw251_1)).trans hw251_1), ((HB.out.cell (World.block_lt_of_cell? w _ hw252_0)).trans hw252_0), ((HB.out.cell (World.block_lt_of_cell? w _ hw253_0)).trans hw253_0), ((HB.out.cell (World.block_lt_of_cell? w _ hw253_1)).trans hw253_1)⟩ (fun hHeld => ?_); refine with_tabW swarfref38_way.tab5 swarfref38_way.bits5 (fun HT_ HW_ => ?_)
                      generalize wr.drew = w13 at HB hx250_0 hx251_0 hx251_1 hx252_0 hx253_0 hx253_1 hHeld ⊢
                      refine pure_ (i := 0) (N := some 13) (v := ?_) (a' := ?_) #[true, false, false, false, false, false, false, false, false, false, false, false, false, false, false, false, false, false, false] rfl rfl (any_of HT_.out (by kernel_rfl)) (fun _ _ _ h => h) (Or.inl ⟨by rfl, ?_⟩) ?_ ?_
                      rotate_left
                      · intro w'
                        go_simp
                        with_reducible rfl
                      rotate_left
                      · simp only [Act.put, List.setIfInBounds_toArray, List.set_cons_zero, List.set_cons_succ, i64_w, i32_w]
                        rfl
                      refine pure_ (i := 1) (N := some 14) (v := ?_) (a' := ?_) #[true, true, false, false, false, false, false, false, false, false, false, false, false, false, false, false, false, false, false] rfl rfl (any_of HT_.out (by kernel_rfl)) (fun _ _ _ h => h) (Or.inl ⟨by rfl, ?_⟩) ?_ ?_
                      rotate_left
                      · intro w'
                        go_simp
                        with_reducible rfl
                      rotate_left
                      · simp only [Act.put, List.setIfInBounds_toArray, List.set_cons_zero, List.set_cons_succ, i64_w, i32_w]
                        rfl
                      refine pure_ (i := 2) (N := some 15) (v := ?_) (a' := ?_) #[true, true, true, false, false, false, false, false, false, false, false, false, false, false, false, false, false, false, false] rfl rfl (any_of HT_.out (by kernel_rfl)) (fun _ _ _ h => h) (Or.inl ⟨by rfl, ?_⟩) ?_ ?_
                      rotate_left
                      · intro w'
                        go_simp
                        with_reducible rfl
                      rotate_left
                      · simp only [Act.put, List.setIfInBounds_toArray, List.set_cons_zero, List.set_cons_succ, i64_w, i32_w]
                        rfl
                      refine pure_ (i := 3) (N := some 16) (v := ?_) (a' := ?_) #[true, true, true, true, false, false, false, false, false, false, false, false, false, false, false, false, false, false, false] rfl rfl (any_of HT_.out (by kernel_rfl)) (fun _ _ _ h => h) (Or.inl ⟨by rfl, ?_⟩) ?_ ?_
                      rotate_left
                      · intro w'
                        go_simp
                        with_reducible rfl
                      rotate_left
                      · simp only [Act.put, List.setIfInBounds_toArray, List.set_cons_zero, List.set_cons_succ, i64_w, i32_w]
                        rfl
                      refine pure_ (i := 4) (N := some 17) (v := ?_) (a' := ?_) #[true, true, true, true, true, false, false, false, false, false, false, false, false, false, false, false, false, false, false] rfl rfl (any_of HT_.out (by kernel_rfl)) (fun _ _ _ h => h) (Or.inl ⟨by rfl, ?_⟩) ?_ ?_
                      rotate_left
                      · intro w'
                        go_simp
                        with_reducible rfl
                      rotate_left
                      · simp only [Act.put, List.setIfInBounds_toArray, List.set_cons_zero, List.set_cons_succ, i64_w, i32_w]
                        rfl
                      refine pure_ (i := 5) (N := some 18) (v := ?_) (a' := ?_) #[true, true, true, true, true, true, false, false, false, false, false, false, false, false, false, false, false, false, false] rfl rfl (any_of HT_.out (by kernel_rfl)) (fun _ _ _ h => h) (Or.inl ⟨by rfl, ?_⟩) ?_ ?_
                      rotate_left
                      · intro w'
                        go_simp
                        with_reducible rfl
                      rotate_left
                      · simp only [Act.put, List.setIfInBounds_toArray, List.set_cons_zero, List.set_cons_succ, i64_w, i32_w]
                        rfl
                      refine pure_ (i := 9) (N := some 22) (v := ?_) (a' := ?_) #[true, true, true, true, true, true, false, false, false, true, false, false, false, false, false, false, false, false, false] rfl rfl (any_of HT_.out (by kernel_rfl)) (fun _ _ _ h => h) (Or.inl ⟨by rfl, ?_⟩) ?_ ?_
                      rotate_left
                      · intro w'
                        go_simp
                        with_reducible rfl
                      rotate_left
                      · simp only [Act.put, List.setIfInBounds_toArray, List.set_cons_zero, List.set_cons_succ, i64_w, i32_w]
                        rfl
                      refine pure_ (i := 10) (N := some 23) (v := ?_) (a' := ?_) #[true, true, true, true, true, true, false, false, false, true, true, false, false, false, false, false, false, false, false] rfl rfl (any_of HT_.out (by kernel_rfl)) (fun _ _ _ h => h) (Or.inl ⟨by rfl, ?_⟩) ?_ ?_
                      rotate_left
                      · intro w'
                        go_simp
                        with_reducible rfl
                      rotate_left
                      · simp only [Act.put, List.setIfInBounds_toArray, List.set_cons_zero, List.set_cons_succ, i64_w, i32_w]
                        rfl
                      refine pure_ (i := 11) (N := some 24) (v := ?_) (a' := ?_) #[true, true, true, true, true, true, false, false, false, true, true, true, false, false, false, false, false, false, false] rfl rfl (any_of HT_.out (by kernel_rfl)) (fun _ _ _ h => h) (Or.inl ⟨by rfl, ?_⟩) ?_ ?_
                      rotate_left
                      · intro w'
                        go_simp
                        with_reducible rfl
                      rotate_left
                      · simp only [Act.put, List.setIfInBounds_toArray, List.set_cons_zero, List.set_cons_succ, i64_w, i32_w]
                        rfl
                      refine pure_ (i := 12) (N := some 25) (v := ?_) (a' := ?_) #[true, true, true, true, true, true, false, false, false, true, true, true, true, false, false, false, false, false, false] rfl rfl (any_of HT_.out (by kernel_rfl)) (fun _ _ _ h => h) (Or.inl ⟨by rfl, ?_⟩) ?_ ?_
                      rotate_left
                      · intro w'
                        go_simp
                        with_reducible rfl
                      rotate_left
                      · simp only [Act.put, List.setIfInBounds_toArray, List.set_cons_zero, List.set_cons_succ, i64_w, i32_w]
                        rfl
                      refine take_ (i := 6) (N := some 19) (v := ?_) (a' := ?_) #[true, true, true, true, true, true, true, false, false, true, true, true, true, false, false, false, false, false, false] rfl rfl (take_ofW HT_.out HW_.out (by kernel_rfl)) (fun _ _ _ h => h) (Or.inl ⟨by rfl, ?_⟩) hHeld ?_ ?_
                      rotate_left
                      · rintro w' ⟨s0, s1, s2, s3, s4, s5⟩
                        go_simp
                        with_reducible rfl
                      rotate_left
                      · simp only [Act.put, List.setIfInBounds_toArray, List.set_cons_zero, List.set_cons_succ, i64_w, i32_w]
                        rfl
                      refine pure_ (i := 7) (N := some 20) (v := ?_) (a' := ?_) #[true, true, true, true, true, true, true, true, false, true, true, true, true, false, false, false, false, false, false] rfl rfl (any_of HT_.out (by kernel_rfl)) (fun _ _ _ h => h) (Or.inl ⟨by rfl, ?_⟩) ?_ ?_
                      rotate_left
                      · intro w'
                        go_simp
                        with_reducible rfl
                      rotate_left
                      · simp only [Act.put, List.setIfInBounds_toArray, List.set_cons_zero, List.set_cons_succ, i64_w, i32_w]
                        rfl
                      refine take_ (i := 8) (N := some 21) (v := ?_) (a' := ?_) #[true, true, true, true, true, true, true, true, true, true, true, true, true, false, false, false, false, false, false] rfl rfl (take_ofW HT_.out HW_.out (by kernel_rfl)) (fun _ _ _ h => h) (Or.inl ⟨by rfl, ?_⟩) hHeld ?_ ?_
                      rotate_left
                      · rintro w' ⟨s0, s1, s2, s3, s4, s5⟩
                        go_simp
                        with_reducible rfl
                      rotate_left
                      · simp only [Act.put, List.setIfInBounds_toArray, List.set_cons_zero, List.set_cons_succ, i64_w, i32_w]
                        rfl
                      refine take_ (i := 13) (N := some 26) (v := ?_) (a' := ?_) #[true, true, true, true, true, true, true, true, true, true, true, true, true, true, false, false, false, false, false] rfl rfl (take_ofW HT_.out HW_.out (by kernel_rfl)) (fun _ _ _ h => h) (Or.inl ⟨by rfl, ?_⟩) hHeld ?_ ?_
                      rotate_left
                      · rintro w' ⟨s0, s1, s2, s3, s4, s5⟩
                        go_simp
                        with_reducible rfl
                      rotate_left
                      · simp only [Act.put, List.setIfInBounds_toArray, List.set_cons_zero, List.set_cons_succ, i64_w, i32_w]
                        rfl
                      refine pure_ (i := 14) (N := some 27) (v := ?_) (a' := ?_) #[true, true, true, true, true, true, true, true, true, true, true, true, true, true, true, false, false, false, false] rfl rfl (any_of HT_.out (by kernel_rfl)) (fun _ _ _ h => h) (Or.inl ⟨by rfl, ?_⟩) ?_ ?_
                      rotate_left
                      · intro w'
                        go_simp
                        with_reducible rfl
                      rotate_left
                      · simp only [Act.put, List.setIfInBounds_toArray, List.set_cons_zero, List.set_cons_succ, i64_w, i32_w]
                        rfl
                      refine take_ (i := 15) (N := some 28) (v := ?_) (a' := ?_) #[true, true, true, true, true, true, true, true, true, true, true, true, true, true, true, true, false, false, false] rfl rfl (take_ofW HT_.out HW_.out (by kernel_rfl)) (fun _ _ _ h => h) (Or.inl ⟨by rfl, ?_⟩) hHeld ?_ ?_
                      rotate_left
                      · rintro w' ⟨s0, s1, s2, s3, s4, s5⟩
                        go_simp
                        with_reducible rfl
                      rotate_left
                      · simp only [Act.put, List.setIfInBounds_toArray, List.set_cons_zero, List.set_cons_succ, i64_w, i32_w]
                        rfl
                      refine one_ (i := 16) (N := some 29) #[true, true, true, true, true, true, true, true, true, true, true, true, true, true, true, true, true, false, false] rfl rfl (one_of HT_.out (by kernel_rfl)) (by decide) (fun K hK => ?_)
                      refine goes_ Try.func16 (by kernel_rfl) rfl #[.agg #[.int .i64 ((rd_T31 l0 (rd l1 (ji4))).f0), .int .i64 ((rd_T31 l0 (rd l1 (ji4))).f1)], .agg #[.int .i64 ((rd_T31 l0 (rd l1 x6_1)).f0), .int .i64 ((rd_T31 l0 (rd l1 x6_1)).f1)]] (by rfl) rfl rfl (by (try simp only [List.map_toArray, List.map_cons, List.map_nil]); first | done | (simp only [hji4]; rfl) | rfl | (simp only [List.length_drop, List.length_take]; rfl)) ?_
                      with_reducible refine (swarfref38_Distance.calls ((rd_T31 l0 (rd l1 (ji4))).f0) ((rd_T31 l0 (rd l1 (ji4))).f1) ((rd_T31 l0 (rd l1 x6_1)).f0) ((rd_T31 l0 (rd l1 x6_1)).f1) t254 _ A12.out).mono ?_
                      rintro e w14 ⟨rfl, hb⟩
                      refine ⟨_, rfl, ?_⟩
                      have n0_ := Aside0.mk (below_step (by repeat (first | (with_reducible first | exact HB.out | apply below_alloc | apply pw_below_drewN | apply below_drew1) | exact HB.out)) hb)
                      clear HB
                      have HB := n0_
                      clear n0_
                      (try clear hb)
                      (try clear hb2)
                      (try clear hk)
                      (try clear hi)
                      refine hK.out _ _ ⟨((HB.out.cell (World.block_lt_of_cell? w _ hw250_0)).trans hw250_0), ((HB.out.cell (World.block_lt_of_cell? w _ hw251_0)).trans hw251_0), ((HB.out.cell (World.block_lt_of_cell? w _ hw251_1)).trans hw251_1), ((HB.out.cell (World.block_lt_of_cell? w _ hw252_0)).trans hw252_0), ((HB.out.cell (World.block_lt_of_cell? w _ hw253_0)).trans hw253_0), ((HB.out.cell (World.block_lt_of_cell? w _ hw253_1)).trans hw253_1)⟩ (fun hHeld => ?_)
                      clear hK K
                      refine norm_ (a' := ?_) ?_ ?_
                      rotate_left
                      · show Act.put _ (some 29) _ = _
                        simp only [Act.put, List.setIfInBounds_toArray, List.set_cons_zero, List.set_cons_succ, i64_w, i32_w]
                        rfl
                      refine pure_ (i := 17) (N := some 30) (v := ?_) (a' := ?_) #[true, true, true, true, true, true, true, true, true, true, true, true, true, true, true, true, true, true, false] rfl rfl (any_of HT_.out (by kernel_rfl)) (fun _ _ _ h => h) (Or.inl ⟨by rfl, ?_⟩) ?_ ?_
                      rotate_left
                      · intro w'
                        go_simp
                        with_reducible rfl
                      rotate_left
                      · simp only [Act.put, List.setIfInBounds_toArray, List.set_cons_zero, List.set_cons_succ, i64_w, i32_w]
                        rfl
                      refine pure_ (i := 18) (N := some 5) (v := ?_) (a' := ?_) #[true, true, true, true, true, true, true, true, true, true, true, true, true, true, true, true, true, true, true] rfl rfl (any_of HT_.out (by kernel_rfl)) (fun _ _ _ h => h) (Or.inl ⟨by rfl, ?_⟩) ?_ ?_
                      rotate_left
                      · intro w'
                        go_simp
                        with_reducible rfl
                      rotate_left
                      · simp only [Act.put, List.setIfInBounds_toArray, List.set_cons_zero, List.set_cons_succ, i64_w, i32_w]
                        rfl
                      refine done_ (done_of HT_.out (by kernel_rfl)) ?_
                      try go_wp2
                      go_roundg k1
                      case measure => have := HK1.out; omega
                      case rel => exact ⟨(wrap64 (x5_1 + t254)), (wrap64 (x6_1 + 1)), (by first | rfl | (simp; done) | (simp [*]; done)), (by first | rfl | (simp; done) | (simp [*]; done)), H', ⟨by have := HK1.out; omega⟩, ⟨by repeat (first | (with_reducible first | exact HB.out | apply below_alloc | apply pw_below_drewN | apply below_drew1) | exact HB.out)⟩⟩
                    · rw [if_neg c11] at H
                      exact absurd H (by simp)
                  · rw [if_neg c10] at H
                    exact absurd H (by simp)
                · rw [if_neg c9] at H
                  exact absurd H (by simp)
              · rw [if_neg c8] at H
                exact absurd H (by simp)
            · rw [if_neg c7] at H
              exact absurd H (by simp)
          · rw [if_neg c6] at H
            exact absurd H (by simp)
        · rw [if_neg c5] at H
          exact absurd H (by simp)
      · rw [if_neg c3] at H
        have c3b0 : decide (x6_1 < (l1.length : Int)) = false := decide_eq_false c3
        clear c3
        obtain rfl := Option.some.inj H
        go_wp2
        go_ret
        exact ⟨by first | rfl | (simp [errW_none, errW_some] <;> rfl) | (simp [*, errW_none, errW_some] <;> rfl), by repeat (first | (with_reducible first | exact HB.out | apply below_alloc | apply pw_below_drewN | apply below_drew1) | exact HB.out)⟩

end Go.Proofs.Ytohjocajaanhaaa.P

-- PRINTED by print.py (a twelfth state) out of the translation. Not trusted: Lean checks it.

namespace Go.Proofs.Ytohjocajaanhaaa.P
open Go.RowKit Go.Proofs.YtohjocajaanhaaaW.PrintWords Go.Proofs.YtohjocajaanhaaaW.PrintLast Go.Proofs.YtohjocajaanhaaaW.PrintMore
attribute [local go_sem] max2_int min2_int max_two min_two max_three min_three max_four min_four   -- for this text's walks alone
set_option linter.unusedVariables false
set_option linter.unusedSimpArgs false

/-! ### swarfref38_Length: function 13 -/
def swarfref38_Length.f (k : Nat) (l0 : List (S31)) (l1 : List Int) : Option (Int × Int) := (swarfref38_Valid.f k l0 200).bind fun t255 => (if t255 = 0 then ((swarfref38_Order.f k (l0.length : Int) l1).bind fun t256 => (if t256 = true then ((swarfref38_way.f k l0 l1).bind fun t257 => (some (t257, 0))) else (some (0, 1)))) else (some (0, t255)))
theorem swarfref38_Length.mono : ∀ a0 a1 k, LeO (swarfref38_Length.f k a0 a1) (swarfref38_Length.f (k + 1) a0 a1) := by
  intro a0 a1 k
  unfold swarfref38_Length.f
  repeat' first
      | (with_reducible exact swarfref38_Order.mono _ _ _)
      | (with_reducible exact swarfref38_Valid.mono _ _ _)
      | (with_reducible exact swarfref38_way.mono _ _ _)
      | (with_reducible exact LeO.refl _)
      | (with_reducible exact LeO.none _)
      | (with_reducible refine LeO.ite ?_ ?_)
      | (with_reducible refine LeO.bind ?_ (fun _ => ?_))
      | exact swarfref38_Order.mono _ _ _
      | exact swarfref38_Valid.mono _ _ _
      | exact swarfref38_way.mono _ _ _
      | exact LeO.none _
      | refine LeO.ite ?_ ?_
      | refine LeO.bind ?_ (fun _ => ?_)
set_option maxHeartbeats 8000000 in
set_option maxRecDepth 100000 in
theorem swarfref38_Length.calls (k : Nat) (A0 : Option Addr) (c0 : Nat) (l0 : List (S31)) (A1 : Option Addr) (c1 : Nat) (l1 : List Int) (r1 : Int) (r2 : Int) (w : World) (hr0 : Kd.C k31 w A0 l0.length l0) (hc0 : l0.length ≤ c0) (hr1 : Kd.C (Kd.int .i64) w A1 l1.length l1) (hc1 : l1.length ≤ c1) (h : swarfref38_Length.f k l0 l1 = some (r1, r2)) :
    Calls Try.prog 13 #[.slice A0 l0.length c0, .slice A1 l1.length c1] w fun e w' => e = .returned (.tuple #[.int .i64 r1, .int .i64 r2]) ∧ Below w.heap.size w w' := by
  have HR0 := Aside0.mk hr0
  have HC0 := Aside0.mk hc0
  clear hr0 hc0
  have HR1 := Aside0.mk hr1
  have HC1 := Aside0.mk hc1
  clear hr1 hc1
  have HB := Aside0.mk (Below.refl w.heap.size w)
  have H : ((swarfref38_Valid.f k l0 200).bind fun t255 => (if t255 = 0 then ((swarfref38_Order.f k (l0.length : Int) l1).bind fun t256 => (if t256 = true then ((swarfref38_way.f k l0 l1).bind fun t257 => (some (t257, 0))) else (some (0, 1)))) else (some (0, t255)))) = some (r1, r2) := h
  clear h
  replace H := Option.bind_eq_some_iff.mp H
  obtain ⟨t255, A30, H⟩ := H
  replace H : (if t255 = 0 then ((swarfref38_Order.f k (l0.length : Int) l1).bind fun t256 => (if t256 = true then ((swarfref38_way.f k l0 l1).bind fun t257 => (some (t257, 0))) else (some (0, 1)))) else (some (0, t255))) = some (r1, r2) := H
  have A3 := Aside0.mk A30
  clear A30
  by_cases c4 : t255 = 0
  · rw [if_pos c4] at H
    have c4b0 : (t255 == 0) = true := beq_iff_eq.mpr c4
    have c4b1 : (t255 != 0) = false := bne_eq_false_iff_eq.mpr c4
    clear c4
    replace H := Option.bind_eq_some_iff.mp H
    obtain ⟨t256, A50, H⟩ := H
    replace H : (if t256 = true then ((swarfref38_way.f k l0 l1).bind fun t257 => (some (t257, 0))) else (some (0, 1))) = some (r1, r2) := H
    have A5 := Aside0.mk A50
    clear A50
    by_cases c6 : t256 = true
    · subst c6
      have H1 : ((swarfref38_way.f k l0 l1).bind fun t257 => (some (t257, 0))) = some (r1, r2) := by rw [if_pos rfl] at H; exact H
      clear H
      have H := H1
      clear H1
      replace H := Option.bind_eq_some_iff.mp H
      obtain ⟨t257, A70, H⟩ := H
      replace H : (some (t257, 0)) = some (r1, r2) := H
      have A7 := Aside0.mk A70
      clear A70
      simp only [Option.some.injEq, Prod.mk.injEq] at H
      obtain ⟨rfl, rfl⟩ := H
      go_enter Try.func13, Try.ntmps13
      go_wp2_with (first | ((with_reducible refine gate_callee (f := 31) rfl ?_); refine goesL_ (some 8) rfl rfl Try.func31 (by kernel_rfl) rfl #[.slice A0 l0.length c0, .int .i64 200] rfl (by (try simp only [List.map_toArray, List.map_cons, List.map_nil]); first | done | rfl | (simp only [List.length_drop, List.length_take]; rfl)) ?_; (with_reducible refine (swarfref38_Valid.calls k _ _ l0 200 t255 _ ?side1 ?side2 A3.out).mono ?_); (case side1 => repeat (first | exact HR0.out | (with_reducible refine Kd.C_alloc ?_ _) | (with_reducible refine Kd.C_drewN ?_ _) | (with_reducible refine Kd.C_drew ?_))); (case side2 => exact HC0.out); rintro e w' ⟨rfl, ⟨nd, rfl⟩⟩; refine ⟨_, rfl, ?_⟩) | ((with_reducible refine gate_callee (f := 32) rfl ?_); refine goesL_ (some 15) rfl rfl Try.func32 (by kernel_rfl) rfl #[.int .i64 (l0.length : Int), .slice A1 l1.length c1] rfl (by (try simp only [List.map_toArray, List.map_cons, List.map_nil]); first | done | rfl | (simp only [List.length_drop, List.length_take]; rfl)) ?_; (with_reducible refine (swarfref38_Order.calls k (l0.length : Int) _ _ l1 true _ ?side1 ?side2 A5.out).mono ?_); (case side1 => repeat (first | exact HR1.out | (with_reducible refine Kd.C_alloc ?_ _) | (with_reducible refine Kd.C_drewN ?_ _) | (with_reducible refine Kd.C_drew ?_))); (case side2 => exact HC1.out); rintro e w8 ⟨rfl, hb⟩; refine ⟨_, rfl, ?_⟩; have n0_ := Aside0.mk (below_step (by repeat (first | (with_reducible first | exact HB.out | apply below_alloc | apply pw_below_drewN | apply below_drew1) | exact HB.out)) hb); clear HB; have HB := n0_; clear n0_; (try clear hb); (try clear hb2); (try clear hk); (try clear hi)) | ((with_reducible refine gate_callee (f := 33) rfl ?_); refine goesL_ (some 19) rfl rfl Try.func33 (by kernel_rfl) rfl #[.slice A0 l0.length c0, .slice A1 l1.length c1] rfl (by (try simp only [List.map_toArray, List.map_cons, List.map_nil]); first | done | rfl | (simp only [List.length_drop, List.length_take]; rfl)) ?_; (with_reducible refine (swarfref38_way.calls k _ _ l0 _ _ l1 t257 _ ?side1 ?side2 ?side3 ?side4 A7.out).mono ?_); (case side1 => repeat (first | exact (Kd.C_below HR0.out HB.out) | (with_reducible refine Kd.C_alloc ?_ _) | (with_reducible refine Kd.C_drewN ?_ _) | (with_reducible refine Kd.C_drew ?_))); (case side2 => exact HC0.out); (case side3 => repeat (first | exact (Kd.C_below HR1.out HB.out) | (with_reducible refine Kd.C_alloc ?_ _) | (with_reducible refine Kd.C_drewN ?_ _) | (with_reducible refine Kd.C_drew ?_))); (case side4 => exact HC1.out); rintro e w9 ⟨rfl, hb⟩; refine ⟨_, rfl, ?_⟩; have n0_ := Aside0.mk (below_step (by repeat (first | (with_reducible first | exact HB.out | apply below_alloc | apply pw_below_drewN | apply below_drew1) | exact HB.out)) hb); clear HB; have HB := n0_; clear n0_; (try clear hb); (try clear hb2); (try clear hk); (try clear hi)))
      go_ret2
      exact ⟨by first | rfl | (simp [errW_none, errW_some] <;> rfl) | (simp [*, errW_none, errW_some] <;> rfl), by repeat (first | (with_reducible first | exact HB.out | apply below_alloc | apply pw_below_drewN | apply below_drew1) | exact HB.out)⟩
    · replace c6 := Bool.eq_false_iff.mpr c6
      subst c6
      have H1 : (some (0, 1)) = some (r1, r2) := by rw [if_neg (show ¬ (false = true) by decide)] at H; exact H
      clear H
      have H := H1
      clear H1
      simp only [Option.some.injEq, Prod.mk.injEq] at H
      obtain ⟨rfl, rfl⟩ := H
      go_enter Try.func13, Try.ntmps13
      go_wp2_with (first | ((with_reducible refine gate_callee (f := 31) rfl ?_); refine goesL_ (some 8) rfl rfl Try.func31 (by kernel_rfl) rfl #[.slice A0 l0.length c0, .int .i64 200] rfl (by (try simp only [List.map_toArray, List.map_cons, List.map_nil]); first | done | rfl | (simp only [List.length_drop, List.length_take]; rfl)) ?_; (with_reducible refine (swarfref38_Valid.calls k _ _ l0 200 t255 _ ?side1 ?side2 A3.out).mono ?_); (case side1 => repeat (first | exact HR0.out | (with_reducible refine Kd.C_alloc ?_ _) | (with_reducible refine Kd.C_drewN ?_ _) | (with_reducible refine Kd.C_drew ?_))); (case side2 => exact HC0.out); rintro e w' ⟨rfl, ⟨nd, rfl⟩⟩; refine ⟨_, rfl, ?_⟩) | ((with_reducible refine gate_callee (f := 32) rfl ?_); refine goesL_ (some 15) rfl rfl Try.func32 (by kernel_rfl) rfl #[.int .i64 (l0.length : Int), .slice A1 l1.length c1] rfl (by (try simp only [List.map_toArray, List.map_cons, List.map_nil]); first | done | rfl | (simp only [List.length_drop, List.length_take]; rfl)) ?_; (with_reducible refine (swarfref38_Order.calls k (l0.length : Int) _ _ l1 false _ ?side1 ?side2 A5.out).mono ?_); (case side1 => repeat (first | exact HR1.out | (with_reducible refine Kd.C_alloc ?_ _) | (with_reducible refine Kd.C_drewN ?_ _) | (with_reducible refine Kd.C_drew ?_))); (case side2 => exact HC1.out); rintro e w10 ⟨rfl, hb⟩; refine ⟨_, rfl, ?_⟩; have n0_ := Aside0.mk (below_step (by repeat (first | (with_reducible first | exact HB.out | apply below_alloc | apply pw_below_drewN | apply below_drew1) | exact HB.out)) hb); clear HB; have HB := n0_; clear n0_; (try clear hb); (try clear hb2); (try clear hk); (try clear hi)))
      go_ret2
      exact ⟨by first | rfl | (simp [errW_none, errW_some] <;> rfl) | (simp [*, errW_none, errW_some] <;> rfl), by repeat (first | (with_reducible first | exact HB.out | apply below_alloc | apply pw_below_drewN | apply below_drew1) | exact HB.out)⟩
  · rw [if_neg c4] at H
    have c4b0 : (t255 == 0) = false := beq_eq_false_iff_ne.mpr c4
    have c4b1 : (t255 != 0) = true := bne_iff_ne.mpr c4
    simp only [Option.some.injEq, Prod.mk.injEq] at H
    obtain ⟨rfl, rfl⟩ := H
    go_enter Try.func13, Try.ntmps13
    go_wp2_with (first | ((with_reducible refine gate_callee (f := 31) rfl ?_); refine goesL_ (some 8) rfl rfl Try.func31 (by kernel_rfl) rfl #[.slice A0 l0.length c0, .int .i64 200] rfl (by (try simp only [List.map_toArray, List.map_cons, List.map_nil]); first | done | rfl | (simp only [List.length_drop, List.length_take]; rfl)) ?_; (with_reducible refine (swarfref38_Valid.calls k _ _ l0 200 t255 _ ?side1 ?side2 A3.out).mono ?_); (case side1 => repeat (first | exact HR0.out | (with_reducible refine Kd.C_alloc ?_ _) | (with_reducible refine Kd.C_drewN ?_ _) | (with_reducible refine Kd.C_drew ?_))); (case side2 => exact HC0.out); rintro e w' ⟨rfl, ⟨nd, rfl⟩⟩; refine ⟨_, rfl, ?_⟩))
    go_ret2
    exact ⟨by first | rfl | (simp [errW_none, errW_some] <;> rfl) | (simp [*, errW_none, errW_some] <;> rfl), by repeat (first | (with_reducible first | exact HB.out | apply below_alloc | apply pw_below_drewN | apply below_drew1) | exact HB.out)⟩

end Go.Proofs.Ytohjocajaanhaaa.P

/- What the printed functions of tours come to: the error of positions, orders, lengths. Plain numbers and lists. -/

namespace Go.Proofs.Ytohjocajaanhaaa.B
open Go.RowKit Go.Proofs.Ytohjocajaanhaaa.P Go.Proofs.YtohjocajaanhaaaW.PrintWords Go.Proofs.YtohjocajaanhaaaW.PrintLast Go.Proofs.YtohjocajaanhaaaW.PrintMore
set_option linter.unusedVariables false
set_option linter.unusedSimpArgs false

theorem wrap_mid (x : Int) (h0 : -4000000000000000 ≤ x) (h1 : x ≤ 4000000000000000) : wrap64 x = x := by unfold wrap64; omega
theorem ev_end {α : Type} {g : Nat → Option α} {r : α} (h : ∀ k, g (k + 1) = some r) : Ev g r := Ev.step (f := fun _ => some r) h (Ev.now r)
def okp (p : S31) : Bool := decide (-10000000 ≤ p.f0) && decide (p.f0 ≤ 10000000) && (decide (-10000000 ≤ p.f1) && decide (p.f1 ≤ 10000000))
theorem okp_iff (p : S31) : okp p = true ↔ (-10000000 ≤ p.f0 ∧ p.f0 ≤ 10000000) ∧ (-10000000 ≤ p.f1 ∧ p.f1 ≤ 10000000) := by simp [okp]
def gapZ (a b : Int) : Int := if a < b then b - a else a - b
/-- The distance of two positions. -/
def dst (p q : S31) : Int := mx (gapZ p.f0 q.f0) (gapZ p.f1 q.f1)
theorem dst_nonneg (p q : S31) : 0 ≤ dst p q := by unfold dst mx gapZ; repeat' split <;> omega
theorem dst_le {p q : S31} (hp : okp p = true) (hq : okp q = true) : dst p q ≤ 20000000 := by
  rw [okp_iff] at hp hq
  unfold dst mx gapZ; repeat' split <;> omega
theorem dst_symm (p q : S31) : dst p q = dst q p := by unfold dst mx gapZ; repeat' split <;> omega
theorem dist_eq {p q : S31} (hp : okp p = true) (hq : okp q = true) : tour_Distance.f p.f0 p.f1 q.f0 q.f1 = some (dst p q) := by
  rw [okp_iff] at hp hq
  unfold tour_Distance.f
  rw [wrap_mid _ (by omega) (by omega), wrap_mid _ (by omega) (by omega), wrap_mid _ (by omega) (by omega), wrap_mid _ (by omega) (by omega)]
  congr 1
  unfold dst mx gapZ; repeat' split <;> omega
theorem ref_dist_eq {p q : S31} (hp : okp p = true) (hq : okp q = true) : swarfref38_Distance.f p.f0 p.f1 q.f0 q.f1 = some (dst p q) := by
  rw [okp_iff] at hp hq
  unfold swarfref38_Distance.f swarfref38_gap.f
  rw [wrap_mid _ (by omega) (by omega), wrap_mid _ (by omega) (by omega), wrap_mid _ (by omega) (by omega), wrap_mid _ (by omega) (by omega)]
  unfold dst gapZ
  by_cases h1 : p.f0 < q.f0 <;> by_cases h2 : p.f1 < q.f1 <;> simp [h1, h2]
theorem drop_T31 (l : List S31) (j : Nat) (h : j < l.length) : l.drop j = rd_T31 l (j : Int) :: l.drop (j + 1) := by
  rw [List.drop_eq_getElem_cons h]
  congr 1
  unfold rd_T31
  simp [List.getD, h]
theorem drop_rd (l : List Int) (j : Nat) (h : j < l.length) : l.drop j = rd l (j : Int) :: l.drop (j + 1) := by
  rw [List.drop_eq_getElem_cons h]
  congr 1
  unfold rd
  simp [List.getD, h]
theorem ok_at {l : List S31} (h : l.all okp = true) (i : Int) (h0 : 0 ≤ i) (h1 : i < (l.length : Int)) : okp (rd_T31 l i) = true := by
  rw [List.all_eq_true] at h
  have : i.toNat < l.length := by omega
  have e : rd_T31 l i = l[i.toNat] := by unfold rd_T31; simp [List.getD, this]
  rw [e]
  exact h _ (List.getElem_mem this)

/-! ### The error of positions -/
theorem check_l0 (l : List S31) (hn : l.length ≤ 1000) (d : Nat) : ∀ j : Nat, j + d = l.length → Ev (fun k => tour_check.l0 k l (l.length : Int) (j : Int)) (if (l.drop j).all okp = true then 0 else 11) := by
  induction d with
  | zero =>
    intro j hj
    rw [List.drop_eq_nil_of_le (by omega)]
    exact ev_end (fun k => by simp only [tour_check.l0]; rw [if_neg (by omega)]; rfl)
  | succ d ih =>
    intro j hj
    have hw : wrap64 ((j : Int) + 1) = ((j + 1 : Nat) : Int) := by rw [wrap_mid _ (by omega) (by omega)]; omega
    rw [drop_T31 l j (by omega)]
    generalize hp : rd_T31 l (j : Int) = p
    by_cases ho : okp p = true
    · have hi := ih (j + 1) (by omega)
      rw [List.all_cons, ho, Bool.true_and]
      refine Ev.step (fun k => ?_) hi
      rw [okp_iff] at ho
      simp only [tour_check.l0]
      rw [if_pos (by omega), if_pos (by omega), if_pos (by omega), hp, if_neg (by unfold mx; split <;> omega), if_neg (by unfold mn; split <;> omega), hw]
    · rw [List.all_cons, show okp p = false by simpa using ho, Bool.false_and]
      refine ev_end (fun k => ?_)
      rw [okp_iff] at ho
      simp only [tour_check.l0]
      rw [if_pos (by omega), if_pos (by omega), if_pos (by omega), hp]
      by_cases h1 : mx p.f0 p.f1 > 10000000
      · rw [if_pos h1]; rfl
      · rw [if_neg h1, if_pos (by unfold mx at h1; unfold mn; split at h1 <;> split <;> omega)]; rfl
theorem rvalid_l0 (l : List S31) (hn : l.length ≤ 1000) (d : Nat) : ∀ j : Nat, j + d = l.length → Ev (fun k => swarfref38_Valid.l0 k l (j : Int)) (if (l.drop j).all okp = true then 0 else 11) := by
  induction d with
  | zero =>
    intro j hj
    rw [List.drop_eq_nil_of_le (by omega)]
    exact ev_end (fun k => by simp only [swarfref38_Valid.l0]; rw [if_neg (by omega)]; rfl)
  | succ d ih =>
    intro j hj
    have hw : wrap64 ((j : Int) + 1) = ((j + 1 : Nat) : Int) := by rw [wrap_mid _ (by omega) (by omega)]; omega
    rw [drop_T31 l j (by omega)]
    generalize hp : rd_T31 l (j : Int) = p
    by_cases ho : okp p = true
    · have hi := ih (j + 1) (by omega)
      rw [List.all_cons, ho, Bool.true_and]
      refine Ev.step (fun k => ?_) hi
      rw [okp_iff] at ho
      simp only [swarfref38_Valid.l0]
      rw [if_pos (by omega), if_pos (by omega), hp, if_neg (by omega), if_neg (by omega), if_neg (by omega), if_neg (by omega), hw]
    · rw [List.all_cons, show okp p = false by simpa using ho, Bool.false_and]
      refine ev_end (fun k => ?_)
      rw [okp_iff] at ho
      simp only [swarfref38_Valid.l0]
      rw [if_pos (by omega), if_pos (by omega), hp]
      by_cases h1 : p.f0 > 10000000
      · rw [if_pos h1]; rfl
      · rw [if_neg h1]
        by_cases h2 : p.f0 < -10000000
        · rw [if_pos h2]; rfl
        · rw [if_neg h2]
          by_cases h3 : p.f1 > 10000000
          · rw [if_pos h3]; rfl
          · rw [if_neg h3, if_pos (by omega)]; rfl
/-- The error of positions. -/
def chkE (l : List S31) (m : Int) : Int := if (l.length : Int) > m then 3 else if l.all okp = true then 0 else 11
theorem chkE_zero {l : List S31} {m : Int} (h : chkE l m = 0) : (l.length : Int) ≤ m ∧ l.all okp = true := by
  unfold chkE at h
  split at h
  · cases h
  · split at h
    · rename_i h1 h2; exact ⟨by omega, h2⟩
    · cases h
theorem check_ev (l : List S31) (m : Int) (hn : l.length ≤ 1000) : Ev (fun k => tour_check.f k l m) (chkE l m) := by
  unfold tour_check.f chkE
  by_cases h : (l.length : Int) > m
  · simp only [if_pos h]; exact Ev.now _
  · simp only [if_neg h]
    exact check_l0 l hn l.length 0 (by omega)
theorem rvalid_ev (l : List S31) (m : Int) (hn : l.length ≤ 1000) : Ev (fun k => swarfref38_Valid.f k l m) (chkE l m) := by
  unfold swarfref38_Valid.f chkE
  by_cases h : (l.length : Int) > m
  · simp only [if_pos h]; exact Ev.now _
  · simp only [if_neg h]
    exact rvalid_l0 l hn l.length 0 (by omega)
theorem right_ev (l : List S31) (m : Int) (hn : l.length ≤ 1000) : Ev (fun k => swarflaw38_right.f k l m) (chkE l m == 0) := by
  unfold swarflaw38_right.f
  exact Ev.bind (rvalid_ev l m hn) (Ev.now _)

/-! ### Orders -/
theorem rdOf_set (s : List Bool) (x y : Int) (h0 : 0 ≤ x) (h1 : x < (s.length : Int)) (hy : 0 ≤ y) : rdOf false (s.set x.toNat true) y = if x = y then true else rdOf false s y := by
  unfold rdOf
  rw [List.getD_eq_getElem?_getD, List.getD_eq_getElem?_getD, List.getElem?_set]
  by_cases h : x = y
  · subst h; rw [if_pos rfl, if_pos (by omega), if_pos rfl]; rfl
  · rw [if_neg (by omega), if_neg h]
/-! ### Lengths -/
def wy (l : List S31) : List Int → Int
  | [] => 0
  | [_] => 0
  | a :: b :: t => dst (rd_T31 l a) (rd_T31 l b) + wy l (b :: t)
theorem wy_nonneg (l : List S31) : ∀ o : List Int, 0 ≤ wy l o
  | [] => Int.le_refl _
  | [_] => Int.le_refl _
  | a :: b :: t => by
    have := wy_nonneg l (b :: t)
    have := dst_nonneg (rd_T31 l a) (rd_T31 l b)
    simp only [wy]; omega
theorem rd_mem {o : List Int} {i : Int} (h0 : 0 ≤ i) (h1 : i < (o.length : Int)) : rd o i ∈ o := by
  have : i.toNat < o.length := by omega
  have e : rd o i = o[i.toNat] := by unfold rd; simp [List.getD, this]
  rw [e]; exact List.getElem_mem this
theorem length_l0 (l : List S31) (hv : l.all okp = true) (o : List Int) (hl : o.length ≤ 1000) (hr : ∀ x ∈ o, 0 ≤ x ∧ x < (l.length : Int)) (d : Nat) : ∀ (j : Nat) (acc : Int), 0 ≤ acc → acc ≤ 20000000 * j → j + 1 + d = o.length →
    Ev (fun k => tour_length.l0 k l o acc ((j + 1 : Nat) : Int)) (acc + wy l (o.drop j)) ∧ Ev (fun k => swarfref38_way.l0 k l o acc ((j + 1 : Nat) : Int)) (acc + wy l (o.drop j)) := by
  induction d with
  | zero =>
    intro j acc ha0 ha1 hj
    rw [drop_rd o j (by omega), List.drop_eq_nil_of_le (by omega)]
    have e : acc + wy l [rd o (j : Int)] = acc := by simp [wy]
    rw [e]
    exact ⟨ev_end (fun k => by simp only [tour_length.l0]; rw [if_neg (by omega)]), ev_end (fun k => by simp only [swarfref38_way.l0]; rw [if_neg (by omega)])⟩
  | succ d ih =>
    intro j acc ha0 ha1 hj
    have m1 := hr _ (rd_mem (o := o) (i := (j : Int)) (by omega) (by omega))
    have m2 := hr _ (rd_mem (o := o) (i := ((j + 1 : Nat) : Int)) (by omega) (by omega))
    have k1 := ok_at hv _ m1.1 m1.2
    have k2 := ok_at hv _ m2.1 m2.2
    have dn := dst_nonneg (rd_T31 l (rd o (j : Int))) (rd_T31 l (rd o ((j + 1 : Nat) : Int)))
    have dl := dst_le k1 k2
    have hw1 : wrap64 (((j + 1 : Nat) : Int) - 1) = (j : Int) := by rw [wrap_mid _ (by omega) (by omega)]; omega
    have hw2 : wrap64 (((j + 1 : Nat) : Int) + 1) = ((j + 1 + 1 : Nat) : Int) := by rw [wrap_mid _ (by omega) (by omega)]; omega
    have hw3 : wrap64 (acc + dst (rd_T31 l (rd o (j : Int))) (rd_T31 l (rd o ((j + 1 : Nat) : Int)))) = acc + dst (rd_T31 l (rd o (j : Int))) (rd_T31 l (rd o ((j + 1 : Nat) : Int))) := wrap_mid _ (by omega) (by omega)
    have hi := ih (j + 1) (acc + dst (rd_T31 l (rd o (j : Int))) (rd_T31 l (rd o ((j + 1 : Nat) : Int)))) (by omega) (by omega) (by omega)
    have e : acc + wy l (o.drop j) = acc + dst (rd_T31 l (rd o (j : Int))) (rd_T31 l (rd o ((j + 1 : Nat) : Int))) + wy l (o.drop (j + 1)) := by
      rw [drop_rd o j (by omega), drop_rd o (j + 1) (by omega)]
      simp only [wy]; omega
    rw [e]
    constructor
    · refine Ev.step (fun k => ?_) hi.1
      simp only [tour_length.l0]
      rw [if_pos (by omega), hw1, if_pos (by omega), if_pos (by omega), if_pos m1.1, if_pos m1.2, if_pos (by omega), if_pos m2.1, if_pos m2.2, dist_eq k1 k2]
      simp only [Option.bind_some]
      rw [hw2, hw3]
    · refine Ev.step (fun k => ?_) hi.2
      simp only [swarfref38_way.l0]
      rw [if_pos (by omega), hw1, if_pos (by omega), if_pos (by omega), if_pos m1.1, if_pos m1.2, if_pos (by omega), if_pos m2.1, if_pos m2.2, ref_dist_eq k1 k2]
      simp only [Option.bind_some]
      rw [hw2, hw3]
theorem length_ev (l : List S31) (hv : l.all okp = true) (o : List Int) (hl : o.length ≤ 1000) (hr : ∀ x ∈ o, 0 ≤ x ∧ x < (l.length : Int)) : Ev (fun k => tour_length.f k l o) (wy l o) ∧ Ev (fun k => swarfref38_way.f k l o) (wy l o) := by
  unfold tour_length.f swarfref38_way.f
  cases o with
  | nil => exact ⟨ev_end (fun k => by simp only [tour_length.l0]; rfl), ev_end (fun k => by simp only [swarfref38_way.l0]; rfl)⟩
  | cons a t =>
    have := length_l0 l hv (a :: t) hl hr t.length 0 0 (by omega) (by omega) (by simp only [List.length_cons]; omega)
    rw [List.drop_zero, Int.zero_add] at this
    exact this
end Go.Proofs.Ytohjocajaanhaaa.B
