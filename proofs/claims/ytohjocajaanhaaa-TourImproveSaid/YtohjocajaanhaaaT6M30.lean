import Derived.Test.YtohjocajaanhaaaT6M21
import Derived.Test.YtohjocajaanhaaaT6M25
import Derived.Test.YtohjocajaanhaaaT6M27
import Derived.Test.YtohjocajaanhaaaT6M29
import Derived.Test.YtohjocajaanhaaaT6M22
import Derived.Test.YtohjocajaanhaaaT6M26
-- PRINTED by print.py (a twelfth state) out of the translation. Not trusted: Lean checks it.

namespace Go.Proofs.Ytohjocajaanhaaa.P
open Go.RowKit Go.Proofs.YtohjocajaanhaaaW.PrintWords Go.Proofs.YtohjocajaanhaaaW.PrintLast Go.Proofs.YtohjocajaanhaaaW.PrintMore
attribute [local go_sem] max2_int min2_int max_two min_two max_three min_three max_four min_four   -- for this text's walks alone
set_option linter.unusedVariables false
set_option linter.unusedSimpArgs false

/-! ### swarfref38_Nearest: function 19 -/
mutual
def swarfref38_Nearest.l0 : Nat → List (S31) → List Int → Option (List Int)
 | 0, _, _ => none
 | k + 1, x0, x3 => if (x3.length : Int) < (x0.length : Int) then (swarfref38_Nearest.l1 k x0 x3 (-1) 0) else (some x3)
def swarfref38_Nearest.l1 : Nat → List (S31) → List Int → Int → Int → Option (List Int)
 | 0, _, _, _, _ => none
 | k + 1, x0, x3, x4, x5 => if x5 < (x0.length : Int) then ((swarfref38_has.f k x3 x5).bind fun t277 => (if t277 = true then (swarfref38_Nearest.j2 k x0 x3 x4 x5 true) else (if (x3.length : Int) = 0 then (swarfref38_Nearest.j2 k x0 x3 x4 x5 (decide (x5 > 0))) else (swarfref38_Nearest.j2 k x0 x3 x4 x5 false)))) else (if x3.length < 17592186044416 then (swarfref38_Nearest.l0 k x0 (x3 ++ [x4])) else (none))
def swarfref38_Nearest.j2 : Nat → List (S31) → List Int → Int → Int → Bool → Option (List Int)
 | 0, _, _, _, _, _ => none
 | k + 1, x0, x3, x4, x5, x28 => if x28 = true then (swarfref38_Nearest.l1 k x0 x3 x4 (wrap64 (x5 + 1))) else (if x4 < 0 then (swarfref38_Nearest.l1 k x0 x3 x5 (wrap64 (x5 + 1))) else (if 0 ≤ (wrap64 ((x3.length : Int) - 1)) then (if (wrap64 ((x3.length : Int) - 1)) < (x3.length : Int) then (if 0 ≤ (rd x3 (wrap64 ((x3.length : Int) - 1))) then (if (rd x3 (wrap64 ((x3.length : Int) - 1))) < (x0.length : Int) then (if 0 ≤ x5 then (if x5 < (x0.length : Int) then ((swarfref38_Distance.f ((rd_T31 x0 (rd x3 (wrap64 ((x3.length : Int) - 1)))).f0) ((rd_T31 x0 (rd x3 (wrap64 ((x3.length : Int) - 1)))).f1) ((rd_T31 x0 x5).f0) ((rd_T31 x0 x5).f1)).bind fun t281 => (if 0 ≤ x4 then (if x4 < (x0.length : Int) then ((swarfref38_Distance.f ((rd_T31 x0 (rd x3 (wrap64 ((x3.length : Int) - 1)))).f0) ((rd_T31 x0 (rd x3 (wrap64 ((x3.length : Int) - 1)))).f1) ((rd_T31 x0 x4).f0) ((rd_T31 x0 x4).f1)).bind fun t285 => (if t281 < t285 then (swarfref38_Nearest.l1 k x0 x3 x5 (wrap64 (x5 + 1))) else (swarfref38_Nearest.l1 k x0 x3 x4 (wrap64 (x5 + 1))))) else (none)) else (none))) else (none)) else (none)) else (none)) else (none)) else (none)) else (none)))
end
def swarfref38_Nearest.f (k : Nat) (l0 : List (S31)) : Option (List Int) := swarfref38_Nearest.l0 k l0 ([] : List Int)
theorem swarfref38_Nearest.mono_l : ∀ k, (∀ y0 y1, LeO (swarfref38_Nearest.l0 k y0 y1) (swarfref38_Nearest.l0 (k + 1) y0 y1)) ∧ (∀ y0 y1 y2 y3, LeO (swarfref38_Nearest.l1 k y0 y1 y2 y3) (swarfref38_Nearest.l1 (k + 1) y0 y1 y2 y3)) ∧ (∀ y0 y1 y2 y3 y4, LeO (swarfref38_Nearest.j2 k y0 y1 y2 y3 y4) (swarfref38_Nearest.j2 (k + 1) y0 y1 y2 y3 y4))
 | 0 => ⟨fun _ _ r h => by simp [swarfref38_Nearest.l0] at h, fun _ _ _ _ r h => by simp [swarfref38_Nearest.l1] at h, fun _ _ _ _ _ r h => by simp [swarfref38_Nearest.j2] at h⟩
 | k + 1 => by
  obtain ⟨ih0, ih1, ih2⟩ := swarfref38_Nearest.mono_l k
  refine ⟨?_, ?_, ?_⟩
  ·intro y0 y1
   unfold swarfref38_Nearest.l0
   repeat' first
   | (with_reducible exact ih0 _ _)
   | (with_reducible exact ih1 _ _ _ _)
   | (with_reducible exact ih2 _ _ _ _ _)
   | (with_reducible exact swarfref38_has.mono _ _ _)
   | (with_reducible exact LeO.refl _)
   | (with_reducible exact LeO.none _)
   | (with_reducible refine LeO.ite ?_ ?_)
   | (with_reducible refine LeO.bind ?_ (fun _ => ?_))
   | exact ih0 _ _
   | exact ih1 _ _ _ _
   | exact ih2 _ _ _ _ _
   | exact swarfref38_has.mono _ _ _
   | exact LeO.none _
   | refine LeO.ite ?_ ?_
   | refine LeO.bind ?_ (fun _ => ?_)
  ·intro y0 y1 y2 y3
   unfold swarfref38_Nearest.l1
   repeat' first
   | (with_reducible exact ih0 _ _)
   | (with_reducible exact ih1 _ _ _ _)
   | (with_reducible exact ih2 _ _ _ _ _)
   | (with_reducible exact swarfref38_has.mono _ _ _)
   | (with_reducible exact LeO.refl _)
   | (with_reducible exact LeO.none _)
   | (with_reducible refine LeO.ite ?_ ?_)
   | (with_reducible refine LeO.bind ?_ (fun _ => ?_))
   | exact ih0 _ _
   | exact ih1 _ _ _ _
   | exact ih2 _ _ _ _ _
   | exact swarfref38_has.mono _ _ _
   | exact LeO.none _
   | refine LeO.ite ?_ ?_
   | refine LeO.bind ?_ (fun _ => ?_)
  ·intro y0 y1 y2 y3 y4
   unfold swarfref38_Nearest.j2
   repeat' first
   | (with_reducible exact ih0 _ _)
   | (with_reducible exact ih1 _ _ _ _)
   | (with_reducible exact ih2 _ _ _ _ _)
   | (with_reducible exact swarfref38_has.mono _ _ _)
   | (with_reducible exact LeO.refl _)
   | (with_reducible exact LeO.none _)
   | (with_reducible refine LeO.ite ?_ ?_)
   | (with_reducible refine LeO.bind ?_ (fun _ => ?_))
   | exact ih0 _ _
   | exact ih1 _ _ _ _
   | exact ih2 _ _ _ _ _
   | exact swarfref38_has.mono _ _ _
   | exact LeO.none _
   | refine LeO.ite ?_ ?_
   | refine LeO.bind ?_ (fun _ => ?_)
theorem swarfref38_Nearest.mono : ∀ a0 k, LeO (swarfref38_Nearest.f k a0) (swarfref38_Nearest.f (k + 1) a0) := by
 intro a0 k
 obtain ⟨ih0, ih1, ih2⟩ := swarfref38_Nearest.mono_l k
 unfold swarfref38_Nearest.f
 repeat' first
   | (with_reducible exact ih0 _ _)
   | (with_reducible exact ih1 _ _ _ _)
   | (with_reducible exact ih2 _ _ _ _ _)
   | (with_reducible exact swarfref38_has.mono _ _ _)
   | (with_reducible exact LeO.refl _)
   | (with_reducible exact LeO.none _)
   | (with_reducible refine LeO.ite ?_ ?_)
   | (with_reducible refine LeO.bind ?_ (fun _ => ?_))
   | exact ih0 _ _
   | exact ih1 _ _ _ _
   | exact ih2 _ _ _ _ _
   | exact swarfref38_has.mono _ _ _
   | exact LeO.none _
   | refine LeO.ite ?_ ?_
   | refine LeO.bind ?_ (fun _ => ?_)
def swarfref38_Nearest.T8 : Bool × List (List Nat × List Nat) := (true, [([], []), ([0], [0]), ([1], [1]), ([2], [2]), ([2], [2]), ([2], [2]), ([5, 2], [2, 5]), ([6, 2], [2, 6]), ([4, 7, 2], [2, 4, 7]), ([8, 2], [2, 8]), ([3, 9, 2], [2, 3, 9]), ([10, 2], [2, 10]), ([2], [2]), ([2], [2]), ([12, 13, 2], [2, 12, 13]), ([14, 2], [2, 14]), ([11, 15, 2, 2], [2, 11, 15]), ([2], [2]), ([2], [2]), ([2], [2]), ([19, 2], [2, 19]), ([20, 2], [2, 20]), ([18, 21, 2], [2, 18, 21]), ([22, 2], [2, 22]), ([17, 23, 2], [2, 17, 23]), ([24, 2], [2, 24]), ([2], [2]), ([2], [2]), ([26, 27, 2], [2, 26, 27]), ([28, 2], [2, 28]), ([25, 29, 16, 2], [2, 25, 29]), ([16, 30, 2], [2, 16, 30]), ([2, 31], [2, 31])])
def swarfref38_Nearest.B8 : List Nat := [0, 1, 3, 7, 7, 7, 39, 103, 247, 503, 1023, 2047, 7, 7, 12295, 28679, 65535, 7, 7, 7, 524295, 1572871, 3932167, 8126471, 16646151, 33423367, 7, 7, 201326599, 469762055, 1073741823, 2147483647, 4294967295]
theorem swarfref38_Nearest.tab8 : rtab .any (opsOf Try.f19 8) = swarfref38_Nearest.T8 := by kernel_rfl
theorem swarfref38_Nearest.bits8 : waitsOk swarfref38_Nearest.T8.2 swarfref38_Nearest.B8 = true := by kernel_rfl
set_option maxHeartbeats 8000000 in
set_option maxRecDepth 100000 in
theorem swarfref38_Nearest.calls (k : Nat) (A0 : Option Addr) (c0 : Nat) (l0 : List (S31)) (r : List Int) (w : World) (hr0 : Kd.C k31 w A0 l0.length l0) (hc0 : l0.length ≤ c0) (h : swarfref38_Nearest.f k l0 = some r) :
  Calls Try.prog 19 #[.slice A0 l0.length c0] w fun e w' => ∃ v0_ : Value, e = .returned (v0_) ∧ Kd.R (Kd.int .i64) 3 w' w.heap.size (fun _ => True) v0_ r ∧ Below w.heap.size w w' := by
 have hu31 := Try.underlying31
 have HR0 := Aside0.mk hr0
 have HC0 := Aside0.mk hc0
 clear hr0 hc0
 have HB := Aside0.mk (Below.refl w.heap.size w)
 have H : (swarfref38_Nearest.l0 k l0 ([] : List Int)) = some r := h
 clear h
 have H' := Aside0.mk H
 clear H
 go_enter Try.func19, Try.ntmps19
 go_wp2
 go_loopg [3] k (fun kq v3 w' => ∃ (x3_1 : List Int), Aside0 (swarfref38_Nearest.l0 kq l0 x3_1 = some r) ∧ Aside0 (kq ≤ k) ∧ Aside0 (Kd.R (Kd.int .i64) 3 w' w.heap.size (fun _ => True) v3 x3_1) ∧ Aside0 (Below w.heap.size w w'))
 case atStart => exact ⟨(([] : List Int)), H', ⟨Nat.le_refl _⟩, ⟨by first | exact Kd.R_nil _ _ _ _ _ | exact Kd.N_nil _ _ _ _ _ | exact Kd.V_nil _ _ _ _ _ | exact Kd.Q_nil _ _ _ _ _ | exact Kd.S_nil _ _ _ _ _⟩, ⟨by repeat (first | (with_reducible first | exact HB.out | apply below_alloc | apply pw_below_drewN | apply below_drew1) | exact HB.out)⟩⟩
 case round =>
  clear H'; try clear c1
  obtain ⟨x3_1, HA, HK1, HO_3, HB⟩ := hrel
  cases gk with
  | zero => exact absurd HA.out (by simp [swarfref38_Nearest.l0])
  | succ k1 =>
   have H := HA.out
   clear HA
   simp only [swarfref38_Nearest.l0] at H
   by_cases c2 : (x3_1.length : Int) < (l0.length : Int)
   ·rw [if_pos c2] at H
    have c2b0 : decide ((x3_1.length : Int) < (l0.length : Int)) = true := decide_eq_true c2
    have c2b1 : decide (x3_1.length < l0.length) = true := decide_eq_true (Int.ofNat_lt.mp c2)
    clear c2; have H' := Aside0.mk H; clear H
    obtain ⟨Ao3, co3, eo3⟩ := Kd.R_slice HO_3.out
    subst eo3; go_wp2
    go_loopg [4, 5] k1 (fun kq v4 v5 w' => ∃ (x4_2 : Int) (x5_2 : Int), v4 = .int .i64 x4_2 ∧ v5 = .int .i64 x5_2 ∧ Aside0 (swarfref38_Nearest.l1 kq l0 x3_1 x4_2 x5_2 = some r) ∧ Aside0 (kq ≤ k1) ∧ Aside0 (Kd.R (Kd.int .i64) 3 w' w.heap.size (fun _ => True) (.slice Ao3 x3_1.length co3) x3_1) ∧ Aside0 (Below w.heap.size w w'))
    case atStart => exact ⟨((-1)), (0), (by first | rfl | (simp; done) | (simp [*]; done)), (by first | rfl | (simp; done) | (simp [*]; done)), H', ⟨Nat.le_refl _⟩, ⟨by (with_reducible repeat (first | apply Kd.R_alloc | apply Kd.R_drewN | apply Kd.R_drew)); exact HO_3.out⟩, ⟨by repeat (first | (with_reducible first | exact HB.out | apply below_alloc | apply pw_below_drewN | apply below_drew1) | exact HB.out)⟩⟩
    case round =>
     clear H'; try clear c1; try clear c2; try clear c2b0; try clear c2b1; try clear p2
     obtain ⟨x4_2, x5_2, rfl, rfl, HA, HK2, HO_3, HB⟩ := hrel
     cases gk with
     | zero => exact absurd HA.out (by simp [swarfref38_Nearest.l1])
     | succ k2 =>
      have H := HA.out
      clear HA
      simp only [swarfref38_Nearest.l1] at H
      by_cases c4 : x5_2 < (l0.length : Int)
      ·rw [if_pos c4] at H
       have c4b0 : decide (x5_2 < (l0.length : Int)) = true := decide_eq_true c4
       clear c4; have HC5 := Aside0.mk H; clear H
       go_upto_region 7 with (fail)
       go_cut [28] (fun v28 wc => ∃ (kq : Nat) (x28_4 : Bool), v28 = .bool x28_4 ∧ Aside0 (swarfref38_Nearest.j2 kq l0 x3_1 x4_2 x5_2 x28_4 = some r) ∧ Aside0 (kq ≤ k2) ∧ Aside0 (Kd.R (Kd.int .i64) 3 wc w.heap.size (fun _ => True) (.slice Ao3 x3_1.length co3) x3_1) ∧ Aside0 (Below w.heap.size w wc))
       case first =>
        have H := HC5.out
        clear HC5; replace H := Option.bind_eq_some_iff.mp H
        obtain ⟨t277, A60, H⟩ := H
        replace H : (if t277 = true then (swarfref38_Nearest.j2 k2 l0 x3_1 x4_2 x5_2 true) else (if (x3_1.length : Int) = 0 then (swarfref38_Nearest.j2 k2 l0 x3_1 x4_2 x5_2 (decide (x5_2 > 0))) else (swarfref38_Nearest.j2 k2 l0 x3_1 x4_2 x5_2 false))) = some r := H
        have A6 := Aside0.mk A60; clear A60
        by_cases c7 : t277 = true
        ·subst c7
         have H1 : (swarfref38_Nearest.j2 k2 l0 x3_1 x4_2 x5_2 true) = some r := by rw [if_pos rfl] at H; exact H
         clear H; have H := H1; clear H1; have H' := Aside0.mk H; clear H
         go_wp2_with (first | ((with_reducible refine gate_callee (f := 35) rfl ?_); refine goesL_ (some 19) rfl rfl Try.func35 (by kernel_rfl) rfl #[.slice Ao3 x3_1.length co3, .int .i64 x5_2] rfl (by (try simp only [List.map_toArray, List.map_cons, List.map_nil]); first | done | rfl | (simp only [List.length_drop, List.length_take]; rfl)) ?_; (with_reducible refine (swarfref38_has.calls k2 _ _ x3_1 x5_2 true _ ?side1 ?side2 A6.out).mono ?_); (case side1 => repeat (first | exact (Kd.R_reads' HO_3.out).2.2 | (with_reducible refine Kd.C_alloc ?_ _) | (with_reducible refine Kd.C_drewN ?_ _) | (with_reducible refine Kd.C_drew ?_))); (case side2 => exact (Kd.R_reads' HO_3.out).2.1); rintro e w' ⟨rfl, ⟨nd, rfl⟩⟩; refine ⟨_, rfl, ?_⟩))
         go_meet
         case rel => exact ⟨_, (true), (by first | rfl | (simp; done) | (simp [*]; done)), H', ⟨by have := HK1.out; have := HK2.out; first | omega | exact Nat.le_refl _⟩, ⟨by (with_reducible repeat (first | apply Kd.R_alloc | apply Kd.R_drewN | apply Kd.R_drew)); exact HO_3.out⟩, ⟨by repeat (first | (with_reducible first | exact HB.out | apply below_alloc | apply pw_below_drewN | apply below_drew1) | exact HB.out)⟩⟩
        ·replace c7 := Bool.eq_false_iff.mpr c7
         subst c7
         have H1 : (if (x3_1.length : Int) = 0 then (swarfref38_Nearest.j2 k2 l0 x3_1 x4_2 x5_2 (decide (x5_2 > 0))) else (swarfref38_Nearest.j2 k2 l0 x3_1 x4_2 x5_2 false)) = some r := by rw [if_neg (show ¬ (false = true) by decide)] at H; exact H
         clear H; have H := H1; clear H1
         by_cases c8 : (x3_1.length : Int) = 0
         ·rw [if_pos c8] at H
          have c8b0 : ((x3_1.length : Int) == 0) = true := beq_iff_eq.mpr c8
          have c8b1 : ((x3_1.length : Int) != 0) = false := bne_eq_false_iff_eq.mpr c8
          clear c8
          (first | rw [c8b0] | (simp only [i64_w, i32_w]; rw [c8b0]) | skip)
          have H' := Aside0.mk H; clear H
          go_wp2_with (first | ((with_reducible refine gate_callee (f := 35) rfl ?_); refine goesL_ (some 19) rfl rfl Try.func35 (by kernel_rfl) rfl #[.slice Ao3 x3_1.length co3, .int .i64 x5_2] rfl (by (try simp only [List.map_toArray, List.map_cons, List.map_nil]); first | done | rfl | (simp only [List.length_drop, List.length_take]; rfl)) ?_; (with_reducible refine (swarfref38_has.calls k2 _ _ x3_1 x5_2 false _ ?side1 ?side2 A6.out).mono ?_); (case side1 => repeat (first | exact (Kd.R_reads' HO_3.out).2.2 | (with_reducible refine Kd.C_alloc ?_ _) | (with_reducible refine Kd.C_drewN ?_ _) | (with_reducible refine Kd.C_drew ?_))); (case side2 => exact (Kd.R_reads' HO_3.out).2.1); rintro e w' ⟨rfl, ⟨nd, rfl⟩⟩; refine ⟨_, rfl, ?_⟩))
          go_meet
          case rel => exact ⟨_, (decide (x5_2 > 0)), (by first | rfl | (simp; done) | (simp [*]; done)), H', ⟨by have := HK1.out; have := HK2.out; first | omega | exact Nat.le_refl _⟩, ⟨by (with_reducible repeat (first | apply Kd.R_alloc | apply Kd.R_drewN | apply Kd.R_drew)); exact HO_3.out⟩, ⟨by repeat (first | (with_reducible first | exact HB.out | apply below_alloc | apply pw_below_drewN | apply below_drew1) | exact HB.out)⟩⟩
         ·rw [if_neg c8] at H
          have c8b0 : ((x3_1.length : Int) == 0) = false := beq_eq_false_iff_ne.mpr c8
          have c8b1 : ((x3_1.length : Int) != 0) = true := bne_iff_ne.mpr c8
          have c8b2 : ¬ (x3_1 = []) := fun h_ => c8 (by rw [h_]; rfl)
          (first | rw [c8b0] | (simp only [i64_w, i32_w]; rw [c8b0]) | skip)
          have H' := Aside0.mk H; clear H
          go_wp2_with (first | ((with_reducible refine gate_callee (f := 35) rfl ?_); refine goesL_ (some 19) rfl rfl Try.func35 (by kernel_rfl) rfl #[.slice Ao3 x3_1.length co3, .int .i64 x5_2] rfl (by (try simp only [List.map_toArray, List.map_cons, List.map_nil]); first | done | rfl | (simp only [List.length_drop, List.length_take]; rfl)) ?_; (with_reducible refine (swarfref38_has.calls k2 _ _ x3_1 x5_2 false _ ?side1 ?side2 A6.out).mono ?_); (case side1 => repeat (first | exact (Kd.R_reads' HO_3.out).2.2 | (with_reducible refine Kd.C_alloc ?_ _) | (with_reducible refine Kd.C_drewN ?_ _) | (with_reducible refine Kd.C_drew ?_))); (case side2 => exact (Kd.R_reads' HO_3.out).2.1); rintro e w' ⟨rfl, ⟨nd, rfl⟩⟩; refine ⟨_, rfl, ?_⟩))
          go_meet
          case rel => exact ⟨_, (false), (by first | rfl | (simp; done) | (simp [*]; done)), H', ⟨by have := HK1.out; have := HK2.out; first | omega | exact Nat.le_refl _⟩, ⟨by (with_reducible repeat (first | apply Kd.R_alloc | apply Kd.R_drewN | apply Kd.R_drew)); exact HO_3.out⟩, ⟨by repeat (first | (with_reducible first | exact HB.out | apply below_alloc | apply pw_below_drewN | apply below_drew1) | exact HB.out)⟩⟩
       case rest =>
        clear HC5; try clear c1; try clear c2; try clear c2b0; try clear c2b1; try clear p2; try clear c3; try clear c4; try clear c4b0; try clear c7; try clear c8; try clear c8b0; try clear c8b1; try clear c8b2; try clear p2
        obtain ⟨kq, x28_4, rfl, HA, HJ4, HO_3, HB⟩ := hcut
        cases kq with
        | zero => exact absurd HA.out (by simp [swarfref38_Nearest.j2])
        | succ kj4 =>
         have H := HA.out
         clear HA
         simp only [swarfref38_Nearest.j2] at H
         by_cases c9 : x28_4 = true
         ·subst c9
          have H1 : (swarfref38_Nearest.l1 kj4 l0 x3_1 x4_2 (wrap64 (x5_2 + 1))) = some r := by rw [if_pos rfl] at H; exact H
          clear H; have H := H1; clear H1; have H' := Aside0.mk H; clear H; go_wp2
          go_roundg kj4
          case measure => have := HK1.out; have := HK2.out; have := HJ4.out; omega
          case rel => exact ⟨(x4_2), (wrap64 (x5_2 + 1)), (by first | rfl | (simp; done) | (simp [*]; done)), (by first | rfl | (simp; done) | (simp [*]; done)), H', ⟨by have := HK1.out; have := HK2.out; have := HJ4.out; omega⟩, ⟨by (with_reducible repeat (first | apply Kd.R_alloc | apply Kd.R_drewN | apply Kd.R_drew)); exact HO_3.out⟩, ⟨by repeat (first | (with_reducible first | exact HB.out | apply below_alloc | apply pw_below_drewN | apply below_drew1) | exact HB.out)⟩⟩
         ·replace c9 := Bool.eq_false_iff.mpr c9
          subst c9
          have H1 : (if x4_2 < 0 then (swarfref38_Nearest.l1 kj4 l0 x3_1 x5_2 (wrap64 (x5_2 + 1))) else (if 0 ≤ (wrap64 ((x3_1.length : Int) - 1)) then (if (wrap64 ((x3_1.length : Int) - 1)) < (x3_1.length : Int) then (if 0 ≤ (rd x3_1 (wrap64 ((x3_1.length : Int) - 1))) then (if (rd x3_1 (wrap64 ((x3_1.length : Int) - 1))) < (l0.length : Int) then (if 0 ≤ x5_2 then (if x5_2 < (l0.length : Int) then ((swarfref38_Distance.f ((rd_T31 l0 (rd x3_1 (wrap64 ((x3_1.length : Int) - 1)))).f0) ((rd_T31 l0 (rd x3_1 (wrap64 ((x3_1.length : Int) - 1)))).f1) ((rd_T31 l0 x5_2).f0) ((rd_T31 l0 x5_2).f1)).bind fun t281 => (if 0 ≤ x4_2 then (if x4_2 < (l0.length : Int) then ((swarfref38_Distance.f ((rd_T31 l0 (rd x3_1 (wrap64 ((x3_1.length : Int) - 1)))).f0) ((rd_T31 l0 (rd x3_1 (wrap64 ((x3_1.length : Int) - 1)))).f1) ((rd_T31 l0 x4_2).f0) ((rd_T31 l0 x4_2).f1)).bind fun t285 => (if t281 < t285 then (swarfref38_Nearest.l1 kj4 l0 x3_1 x5_2 (wrap64 (x5_2 + 1))) else (swarfref38_Nearest.l1 kj4 l0 x3_1 x4_2 (wrap64 (x5_2 + 1))))) else (none)) else (none))) else (none)) else (none)) else (none)) else (none)) else (none)) else (none))) = some r := by rw [if_neg (show ¬ (false = true) by decide)] at H; exact H
          clear H; have H := H1; clear H1
          by_cases c10 : x4_2 < 0
          ·rw [if_pos c10] at H
           have c10b0 : decide (x4_2 < 0) = true := decide_eq_true c10
           clear c10; have H' := Aside0.mk H; clear H
           try go_wp2
           have n0_ := Aside0.mk (Kd.R_drew HO_3.out)
           have n1_ := Aside0.mk (below_drew1 HB.out)
           clear HO_3; clear HB; have HO_3 := n0_; have HB := n1_; clear n0_ n1_
           refine start_ (n := 33) (S := fun w' => True) (ds := []) #[false, false, false, false, false, false, false, false, false, false, false, false, false, false, false, false, false, false, false, false, false, false, false, false, false, false, false, false, false, false, false, false, false] (by kernel_rfl) rfl rfl trivial (fun hHeld => ?_); refine with_tabW swarfref38_Nearest.tab8 swarfref38_Nearest.bits8 (fun HT_ HW_ => ?_)
           generalize wc.drew = w11 at HO_3 HB hHeld ⊢
           refine pure_ (i := 0) (N := some 29) (v := ?_) (a' := ?_) #[true, false, false, false, false, false, false, false, false, false, false, false, false, false, false, false, false, false, false, false, false, false, false, false, false, false, false, false, false, false, false, false, false] rfl rfl (any_of HT_.out (by kernel_rfl)) (fun _ _ _ h => h) (Or.inl ⟨by rfl, ?_⟩) ?_ ?_
           rotate_left; ·intro w'; go_simp; with_reducible rfl
           rotate_left; ·simp only [Act.put, sA_, sZ_, sS_, i64_w, i32_w]; rfl
           refine pure_ (i := 1) (N := some 30) (v := ?_) (a' := ?_) #[true, true, false, false, false, false, false, false, false, false, false, false, false, false, false, false, false, false, false, false, false, false, false, false, false, false, false, false, false, false, false, false, false] rfl rfl (any_of HT_.out (by kernel_rfl)) (fun _ _ _ h => h) (Or.inl ⟨by rfl, ?_⟩) ?_ ?_
           rotate_left; ·intro w'; go_simp; with_reducible rfl
           rotate_left; ·simp only [Act.put, sA_, sZ_, sS_, i64_w, i32_w]; rfl
           refine pure_ (i := 2) (N := some 31) (v := ?_) (a' := ?_) #[true, true, true, false, false, false, false, false, false, false, false, false, false, false, false, false, false, false, false, false, false, false, false, false, false, false, false, false, false, false, false, false, false] rfl rfl (any_of HT_.out (by kernel_rfl)) (fun _ _ _ h => h) (Or.inl ⟨by rfl, ?_⟩) ?_ ?_
           rotate_left; ·intro w'; go_simp; with_reducible rfl
           rotate_left; ·simp only [Act.put, sA_, sZ_, sS_, i64_w, i32_w]; rfl
           refine pure_ (i := 3) (N := some 32) (v := undef) (a' := ?_) #[true, true, true, true, false, false, false, false, false, false, false, false, false, false, false, false, false, false, false, false, false, false, false, false, false, false, false, false, false, false, false, false, false] rfl rfl (any_of HT_.out (by kernel_rfl)) (fun _ _ _ h => h) (Or.inr ⟨by rfl, rfl⟩) ?_ ?_
           rotate_left; ·simp only [Act.put, sA_, sZ_, sS_, i64_w, i32_w]; rfl
           refine pure_ (i := 4) (N := some 33) (v := undef) (a' := ?_) #[true, true, true, true, true, false, false, false, false, false, false, false, false, false, false, false, false, false, false, false, false, false, false, false, false, false, false, false, false, false, false, false, false] rfl rfl (any_of HT_.out (by kernel_rfl)) (fun _ _ _ h => h) (Or.inr ⟨by rfl, rfl⟩) ?_ ?_
           rotate_left; ·simp only [Act.put, sA_, sZ_, sS_, i64_w, i32_w]; rfl
           refine pure_ (i := 5) (N := some 34) (v := undef) (a' := ?_) #[true, true, true, true, true, true, false, false, false, false, false, false, false, false, false, false, false, false, false, false, false, false, false, false, false, false, false, false, false, false, false, false, false] rfl rfl (any_of HT_.out (by kernel_rfl)) (fun _ _ _ h => h) (Or.inr ⟨by rfl, rfl⟩) ?_ ?_
           rotate_left; ·simp only [Act.put, sA_, sZ_, sS_, i64_w, i32_w]; rfl
           refine pure_ (i := 6) (N := some 35) (v := undef) (a' := ?_) #[true, true, true, true, true, true, true, false, false, false, false, false, false, false, false, false, false, false, false, false, false, false, false, false, false, false, false, false, false, false, false, false, false] rfl rfl (any_of HT_.out (by kernel_rfl)) (fun _ _ _ h => h) (Or.inr ⟨by rfl, rfl⟩) ?_ ?_
           rotate_left; ·simp only [Act.put, sA_, sZ_, sS_, i64_w, i32_w]; rfl
           refine pure_ (i := 7) (N := some 36) (v := undef) (a' := ?_) #[true, true, true, true, true, true, true, true, false, false, false, false, false, false, false, false, false, false, false, false, false, false, false, false, false, false, false, false, false, false, false, false, false] rfl rfl (any_of HT_.out (by kernel_rfl)) (fun _ _ _ h => h) (Or.inr ⟨by rfl, rfl⟩) ?_ ?_
           rotate_left; ·simp only [Act.put, sA_, sZ_, sS_, i64_w, i32_w]; rfl
           refine pure_ (i := 8) (N := some 37) (v := undef) (a' := ?_) #[true, true, true, true, true, true, true, true, true, false, false, false, false, false, false, false, false, false, false, false, false, false, false, false, false, false, false, false, false, false, false, false, false] rfl rfl (any_of HT_.out (by kernel_rfl)) (fun _ _ _ h => h) (Or.inr ⟨by rfl, rfl⟩) ?_ ?_
           rotate_left; ·simp only [Act.put, sA_, sZ_, sS_, i64_w, i32_w]; rfl
           refine pure_ (i := 9) (N := some 38) (v := undef) (a' := ?_) #[true, true, true, true, true, true, true, true, true, true, false, false, false, false, false, false, false, false, false, false, false, false, false, false, false, false, false, false, false, false, false, false, false] rfl rfl (any_of HT_.out (by kernel_rfl)) (fun _ _ _ h => h) (Or.inr ⟨by rfl, rfl⟩) ?_ ?_
           rotate_left; ·simp only [Act.put, sA_, sZ_, sS_, i64_w, i32_w]; rfl
           refine pure_ (i := 10) (N := some 39) (v := undef) (a' := ?_) #[true, true, true, true, true, true, true, true, true, true, true, false, false, false, false, false, false, false, false, false, false, false, false, false, false, false, false, false, false, false, false, false, false] rfl rfl (any_of HT_.out (by kernel_rfl)) (fun _ _ _ h => h) (Or.inr ⟨by rfl, rfl⟩) ?_ ?_
           rotate_left; ·simp only [Act.put, sA_, sZ_, sS_, i64_w, i32_w]; rfl
           refine pure_ (i := 11) (N := some 40) (v := undef) (a' := ?_) #[true, true, true, true, true, true, true, true, true, true, true, true, false, false, false, false, false, false, false, false, false, false, false, false, false, false, false, false, false, false, false, false, false] rfl rfl (any_of HT_.out (by kernel_rfl)) (fun _ _ _ h => h) (Or.inr ⟨by rfl, rfl⟩) ?_ ?_
           rotate_left; ·simp only [Act.put, sA_, sZ_, sS_, i64_w, i32_w]; rfl
           refine pure_ (i := 12) (N := some 41) (v := undef) (a' := ?_) #[true, true, true, true, true, true, true, true, true, true, true, true, true, false, false, false, false, false, false, false, false, false, false, false, false, false, false, false, false, false, false, false, false] rfl rfl (any_of HT_.out (by kernel_rfl)) (fun _ _ _ h => h) (Or.inr ⟨by rfl, rfl⟩) ?_ ?_
           rotate_left; ·simp only [Act.put, sA_, sZ_, sS_, i64_w, i32_w]; rfl
           refine pure_ (i := 13) (N := some 42) (v := undef) (a' := ?_) #[true, true, true, true, true, true, true, true, true, true, true, true, true, true, false, false, false, false, false, false, false, false, false, false, false, false, false, false, false, false, false, false, false] rfl rfl (any_of HT_.out (by kernel_rfl)) (fun _ _ _ h => h) (Or.inr ⟨by rfl, rfl⟩) ?_ ?_
           rotate_left; ·simp only [Act.put, sA_, sZ_, sS_, i64_w, i32_w]; rfl
           refine pure_ (i := 14) (N := some 43) (v := undef) (a' := ?_) #[true, true, true, true, true, true, true, true, true, true, true, true, true, true, true, false, false, false, false, false, false, false, false, false, false, false, false, false, false, false, false, false, false] rfl rfl (any_of HT_.out (by kernel_rfl)) (fun _ _ _ h => h) (Or.inr ⟨by rfl, rfl⟩) ?_ ?_
           rotate_left; ·simp only [Act.put, sA_, sZ_, sS_, i64_w, i32_w]; rfl
           refine pure_ (i := 15) (N := some 44) (v := undef) (a' := ?_) #[true, true, true, true, true, true, true, true, true, true, true, true, true, true, true, true, false, false, false, false, false, false, false, false, false, false, false, false, false, false, false, false, false] rfl rfl (any_of HT_.out (by kernel_rfl)) (fun _ _ _ h => h) (Or.inr ⟨by rfl, rfl⟩) ?_ ?_
           rotate_left; ·simp only [Act.put, sA_, sZ_, sS_, i64_w, i32_w]; rfl
           refine pure_ (i := 16) (N := some 45) (v := undef) (a' := ?_) #[true, true, true, true, true, true, true, true, true, true, true, true, true, true, true, true, true, false, false, false, false, false, false, false, false, false, false, false, false, false, false, false, false] rfl rfl (any_of HT_.out (by kernel_rfl)) (fun _ _ _ h => h) (Or.inr ⟨by rfl, rfl⟩) ?_ ?_
           rotate_left; ·simp only [Act.put, sA_, sZ_, sS_, i64_w, i32_w]; rfl
           refine pure_ (i := 17) (N := some 46) (v := undef) (a' := ?_) #[true, true, true, true, true, true, true, true, true, true, true, true, true, true, true, true, true, true, false, false, false, false, false, false, false, false, false, false, false, false, false, false, false] rfl rfl (any_of HT_.out (by kernel_rfl)) (fun _ _ _ h => h) (Or.inr ⟨by rfl, rfl⟩) ?_ ?_
           rotate_left; ·simp only [Act.put, sA_, sZ_, sS_, i64_w, i32_w]; rfl
           refine pure_ (i := 18) (N := some 47) (v := undef) (a' := ?_) #[true, true, true, true, true, true, true, true, true, true, true, true, true, true, true, true, true, true, true, false, false, false, false, false, false, false, false, false, false, false, false, false, false] rfl rfl (any_of HT_.out (by kernel_rfl)) (fun _ _ _ h => h) (Or.inr ⟨by rfl, rfl⟩) ?_ ?_
           rotate_left; ·simp only [Act.put, sA_, sZ_, sS_, i64_w, i32_w]; rfl
           refine pure_ (i := 19) (N := some 48) (v := undef) (a' := ?_) #[true, true, true, true, true, true, true, true, true, true, true, true, true, true, true, true, true, true, true, true, false, false, false, false, false, false, false, false, false, false, false, false, false] rfl rfl (any_of HT_.out (by kernel_rfl)) (fun _ _ _ h => h) (Or.inr ⟨by rfl, rfl⟩) ?_ ?_
           rotate_left; ·simp only [Act.put, sA_, sZ_, sS_, i64_w, i32_w]; rfl
           refine pure_ (i := 20) (N := some 49) (v := undef) (a' := ?_) #[true, true, true, true, true, true, true, true, true, true, true, true, true, true, true, true, true, true, true, true, true, false, false, false, false, false, false, false, false, false, false, false, false] rfl rfl (any_of HT_.out (by kernel_rfl)) (fun _ _ _ h => h) (Or.inr ⟨by rfl, rfl⟩) ?_ ?_
           rotate_left; ·simp only [Act.put, sA_, sZ_, sS_, i64_w, i32_w]; rfl
           refine pure_ (i := 21) (N := some 50) (v := undef) (a' := ?_) #[true, true, true, true, true, true, true, true, true, true, true, true, true, true, true, true, true, true, true, true, true, true, false, false, false, false, false, false, false, false, false, false, false] rfl rfl (any_of HT_.out (by kernel_rfl)) (fun _ _ _ h => h) (Or.inr ⟨by rfl, rfl⟩) ?_ ?_
           rotate_left; ·simp only [Act.put, sA_, sZ_, sS_, i64_w, i32_w]; rfl
           refine pure_ (i := 22) (N := some 51) (v := undef) (a' := ?_) #[true, true, true, true, true, true, true, true, true, true, true, true, true, true, true, true, true, true, true, true, true, true, true, false, false, false, false, false, false, false, false, false, false] rfl rfl (any_of HT_.out (by kernel_rfl)) (fun _ _ _ h => h) (Or.inr ⟨by rfl, rfl⟩) ?_ ?_
           rotate_left; ·simp only [Act.put, sA_, sZ_, sS_, i64_w, i32_w]; rfl
           refine pure_ (i := 23) (N := some 52) (v := undef) (a' := ?_) #[true, true, true, true, true, true, true, true, true, true, true, true, true, true, true, true, true, true, true, true, true, true, true, true, false, false, false, false, false, false, false, false, false] rfl rfl (any_of HT_.out (by kernel_rfl)) (fun _ _ _ h => h) (Or.inr ⟨by rfl, rfl⟩) ?_ ?_
           rotate_left; ·simp only [Act.put, sA_, sZ_, sS_, i64_w, i32_w]; rfl
           refine pure_ (i := 24) (N := some 53) (v := undef) (a' := ?_) #[true, true, true, true, true, true, true, true, true, true, true, true, true, true, true, true, true, true, true, true, true, true, true, true, true, false, false, false, false, false, false, false, false] rfl rfl (any_of HT_.out (by kernel_rfl)) (fun _ _ _ h => h) (Or.inr ⟨by rfl, rfl⟩) ?_ ?_
           rotate_left; ·simp only [Act.put, sA_, sZ_, sS_, i64_w, i32_w]; rfl
           refine pure_ (i := 25) (N := some 54) (v := undef) (a' := ?_) #[true, true, true, true, true, true, true, true, true, true, true, true, true, true, true, true, true, true, true, true, true, true, true, true, true, true, false, false, false, false, false, false, false] rfl rfl (any_of HT_.out (by kernel_rfl)) (fun _ _ _ h => h) (Or.inr ⟨by rfl, rfl⟩) ?_ ?_
           rotate_left; ·simp only [Act.put, sA_, sZ_, sS_, i64_w, i32_w]; rfl
           refine pure_ (i := 26) (N := some 55) (v := undef) (a' := ?_) #[true, true, true, true, true, true, true, true, true, true, true, true, true, true, true, true, true, true, true, true, true, true, true, true, true, true, true, false, false, false, false, false, false] rfl rfl (any_of HT_.out (by kernel_rfl)) (fun _ _ _ h => h) (Or.inr ⟨by rfl, rfl⟩) ?_ ?_
           rotate_left; ·simp only [Act.put, sA_, sZ_, sS_, i64_w, i32_w]; rfl
           refine pure_ (i := 27) (N := some 56) (v := undef) (a' := ?_) #[true, true, true, true, true, true, true, true, true, true, true, true, true, true, true, true, true, true, true, true, true, true, true, true, true, true, true, true, false, false, false, false, false] rfl rfl (any_of HT_.out (by kernel_rfl)) (fun _ _ _ h => h) (Or.inr ⟨by rfl, rfl⟩) ?_ ?_
           rotate_left; ·simp only [Act.put, sA_, sZ_, sS_, i64_w, i32_w]; rfl
           refine pure_ (i := 28) (N := some 57) (v := undef) (a' := ?_) #[true, true, true, true, true, true, true, true, true, true, true, true, true, true, true, true, true, true, true, true, true, true, true, true, true, true, true, true, true, false, false, false, false] rfl rfl (any_of HT_.out (by kernel_rfl)) (fun _ _ _ h => h) (Or.inr ⟨by rfl, rfl⟩) ?_ ?_
           rotate_left; ·simp only [Act.put, sA_, sZ_, sS_, i64_w, i32_w]; rfl
           refine pure_ (i := 29) (N := some 58) (v := undef) (a' := ?_) #[true, true, true, true, true, true, true, true, true, true, true, true, true, true, true, true, true, true, true, true, true, true, true, true, true, true, true, true, true, true, false, false, false] rfl rfl (any_of HT_.out (by kernel_rfl)) (fun _ _ _ h => h) (Or.inr ⟨by rfl, rfl⟩) ?_ ?_
           rotate_left; ·simp only [Act.put, sA_, sZ_, sS_, i64_w, i32_w]; rfl
           refine pure_ (i := 30) (N := some 59) (v := undef) (a' := ?_) #[true, true, true, true, true, true, true, true, true, true, true, true, true, true, true, true, true, true, true, true, true, true, true, true, true, true, true, true, true, true, true, false, false] rfl rfl (any_of HT_.out (by kernel_rfl)) (fun _ _ _ h => h) (Or.inr ⟨by rfl, rfl⟩) ?_ ?_
           rotate_left; ·simp only [Act.put, sA_, sZ_, sS_, i64_w, i32_w]; rfl
           refine pure_ (i := 31) (N := some 60) (v := undef) (a' := ?_) #[true, true, true, true, true, true, true, true, true, true, true, true, true, true, true, true, true, true, true, true, true, true, true, true, true, true, true, true, true, true, true, true, false] rfl rfl (any_of HT_.out (by kernel_rfl)) (fun _ _ _ h => h) (Or.inr ⟨by rfl, rfl⟩) ?_ ?_
           rotate_left; ·simp only [Act.put, sA_, sZ_, sS_, i64_w, i32_w]; rfl
           refine pure_ (i := 32) (N := some 61) (v := ?_) (a' := ?_) #[true, true, true, true, true, true, true, true, true, true, true, true, true, true, true, true, true, true, true, true, true, true, true, true, true, true, true, true, true, true, true, true, true] rfl rfl (any_of HT_.out (by kernel_rfl)) (fun _ _ _ h => h) (Or.inl ⟨by rfl, ?_⟩) ?_ ?_
           rotate_left; ·intro w'; go_simp; with_reducible rfl
           rotate_left; ·simp only [Act.put, sA_, sZ_, sS_, i64_w, i32_w]; rfl
           refine done_ (done_of HT_.out (by kernel_rfl)) ?_
           try go_wp2
           go_roundg kj4
           case measure => have := HK1.out; have := HK2.out; have := HJ4.out; omega
           case rel => exact ⟨(x5_2), (wrap64 (x5_2 + 1)), (by first | rfl | (simp; done) | (simp [*]; done)), (by first | rfl | (simp; done) | (simp [*]; done)), H', ⟨by have := HK1.out; have := HK2.out; have := HJ4.out; omega⟩, ⟨by (with_reducible repeat (first | apply Kd.R_alloc | apply Kd.R_drewN | apply Kd.R_drew)); exact HO_3.out⟩, ⟨by repeat (first | (with_reducible first | exact HB.out | apply below_alloc | apply pw_below_drewN | apply below_drew1) | exact HB.out)⟩⟩
          ·rw [if_neg c10] at H
           have c10b0 : decide (x4_2 < 0) = false := decide_eq_false c10
           clear c10
           obtain ⟨ji12, hji12⟩ : ∃ j_ : Int, (wrap64 ((x3_1.length : Int) - 1)) = j_ := ⟨_, rfl⟩
           replace H : (if 0 ≤ (ji12) then (if (ji12) < (x3_1.length : Int) then (if 0 ≤ (rd x3_1 (ji12)) then (if (rd x3_1 (ji12)) < (l0.length : Int) then (if 0 ≤ x5_2 then (if x5_2 < (l0.length : Int) then ((swarfref38_Distance.f ((rd_T31 l0 (rd x3_1 (ji12))).f0) ((rd_T31 l0 (rd x3_1 (ji12))).f1) ((rd_T31 l0 x5_2).f0) ((rd_T31 l0 x5_2).f1)).bind fun t281 => (if 0 ≤ x4_2 then (if x4_2 < (l0.length : Int) then ((swarfref38_Distance.f ((rd_T31 l0 (rd x3_1 (ji12))).f0) ((rd_T31 l0 (rd x3_1 (ji12))).f1) ((rd_T31 l0 x4_2).f0) ((rd_T31 l0 x4_2).f1)).bind fun t285 => (if t281 < t285 then (swarfref38_Nearest.l1 kj4 l0 x3_1 x5_2 (wrap64 (x5_2 + 1))) else (swarfref38_Nearest.l1 kj4 l0 x3_1 x4_2 (wrap64 (x5_2 + 1))))) else (none)) else (none))) else (none)) else (none)) else (none)) else (none)) else (none)) else (none)) = some r := by first | (rw [hji12] at H; exact H) | (simp only [hji12] at H ⊢; exact H)
           have hji12w : (IntKind.i64.wrap ((x3_1.length : Int) - 1)) = ji12 := (i64_w _).trans hji12
           by_cases c13 : 0 ≤ (ji12)
           ·rw [if_pos c13] at H
            have c13b0 : decide (0 ≤ (ji12)) = true := decide_eq_true c13
            clear c13
            by_cases c14 : (ji12) < (x3_1.length : Int)
            ·rw [if_pos c14] at H
             have c14b0 : decide ((ji12) < (x3_1.length : Int)) = true := decide_eq_true c14
             clear c14
             by_cases c15 : 0 ≤ (rd x3_1 (ji12))
             ·rw [if_pos c15] at H
              have c15b0 : decide (0 ≤ (rd x3_1 (ji12))) = true := decide_eq_true c15
              clear c15
              by_cases c16 : (rd x3_1 (ji12)) < (l0.length : Int)
              ·rw [if_pos c16] at H
               have c16b0 : decide ((rd x3_1 (ji12)) < (l0.length : Int)) = true := decide_eq_true c16
               clear c16
               by_cases c17 : 0 ≤ x5_2
               ·rw [if_pos c17] at H
                have c17b0 : decide (0 ≤ x5_2) = true := decide_eq_true c17
                clear c17
                by_cases c18 : x5_2 < (l0.length : Int)
                ·rw [if_pos c18] at H
                 have c18b0 : decide (x5_2 < (l0.length : Int)) = true := decide_eq_true c18
                 clear c18; replace H := Option.bind_eq_some_iff.mp H
                 obtain ⟨t281, A190, H⟩ := H
                 replace H : (if 0 ≤ x4_2 then (if x4_2 < (l0.length : Int) then ((swarfref38_Distance.f ((rd_T31 l0 (rd x3_1 (ji12))).f0) ((rd_T31 l0 (rd x3_1 (ji12))).f1) ((rd_T31 l0 x4_2).f0) ((rd_T31 l0 x4_2).f1)).bind fun t285 => (if t281 < t285 then (swarfref38_Nearest.l1 kj4 l0 x3_1 x5_2 (wrap64 (x5_2 + 1))) else (swarfref38_Nearest.l1 kj4 l0 x3_1 x4_2 (wrap64 (x5_2 + 1))))) else (none)) else (none)) = some r := H
                 have A19 := Aside0.mk A190; clear A190
                 by_cases c20 : 0 ≤ x4_2
                 ·rw [if_pos c20] at H
                  have c20b0 : decide (0 ≤ x4_2) = true := decide_eq_true c20
                  clear c20
                  by_cases c21 : x4_2 < (l0.length : Int)
                  ·rw [if_pos c21] at H
                   have c21b0 : decide (x4_2 < (l0.length : Int)) = true := decide_eq_true c21
                   clear c21; replace H := Option.bind_eq_some_iff.mp H
                   obtain ⟨t285, A220, H⟩ := H
                   replace H : (if t281 < t285 then (swarfref38_Nearest.l1 kj4 l0 x3_1 x5_2 (wrap64 (x5_2 + 1))) else (swarfref38_Nearest.l1 kj4 l0 x3_1 x4_2 (wrap64 (x5_2 + 1)))) = some r := H
                   have A22 := Aside0.mk A220; clear A220
                   by_cases c23 : t281 < t285
                   ·rw [if_pos c23] at H
                    have c23b0 : decide (t281 < t285) = true := decide_eq_true c23
                    clear c23; have H' := Aside0.mk H; clear H
                    try go_wp2
                    have n0_ := Aside0.mk (Kd.R_drew HO_3.out)
                    have n1_ := Aside0.mk (below_drew1 HB.out)
                    clear HO_3; clear HB; have HO_3 := n0_; have HB := n1_; clear n0_ n1_
                    have p278 : 0 ≤ ((ji12) : Int) := of_decide_eq_true (by first | (with_reducible assumption) | assumption)
                    have q278 : (ji12) < (x3_1.length : Int) := of_decide_eq_true (by first | (with_reducible assumption) | assumption)
                    obtain ⟨ad278, e278, hx278_0⟩ := Kd.at_int (Kd.R_reads' HO_3.out).2.2 (ji12) p278 q278
                    cases e278; replace p278 := eq_true p278; replace q278 := eq_true q278
                    have p279 : 0 ≤ ((rd x3_1 (ji12)) : Int) := of_decide_eq_true (by first | (with_reducible assumption) | assumption)
                    have q279 : (rd x3_1 (ji12)) < (l0.length : Int) := of_decide_eq_true (by first | (with_reducible assumption) | assumption)
                    obtain ⟨ad279, e279, hx279_0, hx279_1⟩ := at_T31 HR0.out (rd x3_1 (ji12)) p279 q279
                    have hw279_1 := hx279_1; have hw279_0 := hx279_0; cases e279
                    replace hx279_0 := (HB.out.cell (World.block_lt_of_cell? w _ hx279_0)).trans hx279_0
                    replace hx279_1 := (HB.out.cell (World.block_lt_of_cell? w _ hx279_1)).trans hx279_1
                    replace p279 := eq_true p279; replace q279 := eq_true q279
                    have p280 : 0 ≤ (x5_2 : Int) := of_decide_eq_true (by first | (with_reducible assumption) | assumption)
                    have q280 : x5_2 < (l0.length : Int) := of_decide_eq_true (by first | (with_reducible assumption) | assumption)
                    obtain ⟨ad280, e280, hx280_0, hx280_1⟩ := at_T31 HR0.out x5_2 p280 q280
                    have hw280_1 := hx280_1; have hw280_0 := hx280_0
                    obtain rfl : ad279 = ad280 := (by injection e280)
                    replace hx280_0 := (HB.out.cell (World.block_lt_of_cell? w _ hx280_0)).trans hx280_0
                    replace hx280_1 := (HB.out.cell (World.block_lt_of_cell? w _ hx280_1)).trans hx280_1
                    replace p280 := eq_true p280; replace q280 := eq_true q280
                    have p282 : 0 ≤ ((ji12) : Int) := of_decide_eq_true (by first | (with_reducible assumption) | assumption)
                    have q282 : (ji12) < (x3_1.length : Int) := of_decide_eq_true (by first | (with_reducible assumption) | assumption)
                    obtain ⟨ad282, e282, hx282_0⟩ := Kd.at_int (Kd.R_reads' HO_3.out).2.2 (ji12) p282 q282
                    obtain rfl : ad278 = ad282 := (by injection e282)
                    replace p282 := eq_true p282; replace q282 := eq_true q282
                    have p283 : 0 ≤ ((rd x3_1 (ji12)) : Int) := of_decide_eq_true (by first | (with_reducible assumption) | assumption)
                    have q283 : (rd x3_1 (ji12)) < (l0.length : Int) := of_decide_eq_true (by first | (with_reducible assumption) | assumption)
                    obtain ⟨ad283, e283, hx283_0, hx283_1⟩ := at_T31 HR0.out (rd x3_1 (ji12)) p283 q283
                    have hw283_1 := hx283_1; have hw283_0 := hx283_0
                    obtain rfl : ad279 = ad283 := (by injection e283)
                    replace hx283_0 := (HB.out.cell (World.block_lt_of_cell? w _ hx283_0)).trans hx283_0
                    replace hx283_1 := (HB.out.cell (World.block_lt_of_cell? w _ hx283_1)).trans hx283_1
                    replace p283 := eq_true p283; replace q283 := eq_true q283
                    have p284 : 0 ≤ (x4_2 : Int) := of_decide_eq_true (by first | (with_reducible assumption) | assumption)
                    have q284 : x4_2 < (l0.length : Int) := of_decide_eq_true (by first | (with_reducible assumption) | assumption)
                    obtain ⟨ad284, e284, hx284_0, hx284_1⟩ := at_T31 HR0.out x4_2 p284 q284
                    have hw284_1 := hx284_1; have hw284_0 := hx284_0
                    obtain rfl : ad279 = ad284 := (by injection e284)
                    replace hx284_0 := (HB.out.cell (World.block_lt_of_cell? w _ hx284_0)).trans hx284_0
                    replace hx284_1 := (HB.out.cell (World.block_lt_of_cell? w _ hx284_1)).trans hx284_1
                    replace p284 := eq_true p284; replace q284 := eq_true q284
                    refine start_ (n := 33) (S := fun w' => w'.cell? (ad278.add ((ji12)).toNat) = some (.int .i64 (rd x3_1 (ji12))) ∧ w'.cell? (ad279.add (((rd x3_1 (ji12))).toNat * 2)) = some (.int .i64 ((rd_T31 l0 (rd x3_1 (ji12))).f0)) ∧ w'.cell? ⟨(ad279.add (((rd x3_1 (ji12))).toNat * 2)).block, (ad279.add (((rd x3_1 (ji12))).toNat * 2)).off + 1, none⟩ = some (.int .i64 ((rd_T31 l0 (rd x3_1 (ji12))).f1)) ∧ w'.cell? (ad279.add ((x5_2).toNat * 2)) = some (.int .i64 ((rd_T31 l0 x5_2).f0)) ∧ w'.cell? ⟨(ad279.add ((x5_2).toNat * 2)).block, (ad279.add ((x5_2).toNat * 2)).off + 1, none⟩ = some (.int .i64 ((rd_T31 l0 x5_2).f1)) ∧ w'.cell? (ad278.add ((ji12)).toNat) = some (.int .i64 (rd x3_1 (ji12))) ∧ w'.cell? (ad279.add (((rd x3_1 (ji12))).toNat * 2)) = some (.int .i64 ((rd_T31 l0 (rd x3_1 (ji12))).f0)) ∧ w'.cell? ⟨(ad279.add (((rd x3_1 (ji12))).toNat * 2)).block, (ad279.add (((rd x3_1 (ji12))).toNat * 2)).off + 1, none⟩ = some (.int .i64 ((rd_T31 l0 (rd x3_1 (ji12))).f1)) ∧ w'.cell? (ad279.add ((x4_2).toNat * 2)) = some (.int .i64 ((rd_T31 l0 x4_2).f0)) ∧ w'.cell? ⟨(ad279.add ((x4_2).toNat * 2)).block, (ad279.add ((x4_2).toNat * 2)).off + 1, none⟩ = some (.int .i64 ((rd_T31 l0 x4_2).f1))) (ds := []) #[false, false, false, false, false, false, false, false, false, false, false, false, false, false, false, false, false, false, false, false, false, false, false, false, false, false, false, false, false, false, false, false, false] (by kernel_rfl) rfl rfl ⟨hx278_0, ((HB.out.cell (World.block_lt_of_cell? w _ hw279_0)).trans hw279_0), ((HB.out.cell (World.block_lt_of_cell? w _ hw279_1)).trans hw279_1), ((HB.out.cell (World.block_lt_of_cell? w _ hw280_0)).trans hw280_0), ((HB.out.cell (World.block_lt_of_cell? w _ hw280_1)).trans hw280_1), hx282_0, ((HB.out.cell (World.block_lt_of_cell? w _ hw283_0)).trans hw283_0), ((HB.out.cell (World.block_lt_of_cell? w _ hw283_1)).trans hw283_1), ((HB.out.cell (World.block_lt_of_cell? w _ hw284_0)).trans hw284_0), ((HB.out.cell (World.block_lt_of_cell? w _ hw284_1)).trans hw284_1)⟩ (fun hHeld => ?_); refine with_tabW swarfref38_Nearest.tab8 swarfref38_Nearest.bits8 (fun HT_ HW_ => ?_)
                    generalize wc.drew = w24 at HO_3 HB hx278_0 hx279_0 hx279_1 hx280_0 hx280_1 hx282_0 hx283_0 hx283_1 hx284_0 hx284_1 hHeld ⊢
                    refine pure_ (i := 0) (N := some 29) (v := ?_) (a' := ?_) #[true, false, false, false, false, false, false, false, false, false, false, false, false, false, false, false, false, false, false, false, false, false, false, false, false, false, false, false, false, false, false, false, false] rfl rfl (any_of HT_.out (by kernel_rfl)) (fun _ _ _ h => h) (Or.inl ⟨by rfl, ?_⟩) ?_ ?_
                    rotate_left; ·intro w'; go_simp; with_reducible rfl
                    rotate_left; ·simp only [Act.put, sA_, sZ_, sS_, i64_w, i32_w]; rfl
                    refine pure_ (i := 1) (N := some 30) (v := ?_) (a' := ?_) #[true, true, false, false, false, false, false, false, false, false, false, false, false, false, false, false, false, false, false, false, false, false, false, false, false, false, false, false, false, false, false, false, false] rfl rfl (any_of HT_.out (by kernel_rfl)) (fun _ _ _ h => h) (Or.inl ⟨by rfl, ?_⟩) ?_ ?_
                    rotate_left; ·intro w'; go_simp; with_reducible rfl
                    rotate_left; ·simp only [Act.put, sA_, sZ_, sS_, i64_w, i32_w]; rfl
                    refine pure_ (i := 2) (N := some 31) (v := ?_) (a' := ?_) #[true, true, true, false, false, false, false, false, false, false, false, false, false, false, false, false, false, false, false, false, false, false, false, false, false, false, false, false, false, false, false, false, false] rfl rfl (any_of HT_.out (by kernel_rfl)) (fun _ _ _ h => h) (Or.inl ⟨by rfl, ?_⟩) ?_ ?_
                    rotate_left; ·intro w'; go_simp; with_reducible rfl
                    rotate_left; ·simp only [Act.put, sA_, sZ_, sS_, i64_w, i32_w]; rfl
                    refine pure_ (i := 3) (N := some 32) (v := ?_) (a' := ?_) #[true, true, true, true, false, false, false, false, false, false, false, false, false, false, false, false, false, false, false, false, false, false, false, false, false, false, false, false, false, false, false, false, false] rfl rfl (any_of HT_.out (by kernel_rfl)) (fun _ _ _ h => h) (Or.inl ⟨by rfl, ?_⟩) ?_ ?_
                    rotate_left; ·intro w'; go_simp; with_reducible rfl
                    rotate_left; ·simp only [Act.put, sA_, sZ_, sS_, i64_w, i32_w]; rfl
                    refine pure_ (i := 4) (N := some 33) (v := ?_) (a' := ?_) #[true, true, true, true, true, false, false, false, false, false, false, false, false, false, false, false, false, false, false, false, false, false, false, false, false, false, false, false, false, false, false, false, false] rfl rfl (any_of HT_.out (by kernel_rfl)) (fun _ _ _ h => h) (Or.inl ⟨by rfl, ?_⟩) ?_ ?_
                    rotate_left; ·intro w'; go_simp; with_reducible rfl
                    rotate_left; ·simp only [Act.put, sA_, sZ_, sS_, i64_w, i32_w]; rfl
                    refine pure_ (i := 5) (N := some 34) (v := ?_) (a' := ?_) #[true, true, true, true, true, true, false, false, false, false, false, false, false, false, false, false, false, false, false, false, false, false, false, false, false, false, false, false, false, false, false, false, false] rfl rfl (any_of HT_.out (by kernel_rfl)) (fun _ _ _ h => h) (Or.inl ⟨by rfl, ?_⟩) ?_ ?_
                    rotate_left; ·intro w'; go_simp; with_reducible rfl
                    rotate_left; ·simp only [Act.put, sA_, sZ_, sS_, i64_w, i32_w]; rfl
                    refine pure_ (i := 6) (N := some 35) (v := ?_) (a' := ?_) #[true, true, true, true, true, true, true, false, false, false, false, false, false, false, false, false, false, false, false, false, false, false, false, false, false, false, false, false, false, false, false, false, false] rfl rfl (any_of HT_.out (by kernel_rfl)) (fun _ _ _ h => h) (Or.inl ⟨by rfl, ?_⟩) ?_ ?_
                    rotate_left; ·intro w'; go_simp; with_reducible rfl
                    rotate_left; ·simp only [Act.put, sA_, sZ_, sS_, i64_w, i32_w]; rfl
                    refine pure_ (i := 7) (N := some 36) (v := ?_) (a' := ?_) #[true, true, true, true, true, true, true, true, false, false, false, false, false, false, false, false, false, false, false, false, false, false, false, false, false, false, false, false, false, false, false, false, false] rfl rfl (any_of HT_.out (by kernel_rfl)) (fun _ _ _ h => h) (Or.inl ⟨by rfl, ?_⟩) ?_ ?_
                    rotate_left; ·intro w'; go_simp; with_reducible rfl
                    rotate_left; ·simp only [Act.put, sA_, sZ_, sS_, i64_w, i32_w]; rfl
                    refine pure_ (i := 8) (N := some 37) (v := ?_) (a' := ?_) #[true, true, true, true, true, true, true, true, true, false, false, false, false, false, false, false, false, false, false, false, false, false, false, false, false, false, false, false, false, false, false, false, false] rfl rfl (any_of HT_.out (by kernel_rfl)) (fun _ _ _ h => h) (Or.inl ⟨by rfl, ?_⟩) ?_ ?_
                    rotate_left; ·intro w'; go_simp; with_reducible rfl
                    rotate_left; ·simp only [Act.put, sA_, sZ_, sS_, i64_w, i32_w]; rfl
                    refine pure_ (i := 12) (N := some 41) (v := ?_) (a' := ?_) #[true, true, true, true, true, true, true, true, true, false, false, false, true, false, false, false, false, false, false, false, false, false, false, false, false, false, false, false, false, false, false, false, false] rfl rfl (any_of HT_.out (by kernel_rfl)) (fun _ _ _ h => h) (Or.inl ⟨by rfl, ?_⟩) ?_ ?_
                    rotate_left; ·intro w'; go_simp; with_reducible rfl
                    rotate_left; ·simp only [Act.put, sA_, sZ_, sS_, i64_w, i32_w]; rfl
                    refine pure_ (i := 13) (N := some 42) (v := ?_) (a' := ?_) #[true, true, true, true, true, true, true, true, true, false, false, false, true, true, false, false, false, false, false, false, false, false, false, false, false, false, false, false, false, false, false, false, false] rfl rfl (any_of HT_.out (by kernel_rfl)) (fun _ _ _ h => h) (Or.inl ⟨by rfl, ?_⟩) ?_ ?_
                    rotate_left; ·intro w'; go_simp; with_reducible rfl
                    rotate_left; ·simp only [Act.put, sA_, sZ_, sS_, i64_w, i32_w]; rfl
                    refine pure_ (i := 14) (N := some 43) (v := ?_) (a' := ?_) #[true, true, true, true, true, true, true, true, true, false, false, false, true, true, true, false, false, false, false, false, false, false, false, false, false, false, false, false, false, false, false, false, false] rfl rfl (any_of HT_.out (by kernel_rfl)) (fun _ _ _ h => h) (Or.inl ⟨by rfl, ?_⟩) ?_ ?_
                    rotate_left; ·intro w'; go_simp; with_reducible rfl
                    rotate_left; ·simp only [Act.put, sA_, sZ_, sS_, i64_w, i32_w]; rfl
                    refine pure_ (i := 17) (N := some 46) (v := ?_) (a' := ?_) #[true, true, true, true, true, true, true, true, true, false, false, false, true, true, true, false, false, true, false, false, false, false, false, false, false, false, false, false, false, false, false, false, false] rfl rfl (any_of HT_.out (by kernel_rfl)) (fun _ _ _ h => h) (Or.inl ⟨by rfl, ?_⟩) ?_ ?_
                    rotate_left; ·intro w'; go_simp; with_reducible rfl
                    rotate_left; ·simp only [Act.put, sA_, sZ_, sS_, i64_w, i32_w]; rfl
                    refine pure_ (i := 18) (N := some 47) (v := ?_) (a' := ?_) #[true, true, true, true, true, true, true, true, true, false, false, false, true, true, true, false, false, true, true, false, false, false, false, false, false, false, false, false, false, false, false, false, false] rfl rfl (any_of HT_.out (by kernel_rfl)) (fun _ _ _ h => h) (Or.inl ⟨by rfl, ?_⟩) ?_ ?_
                    rotate_left; ·intro w'; go_simp; with_reducible rfl
                    rotate_left; ·simp only [Act.put, sA_, sZ_, sS_, i64_w, i32_w]; rfl
                    refine pure_ (i := 19) (N := some 48) (v := ?_) (a' := ?_) #[true, true, true, true, true, true, true, true, true, false, false, false, true, true, true, false, false, true, true, true, false, false, false, false, false, false, false, false, false, false, false, false, false] rfl rfl (any_of HT_.out (by kernel_rfl)) (fun _ _ _ h => h) (Or.inl ⟨by rfl, ?_⟩) ?_ ?_
                    rotate_left; ·intro w'; go_simp; with_reducible rfl
                    rotate_left; ·simp only [Act.put, sA_, sZ_, sS_, i64_w, i32_w]; rfl
                    refine pure_ (i := 20) (N := some 49) (v := ?_) (a' := ?_) #[true, true, true, true, true, true, true, true, true, false, false, false, true, true, true, false, false, true, true, true, true, false, false, false, false, false, false, false, false, false, false, false, false] rfl rfl (any_of HT_.out (by kernel_rfl)) (fun _ _ _ h => h) (Or.inl ⟨by rfl, ?_⟩) ?_ ?_
                    rotate_left; ·intro w'; go_simp; with_reducible rfl
                    rotate_left; ·simp only [Act.put, sA_, sZ_, sS_, i64_w, i32_w]; rfl
                    refine pure_ (i := 21) (N := some 50) (v := ?_) (a' := ?_) #[true, true, true, true, true, true, true, true, true, false, false, false, true, true, true, false, false, true, true, true, true, true, false, false, false, false, false, false, false, false, false, false, false] rfl rfl (any_of HT_.out (by kernel_rfl)) (fun _ _ _ h => h) (Or.inl ⟨by rfl, ?_⟩) ?_ ?_
                    rotate_left; ·intro w'; go_simp; with_reducible rfl
                    rotate_left; ·simp only [Act.put, sA_, sZ_, sS_, i64_w, i32_w]; rfl
                    refine pure_ (i := 22) (N := some 51) (v := ?_) (a' := ?_) #[true, true, true, true, true, true, true, true, true, false, false, false, true, true, true, false, false, true, true, true, true, true, true, false, false, false, false, false, false, false, false, false, false] rfl rfl (any_of HT_.out (by kernel_rfl)) (fun _ _ _ h => h) (Or.inl ⟨by rfl, ?_⟩) ?_ ?_
                    rotate_left; ·intro w'; go_simp; with_reducible rfl
                    rotate_left; ·simp only [Act.put, sA_, sZ_, sS_, i64_w, i32_w]; rfl
                    refine pure_ (i := 26) (N := some 55) (v := ?_) (a' := ?_) #[true, true, true, true, true, true, true, true, true, false, false, false, true, true, true, false, false, true, true, true, true, true, true, false, false, false, true, false, false, false, false, false, false] rfl rfl (any_of HT_.out (by kernel_rfl)) (fun _ _ _ h => h) (Or.inl ⟨by rfl, ?_⟩) ?_ ?_
                    rotate_left; ·intro w'; go_simp; with_reducible rfl
                    rotate_left; ·simp only [Act.put, sA_, sZ_, sS_, i64_w, i32_w]; rfl
                    refine pure_ (i := 27) (N := some 56) (v := ?_) (a' := ?_) #[true, true, true, true, true, true, true, true, true, false, false, false, true, true, true, false, false, true, true, true, true, true, true, false, false, false, true, true, false, false, false, false, false] rfl rfl (any_of HT_.out (by kernel_rfl)) (fun _ _ _ h => h) (Or.inl ⟨by rfl, ?_⟩) ?_ ?_
                    rotate_left; ·intro w'; go_simp; with_reducible rfl
                    rotate_left; ·simp only [Act.put, sA_, sZ_, sS_, i64_w, i32_w]; rfl
                    refine pure_ (i := 28) (N := some 57) (v := ?_) (a' := ?_) #[true, true, true, true, true, true, true, true, true, false, false, false, true, true, true, false, false, true, true, true, true, true, true, false, false, false, true, true, true, false, false, false, false] rfl rfl (any_of HT_.out (by kernel_rfl)) (fun _ _ _ h => h) (Or.inl ⟨by rfl, ?_⟩) ?_ ?_
                    rotate_left; ·intro w'; go_simp; with_reducible rfl
                    rotate_left; ·simp only [Act.put, sA_, sZ_, sS_, i64_w, i32_w]; rfl
                    refine take_ (i := 9) (N := some 38) (v := ?_) (a' := ?_) #[true, true, true, true, true, true, true, true, true, true, false, false, true, true, true, false, false, true, true, true, true, true, true, false, false, false, true, true, true, false, false, false, false] rfl rfl (take_ofW HT_.out HW_.out (by kernel_rfl)) (fun _ _ _ h => h) (Or.inl ⟨by rfl, ?_⟩) hHeld ?_ ?_
                    rotate_left
                    ·rintro w' ⟨s0, s1, s2, s3, s4, s5, s6, s7, s8, s9⟩; go_simp; with_reducible rfl
                    rotate_left; ·simp only [Act.put, sA_, sZ_, sS_, i64_w, i32_w]; rfl
                    refine pure_ (i := 10) (N := some 39) (v := ?_) (a' := ?_) #[true, true, true, true, true, true, true, true, true, true, true, false, true, true, true, false, false, true, true, true, true, true, true, false, false, false, true, true, true, false, false, false, false] rfl rfl (any_of HT_.out (by kernel_rfl)) (fun _ _ _ h => h) (Or.inl ⟨by rfl, ?_⟩) ?_ ?_
                    rotate_left; ·intro w'; go_simp; with_reducible rfl
                    rotate_left; ·simp only [Act.put, sA_, sZ_, sS_, i64_w, i32_w]; rfl
                    refine take_ (i := 11) (N := some 40) (v := ?_) (a' := ?_) #[true, true, true, true, true, true, true, true, true, true, true, true, true, true, true, false, false, true, true, true, true, true, true, false, false, false, true, true, true, false, false, false, false] rfl rfl (take_ofW HT_.out HW_.out (by kernel_rfl)) (fun _ _ _ h => h) (Or.inl ⟨by rfl, ?_⟩) hHeld ?_ ?_
                    rotate_left
                    ·rintro w' ⟨s0, s1, s2, s3, s4, s5, s6, s7, s8, s9⟩; go_simp; with_reducible rfl
                    rotate_left; ·simp only [Act.put, sA_, sZ_, sS_, i64_w, i32_w]; rfl
                    refine take_ (i := 15) (N := some 44) (v := ?_) (a' := ?_) #[true, true, true, true, true, true, true, true, true, true, true, true, true, true, true, true, false, true, true, true, true, true, true, false, false, false, true, true, true, false, false, false, false] rfl rfl (take_ofW HT_.out HW_.out (by kernel_rfl)) (fun _ _ _ h => h) (Or.inl ⟨by rfl, ?_⟩) hHeld ?_ ?_
                    rotate_left
                    ·rintro w' ⟨s0, s1, s2, s3, s4, s5, s6, s7, s8, s9⟩; go_simp; with_reducible rfl
                    rotate_left; ·simp only [Act.put, sA_, sZ_, sS_, i64_w, i32_w]; rfl
                    refine take_ (i := 23) (N := some 52) (v := ?_) (a' := ?_) #[true, true, true, true, true, true, true, true, true, true, true, true, true, true, true, true, false, true, true, true, true, true, true, true, false, false, true, true, true, false, false, false, false] rfl rfl (take_ofW HT_.out HW_.out (by kernel_rfl)) (fun _ _ _ h => h) (Or.inl ⟨by rfl, ?_⟩) hHeld ?_ ?_
                    rotate_left
                    ·rintro w' ⟨s0, s1, s2, s3, s4, s5, s6, s7, s8, s9⟩; go_simp; with_reducible rfl
                    rotate_left; ·simp only [Act.put, sA_, sZ_, sS_, i64_w, i32_w]; rfl
                    refine pure_ (i := 24) (N := some 53) (v := ?_) (a' := ?_) #[true, true, true, true, true, true, true, true, true, true, true, true, true, true, true, true, false, true, true, true, true, true, true, true, true, false, true, true, true, false, false, false, false] rfl rfl (any_of HT_.out (by kernel_rfl)) (fun _ _ _ h => h) (Or.inl ⟨by rfl, ?_⟩) ?_ ?_
                    rotate_left; ·intro w'; go_simp; with_reducible rfl
                    rotate_left; ·simp only [Act.put, sA_, sZ_, sS_, i64_w, i32_w]; rfl
                    refine take_ (i := 25) (N := some 54) (v := ?_) (a' := ?_) #[true, true, true, true, true, true, true, true, true, true, true, true, true, true, true, true, false, true, true, true, true, true, true, true, true, true, true, true, true, false, false, false, false] rfl rfl (take_ofW HT_.out HW_.out (by kernel_rfl)) (fun _ _ _ h => h) (Or.inl ⟨by rfl, ?_⟩) hHeld ?_ ?_
                    rotate_left
                    ·rintro w' ⟨s0, s1, s2, s3, s4, s5, s6, s7, s8, s9⟩; go_simp; with_reducible rfl
                    rotate_left; ·simp only [Act.put, sA_, sZ_, sS_, i64_w, i32_w]; rfl
                    refine take_ (i := 29) (N := some 58) (v := ?_) (a' := ?_) #[true, true, true, true, true, true, true, true, true, true, true, true, true, true, true, true, false, true, true, true, true, true, true, true, true, true, true, true, true, true, false, false, false] rfl rfl (take_ofW HT_.out HW_.out (by kernel_rfl)) (fun _ _ _ h => h) (Or.inl ⟨by rfl, ?_⟩) hHeld ?_ ?_
                    rotate_left
                    ·rintro w' ⟨s0, s1, s2, s3, s4, s5, s6, s7, s8, s9⟩; go_simp; with_reducible rfl
                    rotate_left; ·simp only [Act.put, sA_, sZ_, sS_, i64_w, i32_w]; rfl
                    refine one_ (i := 16) (N := some 45) #[true, true, true, true, true, true, true, true, true, true, true, true, true, true, true, true, true, true, true, true, true, true, true, true, true, true, true, true, true, true, false, false, false] rfl rfl (one_of HT_.out (by kernel_rfl)) (by decide) (fun K hK => ?_)
                    refine goes_ Try.func16 (by kernel_rfl) rfl #[.agg #[.int .i64 ((rd_T31 l0 (rd x3_1 (ji12))).f0), .int .i64 ((rd_T31 l0 (rd x3_1 (ji12))).f1)], .agg #[.int .i64 ((rd_T31 l0 x5_2).f0), .int .i64 ((rd_T31 l0 x5_2).f1)]] (by rfl) rfl rfl (by (try simp only [List.map_toArray, List.map_cons, List.map_nil]); first | done | (simp only [hji12]; rfl) | rfl | (simp only [List.length_drop, List.length_take]; rfl)) ?_
                    with_reducible refine (swarfref38_Distance.calls ((rd_T31 l0 (rd x3_1 (ji12))).f0) ((rd_T31 l0 (rd x3_1 (ji12))).f1) ((rd_T31 l0 x5_2).f0) ((rd_T31 l0 x5_2).f1) t281 _ A19.out).mono ?_
                    rintro e w25 ⟨rfl, hb⟩
                    have HS0_ := (hb.cell (World.block_lt_of_cell? _ _ (hHeld.1))).trans (hHeld.1)
                    have HS5_ := (hb.cell (World.block_lt_of_cell? _ _ (hHeld.2.2.2.2.2.1))).trans (hHeld.2.2.2.2.2.1)
                    refine ⟨_, rfl, ?_⟩
                    have n0_ := Aside0.mk (Kd.R_below (by (with_reducible repeat (first | apply Kd.R_alloc | apply Kd.R_drewN | apply Kd.R_drew)); exact HO_3.out) hb)
                    have n1_ := Aside0.mk (below_step (by repeat (first | (with_reducible first | exact HB.out | apply below_alloc | apply pw_below_drewN | apply below_drew1) | exact HB.out)) hb)
                    clear HO_3; clear HB; have HO_3 := n0_; have HB := n1_; clear n0_ n1_; (try clear hb); (try clear hb2); (try clear hk); (try clear hi)
                    refine hK.out _ _ ⟨HS0_, ((HB.out.cell (World.block_lt_of_cell? w _ hw279_0)).trans hw279_0), ((HB.out.cell (World.block_lt_of_cell? w _ hw279_1)).trans hw279_1), ((HB.out.cell (World.block_lt_of_cell? w _ hw280_0)).trans hw280_0), ((HB.out.cell (World.block_lt_of_cell? w _ hw280_1)).trans hw280_1), HS5_, ((HB.out.cell (World.block_lt_of_cell? w _ hw283_0)).trans hw283_0), ((HB.out.cell (World.block_lt_of_cell? w _ hw283_1)).trans hw283_1), ((HB.out.cell (World.block_lt_of_cell? w _ hw284_0)).trans hw284_0), ((HB.out.cell (World.block_lt_of_cell? w _ hw284_1)).trans hw284_1)⟩ (fun hHeld => ?_)
                    clear hK K
                    refine norm_ (a' := ?_) ?_ ?_
                    rotate_left
                    ·show Act.put _ (some 45) _ = _
                     simp only [Act.put, sA_, sZ_, sS_, i64_w, i32_w]; rfl
                    refine one_ (i := 30) (N := some 59) #[true, true, true, true, true, true, true, true, true, true, true, true, true, true, true, true, true, true, true, true, true, true, true, true, true, true, true, true, true, true, true, false, false] rfl rfl (one_of HT_.out (by kernel_rfl)) (by decide) (fun K hK => ?_)
                    refine goes_ Try.func16 (by kernel_rfl) rfl #[.agg #[.int .i64 ((rd_T31 l0 (rd x3_1 (ji12))).f0), .int .i64 ((rd_T31 l0 (rd x3_1 (ji12))).f1)], .agg #[.int .i64 ((rd_T31 l0 x4_2).f0), .int .i64 ((rd_T31 l0 x4_2).f1)]] (by rfl) rfl rfl (by (try simp only [List.map_toArray, List.map_cons, List.map_nil]); first | done | (simp only [hji12]; rfl) | rfl | (simp only [List.length_drop, List.length_take]; rfl)) ?_
                    with_reducible refine (swarfref38_Distance.calls ((rd_T31 l0 (rd x3_1 (ji12))).f0) ((rd_T31 l0 (rd x3_1 (ji12))).f1) ((rd_T31 l0 x4_2).f0) ((rd_T31 l0 x4_2).f1) t285 _ A22.out).mono ?_
                    rintro e w26 ⟨rfl, hb⟩
                    have HS0_ := (hb.cell (World.block_lt_of_cell? _ _ (hHeld.1))).trans (hHeld.1)
                    have HS5_ := (hb.cell (World.block_lt_of_cell? _ _ (hHeld.2.2.2.2.2.1))).trans (hHeld.2.2.2.2.2.1)
                    refine ⟨_, rfl, ?_⟩
                    have n0_ := Aside0.mk (Kd.R_below (by (with_reducible repeat (first | apply Kd.R_alloc | apply Kd.R_drewN | apply Kd.R_drew)); exact HO_3.out) hb)
                    have n1_ := Aside0.mk (below_step (by repeat (first | (with_reducible first | exact HB.out | apply below_alloc | apply pw_below_drewN | apply below_drew1) | exact HB.out)) hb)
                    clear HO_3; clear HB; have HO_3 := n0_; have HB := n1_; clear n0_ n1_; (try clear hb); (try clear hb2); (try clear hk); (try clear hi)
                    refine hK.out _ _ ⟨HS0_, ((HB.out.cell (World.block_lt_of_cell? w _ hw279_0)).trans hw279_0), ((HB.out.cell (World.block_lt_of_cell? w _ hw279_1)).trans hw279_1), ((HB.out.cell (World.block_lt_of_cell? w _ hw280_0)).trans hw280_0), ((HB.out.cell (World.block_lt_of_cell? w _ hw280_1)).trans hw280_1), HS5_, ((HB.out.cell (World.block_lt_of_cell? w _ hw283_0)).trans hw283_0), ((HB.out.cell (World.block_lt_of_cell? w _ hw283_1)).trans hw283_1), ((HB.out.cell (World.block_lt_of_cell? w _ hw284_0)).trans hw284_0), ((HB.out.cell (World.block_lt_of_cell? w _ hw284_1)).trans hw284_1)⟩ (fun hHeld => ?_)
                    clear hK K
                    refine norm_ (a' := ?_) ?_ ?_
                    rotate_left
                    ·show Act.put _ (some 59) _ = _
                     simp only [Act.put, sA_, sZ_, sS_, i64_w, i32_w]; rfl
                    refine pure_ (i := 31) (N := some 60) (v := ?_) (a' := ?_) #[true, true, true, true, true, true, true, true, true, true, true, true, true, true, true, true, true, true, true, true, true, true, true, true, true, true, true, true, true, true, true, true, false] rfl rfl (any_of HT_.out (by kernel_rfl)) (fun _ _ _ h => h) (Or.inl ⟨by rfl, ?_⟩) ?_ ?_
                    rotate_left; ·intro w'; go_simp; with_reducible rfl
                    rotate_left; ·simp only [Act.put, sA_, sZ_, sS_, i64_w, i32_w]; rfl
                    refine pure_ (i := 32) (N := some 61) (v := ?_) (a' := ?_) #[true, true, true, true, true, true, true, true, true, true, true, true, true, true, true, true, true, true, true, true, true, true, true, true, true, true, true, true, true, true, true, true, true] rfl rfl (any_of HT_.out (by kernel_rfl)) (fun _ _ _ h => h) (Or.inl ⟨by rfl, ?_⟩) ?_ ?_
                    rotate_left; ·intro w'; go_simp; with_reducible rfl
                    rotate_left; ·simp only [Act.put, sA_, sZ_, sS_, i64_w, i32_w]; rfl
                    refine done_ (done_of HT_.out (by kernel_rfl)) ?_
                    try go_wp2
                    go_roundg kj4
                    case measure => have := HK1.out; have := HK2.out; have := HJ4.out; omega
                    case rel => exact ⟨(x5_2), (wrap64 (x5_2 + 1)), (by first | rfl | (simp; done) | (simp [*]; done)), (by first | rfl | (simp; done) | (simp [*]; done)), H', ⟨by have := HK1.out; have := HK2.out; have := HJ4.out; omega⟩, ⟨by (with_reducible repeat (first | apply Kd.R_alloc | apply Kd.R_drewN | apply Kd.R_drew)); exact HO_3.out⟩, ⟨by repeat (first | (with_reducible first | exact HB.out | apply below_alloc | apply pw_below_drewN | apply below_drew1) | exact HB.out)⟩⟩
                   ·rw [if_neg c23] at H
                    have c23b0 : decide (t281 < t285) = false := decide_eq_false c23
                    clear c23; have H' := Aside0.mk H; clear H
                    try go_wp2
                    have n0_ := Aside0.mk (Kd.R_drew HO_3.out)
                    have n1_ := Aside0.mk (below_drew1 HB.out)
                    clear HO_3; clear HB; have HO_3 := n0_; have HB := n1_; clear n0_ n1_
                    have p278 : 0 ≤ ((ji12) : Int) := of_decide_eq_true (by first | (with_reducible assumption) | assumption)
                    have q278 : (ji12) < (x3_1.length : Int) := of_decide_eq_true (by first | (with_reducible assumption) | assumption)
                    obtain ⟨ad278, e278, hx278_0⟩ := Kd.at_int (Kd.R_reads' HO_3.out).2.2 (ji12) p278 q278
                    cases e278; replace p278 := eq_true p278; replace q278 := eq_true q278
                    have p279 : 0 ≤ ((rd x3_1 (ji12)) : Int) := of_decide_eq_true (by first | (with_reducible assumption) | assumption)
                    have q279 : (rd x3_1 (ji12)) < (l0.length : Int) := of_decide_eq_true (by first | (with_reducible assumption) | assumption)
                    obtain ⟨ad279, e279, hx279_0, hx279_1⟩ := at_T31 HR0.out (rd x3_1 (ji12)) p279 q279
                    have hw279_1 := hx279_1; have hw279_0 := hx279_0; cases e279
                    replace hx279_0 := (HB.out.cell (World.block_lt_of_cell? w _ hx279_0)).trans hx279_0
                    replace hx279_1 := (HB.out.cell (World.block_lt_of_cell? w _ hx279_1)).trans hx279_1
                    replace p279 := eq_true p279; replace q279 := eq_true q279
                    have p280 : 0 ≤ (x5_2 : Int) := of_decide_eq_true (by first | (with_reducible assumption) | assumption)
                    have q280 : x5_2 < (l0.length : Int) := of_decide_eq_true (by first | (with_reducible assumption) | assumption)
                    obtain ⟨ad280, e280, hx280_0, hx280_1⟩ := at_T31 HR0.out x5_2 p280 q280
                    have hw280_1 := hx280_1; have hw280_0 := hx280_0
                    obtain rfl : ad279 = ad280 := (by injection e280)
                    replace hx280_0 := (HB.out.cell (World.block_lt_of_cell? w _ hx280_0)).trans hx280_0
                    replace hx280_1 := (HB.out.cell (World.block_lt_of_cell? w _ hx280_1)).trans hx280_1
                    replace p280 := eq_true p280; replace q280 := eq_true q280
                    have p282 : 0 ≤ ((ji12) : Int) := of_decide_eq_true (by first | (with_reducible assumption) | assumption)
                    have q282 : (ji12) < (x3_1.length : Int) := of_decide_eq_true (by first | (with_reducible assumption) | assumption)
                    obtain ⟨ad282, e282, hx282_0⟩ := Kd.at_int (Kd.R_reads' HO_3.out).2.2 (ji12) p282 q282
                    obtain rfl : ad278 = ad282 := (by injection e282)
                    replace p282 := eq_true p282; replace q282 := eq_true q282
                    have p283 : 0 ≤ ((rd x3_1 (ji12)) : Int) := of_decide_eq_true (by first | (with_reducible assumption) | assumption)
                    have q283 : (rd x3_1 (ji12)) < (l0.length : Int) := of_decide_eq_true (by first | (with_reducible assumption) | assumption)
                    obtain ⟨ad283, e283, hx283_0, hx283_1⟩ := at_T31 HR0.out (rd x3_1 (ji12)) p283 q283
                    have hw283_1 := hx283_1; have hw283_0 := hx283_0
                    obtain rfl : ad279 = ad283 := (by injection e283)
                    replace hx283_0 := (HB.out.cell (World.block_lt_of_cell? w _ hx283_0)).trans hx283_0
                    replace hx283_1 := (HB.out.cell (World.block_lt_of_cell? w _ hx283_1)).trans hx283_1
                    replace p283 := eq_true p283; replace q283 := eq_true q283
                    have p284 : 0 ≤ (x4_2 : Int) := of_decide_eq_true (by first | (with_reducible assumption) | assumption)
                    have q284 : x4_2 < (l0.length : Int) := of_decide_eq_true (by first | (with_reducible assumption) | assumption)
                    obtain ⟨ad284, e284, hx284_0, hx284_1⟩ := at_T31 HR0.out x4_2 p284 q284
                    have hw284_1 := hx284_1; have hw284_0 := hx284_0
                    obtain rfl : ad279 = ad284 := (by injection e284)
                    replace hx284_0 := (HB.out.cell (World.block_lt_of_cell? w _ hx284_0)).trans hx284_0
                    replace hx284_1 := (HB.out.cell (World.block_lt_of_cell? w _ hx284_1)).trans hx284_1
                    replace p284 := eq_true p284; replace q284 := eq_true q284
                    refine start_ (n := 33) (S := fun w' => w'.cell? (ad278.add ((ji12)).toNat) = some (.int .i64 (rd x3_1 (ji12))) ∧ w'.cell? (ad279.add (((rd x3_1 (ji12))).toNat * 2)) = some (.int .i64 ((rd_T31 l0 (rd x3_1 (ji12))).f0)) ∧ w'.cell? ⟨(ad279.add (((rd x3_1 (ji12))).toNat * 2)).block, (ad279.add (((rd x3_1 (ji12))).toNat * 2)).off + 1, none⟩ = some (.int .i64 ((rd_T31 l0 (rd x3_1 (ji12))).f1)) ∧ w'.cell? (ad279.add ((x5_2).toNat * 2)) = some (.int .i64 ((rd_T31 l0 x5_2).f0)) ∧ w'.cell? ⟨(ad279.add ((x5_2).toNat * 2)).block, (ad279.add ((x5_2).toNat * 2)).off + 1, none⟩ = some (.int .i64 ((rd_T31 l0 x5_2).f1)) ∧ w'.cell? (ad278.add ((ji12)).toNat) = some (.int .i64 (rd x3_1 (ji12))) ∧ w'.cell? (ad279.add (((rd x3_1 (ji12))).toNat * 2)) = some (.int .i64 ((rd_T31 l0 (rd x3_1 (ji12))).f0)) ∧ w'.cell? ⟨(ad279.add (((rd x3_1 (ji12))).toNat * 2)).block, (ad279.add (((rd x3_1 (ji12))).toNat * 2)).off + 1, none⟩ = some (.int .i64 ((rd_T31 l0 (rd x3_1 (ji12))).f1)) ∧ w'.cell? (ad279.add ((x4_2).toNat * 2)) = some (.int .i64 ((rd_T31 l0 x4_2).f0)) ∧ w'.cell? ⟨(ad279.add ((x4_2).toNat * 2)).block, (ad279.add ((x4_2).toNat * 2)).off + 1, none⟩ = some (.int .i64 ((rd_T31 l0 x4_2).f1))) (ds := []) #[false, false, false, false, false, false, false, false, false, false, false, false, false, false, false, false, false, false, false, false, false, false, false, false, false, false, false, false, false, false, false, false, false] (by kernel_rfl) rfl rfl ⟨hx278_0, ((HB.out.cell (World.block_lt_of_cell? w _ hw279_0)).trans hw279_0), ((HB.out.cell (World.block_lt_of_cell? w _ hw279_1)).trans hw279_1), ((HB.out.cell (World.block_lt_of_cell? w _ hw280_0)).trans hw280_0), ((HB.out.cell (World.block_lt_of_cell? w _ hw280_1)).trans hw280_1), hx282_0, ((HB.out.cell (World.block_lt_of_cell? w _ hw283_0)).trans hw283_0), ((HB.out.cell (World.block_lt_of_cell? w _ hw283_1)).trans hw283_1), ((HB.out.cell (World.block_lt_of_cell? w _ hw284_0)).trans hw284_0), ((HB.out.cell (World.block_lt_of_cell? w _ hw284_1)).trans hw284_1)⟩ (fun hHeld => ?_); refine with_tabW swarfref38_Nearest.tab8 swarfref38_Nearest.bits8 (fun HT_ HW_ => ?_)
                    generalize wc.drew = w27 at HO_3 HB hx278_0 hx279_0 hx279_1 hx280_0 hx280_1 hx282_0 hx283_0 hx283_1 hx284_0 hx284_1 hHeld ⊢
                    refine pure_ (i := 0) (N := some 29) (v := ?_) (a' := ?_) #[true, false, false, false, false, false, false, false, false, false, false, false, false, false, false, false, false, false, false, false, false, false, false, false, false, false, false, false, false, false, false, false, false] rfl rfl (any_of HT_.out (by kernel_rfl)) (fun _ _ _ h => h) (Or.inl ⟨by rfl, ?_⟩) ?_ ?_
                    rotate_left; ·intro w'; go_simp; with_reducible rfl
                    rotate_left; ·simp only [Act.put, sA_, sZ_, sS_, i64_w, i32_w]; rfl
                    refine pure_ (i := 1) (N := some 30) (v := ?_) (a' := ?_) #[true, true, false, false, false, false, false, false, false, false, false, false, false, false, false, false, false, false, false, false, false, false, false, false, false, false, false, false, false, false, false, false, false] rfl rfl (any_of HT_.out (by kernel_rfl)) (fun _ _ _ h => h) (Or.inl ⟨by rfl, ?_⟩) ?_ ?_
                    rotate_left; ·intro w'; go_simp; with_reducible rfl
                    rotate_left; ·simp only [Act.put, sA_, sZ_, sS_, i64_w, i32_w]; rfl
                    refine pure_ (i := 2) (N := some 31) (v := ?_) (a' := ?_) #[true, true, true, false, false, false, false, false, false, false, false, false, false, false, false, false, false, false, false, false, false, false, false, false, false, false, false, false, false, false, false, false, false] rfl rfl (any_of HT_.out (by kernel_rfl)) (fun _ _ _ h => h) (Or.inl ⟨by rfl, ?_⟩) ?_ ?_
                    rotate_left; ·intro w'; go_simp; with_reducible rfl
                    rotate_left; ·simp only [Act.put, sA_, sZ_, sS_, i64_w, i32_w]; rfl
                    refine pure_ (i := 3) (N := some 32) (v := ?_) (a' := ?_) #[true, true, true, true, false, false, false, false, false, false, false, false, false, false, false, false, false, false, false, false, false, false, false, false, false, false, false, false, false, false, false, false, false] rfl rfl (any_of HT_.out (by kernel_rfl)) (fun _ _ _ h => h) (Or.inl ⟨by rfl, ?_⟩) ?_ ?_
                    rotate_left; ·intro w'; go_simp; with_reducible rfl
                    rotate_left; ·simp only [Act.put, sA_, sZ_, sS_, i64_w, i32_w]; rfl
                    refine pure_ (i := 4) (N := some 33) (v := ?_) (a' := ?_) #[true, true, true, true, true, false, false, false, false, false, false, false, false, false, false, false, false, false, false, false, false, false, false, false, false, false, false, false, false, false, false, false, false] rfl rfl (any_of HT_.out (by kernel_rfl)) (fun _ _ _ h => h) (Or.inl ⟨by rfl, ?_⟩) ?_ ?_
                    rotate_left; ·intro w'; go_simp; with_reducible rfl
                    rotate_left; ·simp only [Act.put, sA_, sZ_, sS_, i64_w, i32_w]; rfl
                    refine pure_ (i := 5) (N := some 34) (v := ?_) (a' := ?_) #[true, true, true, true, true, true, false, false, false, false, false, false, false, false, false, false, false, false, false, false, false, false, false, false, false, false, false, false, false, false, false, false, false] rfl rfl (any_of HT_.out (by kernel_rfl)) (fun _ _ _ h => h) (Or.inl ⟨by rfl, ?_⟩) ?_ ?_
                    rotate_left; ·intro w'; go_simp; with_reducible rfl
                    rotate_left; ·simp only [Act.put, sA_, sZ_, sS_, i64_w, i32_w]; rfl
                    refine pure_ (i := 6) (N := some 35) (v := ?_) (a' := ?_) #[true, true, true, true, true, true, true, false, false, false, false, false, false, false, false, false, false, false, false, false, false, false, false, false, false, false, false, false, false, false, false, false, false] rfl rfl (any_of HT_.out (by kernel_rfl)) (fun _ _ _ h => h) (Or.inl ⟨by rfl, ?_⟩) ?_ ?_
                    rotate_left; ·intro w'; go_simp; with_reducible rfl
                    rotate_left; ·simp only [Act.put, sA_, sZ_, sS_, i64_w, i32_w]; rfl
                    refine pure_ (i := 7) (N := some 36) (v := ?_) (a' := ?_) #[true, true, true, true, true, true, true, true, false, false, false, false, false, false, false, false, false, false, false, false, false, false, false, false, false, false, false, false, false, false, false, false, false] rfl rfl (any_of HT_.out (by kernel_rfl)) (fun _ _ _ h => h) (Or.inl ⟨by rfl, ?_⟩) ?_ ?_
                    rotate_left; ·intro w'; go_simp; with_reducible rfl
                    rotate_left; ·simp only [Act.put, sA_, sZ_, sS_, i64_w, i32_w]; rfl
                    refine pure_ (i := 8) (N := some 37) (v := ?_) (a' := ?_) #[true, true, true, true, true, true, true, true, true, false, false, false, false, false, false, false, false, false, false, false, false, false, false, false, false, false, false, false, false, false, false, false, false] rfl rfl (any_of HT_.out (by kernel_rfl)) (fun _ _ _ h => h) (Or.inl ⟨by rfl, ?_⟩) ?_ ?_
                    rotate_left; ·intro w'; go_simp; with_reducible rfl
                    rotate_left; ·simp only [Act.put, sA_, sZ_, sS_, i64_w, i32_w]; rfl
                    refine pure_ (i := 12) (N := some 41) (v := ?_) (a' := ?_) #[true, true, true, true, true, true, true, true, true, false, false, false, true, false, false, false, false, false, false, false, false, false, false, false, false, false, false, false, false, false, false, false, false] rfl rfl (any_of HT_.out (by kernel_rfl)) (fun _ _ _ h => h) (Or.inl ⟨by rfl, ?_⟩) ?_ ?_
                    rotate_left; ·intro w'; go_simp; with_reducible rfl
                    rotate_left; ·simp only [Act.put, sA_, sZ_, sS_, i64_w, i32_w]; rfl
                    refine pure_ (i := 13) (N := some 42) (v := ?_) (a' := ?_) #[true, true, true, true, true, true, true, true, true, false, false, false, true, true, false, false, false, false, false, false, false, false, false, false, false, false, false, false, false, false, false, false, false] rfl rfl (any_of HT_.out (by kernel_rfl)) (fun _ _ _ h => h) (Or.inl ⟨by rfl, ?_⟩) ?_ ?_
                    rotate_left; ·intro w'; go_simp; with_reducible rfl
                    rotate_left; ·simp only [Act.put, sA_, sZ_, sS_, i64_w, i32_w]; rfl
                    refine pure_ (i := 14) (N := some 43) (v := ?_) (a' := ?_) #[true, true, true, true, true, true, true, true, true, false, false, false, true, true, true, false, false, false, false, false, false, false, false, false, false, false, false, false, false, false, false, false, false] rfl rfl (any_of HT_.out (by kernel_rfl)) (fun _ _ _ h => h) (Or.inl ⟨by rfl, ?_⟩) ?_ ?_
                    rotate_left; ·intro w'; go_simp; with_reducible rfl
                    rotate_left; ·simp only [Act.put, sA_, sZ_, sS_, i64_w, i32_w]; rfl
                    refine pure_ (i := 17) (N := some 46) (v := ?_) (a' := ?_) #[true, true, true, true, true, true, true, true, true, false, false, false, true, true, true, false, false, true, false, false, false, false, false, false, false, false, false, false, false, false, false, false, false] rfl rfl (any_of HT_.out (by kernel_rfl)) (fun _ _ _ h => h) (Or.inl ⟨by rfl, ?_⟩) ?_ ?_
                    rotate_left; ·intro w'; go_simp; with_reducible rfl
                    rotate_left; ·simp only [Act.put, sA_, sZ_, sS_, i64_w, i32_w]; rfl
                    refine pure_ (i := 18) (N := some 47) (v := ?_) (a' := ?_) #[true, true, true, true, true, true, true, true, true, false, false, false, true, true, true, false, false, true, true, false, false, false, false, false, false, false, false, false, false, false, false, false, false] rfl rfl (any_of HT_.out (by kernel_rfl)) (fun _ _ _ h => h) (Or.inl ⟨by rfl, ?_⟩) ?_ ?_
                    rotate_left; ·intro w'; go_simp; with_reducible rfl
                    rotate_left; ·simp only [Act.put, sA_, sZ_, sS_, i64_w, i32_w]; rfl
                    refine pure_ (i := 19) (N := some 48) (v := ?_) (a' := ?_) #[true, true, true, true, true, true, true, true, true, false, false, false, true, true, true, false, false, true, true, true, false, false, false, false, false, false, false, false, false, false, false, false, false] rfl rfl (any_of HT_.out (by kernel_rfl)) (fun _ _ _ h => h) (Or.inl ⟨by rfl, ?_⟩) ?_ ?_
                    rotate_left; ·intro w'; go_simp; with_reducible rfl
                    rotate_left; ·simp only [Act.put, sA_, sZ_, sS_, i64_w, i32_w]; rfl
                    refine pure_ (i := 20) (N := some 49) (v := ?_) (a' := ?_) #[true, true, true, true, true, true, true, true, true, false, false, false, true, true, true, false, false, true, true, true, true, false, false, false, false, false, false, false, false, false, false, false, false] rfl rfl (any_of HT_.out (by kernel_rfl)) (fun _ _ _ h => h) (Or.inl ⟨by rfl, ?_⟩) ?_ ?_
                    rotate_left; ·intro w'; go_simp; with_reducible rfl
                    rotate_left; ·simp only [Act.put, sA_, sZ_, sS_, i64_w, i32_w]; rfl
                    refine pure_ (i := 21) (N := some 50) (v := ?_) (a' := ?_) #[true, true, true, true, true, true, true, true, true, false, false, false, true, true, true, false, false, true, true, true, true, true, false, false, false, false, false, false, false, false, false, false, false] rfl rfl (any_of HT_.out (by kernel_rfl)) (fun _ _ _ h => h) (Or.inl ⟨by rfl, ?_⟩) ?_ ?_
                    rotate_left; ·intro w'; go_simp; with_reducible rfl
                    rotate_left; ·simp only [Act.put, sA_, sZ_, sS_, i64_w, i32_w]; rfl
                    refine pure_ (i := 22) (N := some 51) (v := ?_) (a' := ?_) #[true, true, true, true, true, true, true, true, true, false, false, false, true, true, true, false, false, true, true, true, true, true, true, false, false, false, false, false, false, false, false, false, false] rfl rfl (any_of HT_.out (by kernel_rfl)) (fun _ _ _ h => h) (Or.inl ⟨by rfl, ?_⟩) ?_ ?_
                    rotate_left; ·intro w'; go_simp; with_reducible rfl
                    rotate_left; ·simp only [Act.put, sA_, sZ_, sS_, i64_w, i32_w]; rfl
                    refine pure_ (i := 26) (N := some 55) (v := ?_) (a' := ?_) #[true, true, true, true, true, true, true, true, true, false, false, false, true, true, true, false, false, true, true, true, true, true, true, false, false, false, true, false, false, false, false, false, false] rfl rfl (any_of HT_.out (by kernel_rfl)) (fun _ _ _ h => h) (Or.inl ⟨by rfl, ?_⟩) ?_ ?_
                    rotate_left; ·intro w'; go_simp; with_reducible rfl
                    rotate_left; ·simp only [Act.put, sA_, sZ_, sS_, i64_w, i32_w]; rfl
                    refine pure_ (i := 27) (N := some 56) (v := ?_) (a' := ?_) #[true, true, true, true, true, true, true, true, true, false, false, false, true, true, true, false, false, true, true, true, true, true, true, false, false, false, true, true, false, false, false, false, false] rfl rfl (any_of HT_.out (by kernel_rfl)) (fun _ _ _ h => h) (Or.inl ⟨by rfl, ?_⟩) ?_ ?_
                    rotate_left; ·intro w'; go_simp; with_reducible rfl
                    rotate_left; ·simp only [Act.put, sA_, sZ_, sS_, i64_w, i32_w]; rfl
                    refine pure_ (i := 28) (N := some 57) (v := ?_) (a' := ?_) #[true, true, true, true, true, true, true, true, true, false, false, false, true, true, true, false, false, true, true, true, true, true, true, false, false, false, true, true, true, false, false, false, false] rfl rfl (any_of HT_.out (by kernel_rfl)) (fun _ _ _ h => h) (Or.inl ⟨by rfl, ?_⟩) ?_ ?_
                    rotate_left; ·intro w'; go_simp; with_reducible rfl
                    rotate_left; ·simp only [Act.put, sA_, sZ_, sS_, i64_w, i32_w]; rfl
                    refine take_ (i := 9) (N := some 38) (v := ?_) (a' := ?_) #[true, true, true, true, true, true, true, true, true, true, false, false, true, true, true, false, false, true, true, true, true, true, true, false, false, false, true, true, true, false, false, false, false] rfl rfl (take_ofW HT_.out HW_.out (by kernel_rfl)) (fun _ _ _ h => h) (Or.inl ⟨by rfl, ?_⟩) hHeld ?_ ?_
                    rotate_left
                    ·rintro w' ⟨s0, s1, s2, s3, s4, s5, s6, s7, s8, s9⟩; go_simp; with_reducible rfl
                    rotate_left; ·simp only [Act.put, sA_, sZ_, sS_, i64_w, i32_w]; rfl
                    refine pure_ (i := 10) (N := some 39) (v := ?_) (a' := ?_) #[true, true, true, true, true, true, true, true, true, true, true, false, true, true, true, false, false, true, true, true, true, true, true, false, false, false, true, true, true, false, false, false, false] rfl rfl (any_of HT_.out (by kernel_rfl)) (fun _ _ _ h => h) (Or.inl ⟨by rfl, ?_⟩) ?_ ?_
                    rotate_left; ·intro w'; go_simp; with_reducible rfl
                    rotate_left; ·simp only [Act.put, sA_, sZ_, sS_, i64_w, i32_w]; rfl
                    refine take_ (i := 11) (N := some 40) (v := ?_) (a' := ?_) #[true, true, true, true, true, true, true, true, true, true, true, true, true, true, true, false, false, true, true, true, true, true, true, false, false, false, true, true, true, false, false, false, false] rfl rfl (take_ofW HT_.out HW_.out (by kernel_rfl)) (fun _ _ _ h => h) (Or.inl ⟨by rfl, ?_⟩) hHeld ?_ ?_
                    rotate_left
                    ·rintro w' ⟨s0, s1, s2, s3, s4, s5, s6, s7, s8, s9⟩; go_simp; with_reducible rfl
                    rotate_left; ·simp only [Act.put, sA_, sZ_, sS_, i64_w, i32_w]; rfl
                    refine take_ (i := 15) (N := some 44) (v := ?_) (a' := ?_) #[true, true, true, true, true, true, true, true, true, true, true, true, true, true, true, true, false, true, true, true, true, true, true, false, false, false, true, true, true, false, false, false, false] rfl rfl (take_ofW HT_.out HW_.out (by kernel_rfl)) (fun _ _ _ h => h) (Or.inl ⟨by rfl, ?_⟩) hHeld ?_ ?_
                    rotate_left
                    ·rintro w' ⟨s0, s1, s2, s3, s4, s5, s6, s7, s8, s9⟩; go_simp; with_reducible rfl
                    rotate_left; ·simp only [Act.put, sA_, sZ_, sS_, i64_w, i32_w]; rfl
                    refine take_ (i := 23) (N := some 52) (v := ?_) (a' := ?_) #[true, true, true, true, true, true, true, true, true, true, true, true, true, true, true, true, false, true, true, true, true, true, true, true, false, false, true, true, true, false, false, false, false] rfl rfl (take_ofW HT_.out HW_.out (by kernel_rfl)) (fun _ _ _ h => h) (Or.inl ⟨by rfl, ?_⟩) hHeld ?_ ?_
                    rotate_left
                    ·rintro w' ⟨s0, s1, s2, s3, s4, s5, s6, s7, s8, s9⟩; go_simp; with_reducible rfl
                    rotate_left; ·simp only [Act.put, sA_, sZ_, sS_, i64_w, i32_w]; rfl
                    refine pure_ (i := 24) (N := some 53) (v := ?_) (a' := ?_) #[true, true, true, true, true, true, true, true, true, true, true, true, true, true, true, true, false, true, true, true, true, true, true, true, true, false, true, true, true, false, false, false, false] rfl rfl (any_of HT_.out (by kernel_rfl)) (fun _ _ _ h => h) (Or.inl ⟨by rfl, ?_⟩) ?_ ?_
                    rotate_left; ·intro w'; go_simp; with_reducible rfl
                    rotate_left; ·simp only [Act.put, sA_, sZ_, sS_, i64_w, i32_w]; rfl
                    refine take_ (i := 25) (N := some 54) (v := ?_) (a' := ?_) #[true, true, true, true, true, true, true, true, true, true, true, true, true, true, true, true, false, true, true, true, true, true, true, true, true, true, true, true, true, false, false, false, false] rfl rfl (take_ofW HT_.out HW_.out (by kernel_rfl)) (fun _ _ _ h => h) (Or.inl ⟨by rfl, ?_⟩) hHeld ?_ ?_
                    rotate_left
                    ·rintro w' ⟨s0, s1, s2, s3, s4, s5, s6, s7, s8, s9⟩; go_simp; with_reducible rfl
                    rotate_left; ·simp only [Act.put, sA_, sZ_, sS_, i64_w, i32_w]; rfl
                    refine take_ (i := 29) (N := some 58) (v := ?_) (a' := ?_) #[true, true, true, true, true, true, true, true, true, true, true, true, true, true, true, true, false, true, true, true, true, true, true, true, true, true, true, true, true, true, false, false, false] rfl rfl (take_ofW HT_.out HW_.out (by kernel_rfl)) (fun _ _ _ h => h) (Or.inl ⟨by rfl, ?_⟩) hHeld ?_ ?_
                    rotate_left
                    ·rintro w' ⟨s0, s1, s2, s3, s4, s5, s6, s7, s8, s9⟩; go_simp; with_reducible rfl
                    rotate_left; ·simp only [Act.put, sA_, sZ_, sS_, i64_w, i32_w]; rfl
                    refine one_ (i := 16) (N := some 45) #[true, true, true, true, true, true, true, true, true, true, true, true, true, true, true, true, true, true, true, true, true, true, true, true, true, true, true, true, true, true, false, false, false] rfl rfl (one_of HT_.out (by kernel_rfl)) (by decide) (fun K hK => ?_)
                    refine goes_ Try.func16 (by kernel_rfl) rfl #[.agg #[.int .i64 ((rd_T31 l0 (rd x3_1 (ji12))).f0), .int .i64 ((rd_T31 l0 (rd x3_1 (ji12))).f1)], .agg #[.int .i64 ((rd_T31 l0 x5_2).f0), .int .i64 ((rd_T31 l0 x5_2).f1)]] (by rfl) rfl rfl (by (try simp only [List.map_toArray, List.map_cons, List.map_nil]); first | done | (simp only [hji12]; rfl) | rfl | (simp only [List.length_drop, List.length_take]; rfl)) ?_
                    with_reducible refine (swarfref38_Distance.calls ((rd_T31 l0 (rd x3_1 (ji12))).f0) ((rd_T31 l0 (rd x3_1 (ji12))).f1) ((rd_T31 l0 x5_2).f0) ((rd_T31 l0 x5_2).f1) t281 _ A19.out).mono ?_
                    rintro e w28 ⟨rfl, hb⟩
                    have HS0_ := (hb.cell (World.block_lt_of_cell? _ _ (hHeld.1))).trans (hHeld.1)
                    have HS5_ := (hb.cell (World.block_lt_of_cell? _ _ (hHeld.2.2.2.2.2.1))).trans (hHeld.2.2.2.2.2.1)
                    refine ⟨_, rfl, ?_⟩
                    have n0_ := Aside0.mk (Kd.R_below (by (with_reducible repeat (first | apply Kd.R_alloc | apply Kd.R_drewN | apply Kd.R_drew)); exact HO_3.out) hb)
                    have n1_ := Aside0.mk (below_step (by repeat (first | (with_reducible first | exact HB.out | apply below_alloc | apply pw_below_drewN | apply below_drew1) | exact HB.out)) hb)
                    clear HO_3; clear HB; have HO_3 := n0_; have HB := n1_; clear n0_ n1_; (try clear hb); (try clear hb2); (try clear hk); (try clear hi)
                    refine hK.out _ _ ⟨HS0_, ((HB.out.cell (World.block_lt_of_cell? w _ hw279_0)).trans hw279_0), ((HB.out.cell (World.block_lt_of_cell? w _ hw279_1)).trans hw279_1), ((HB.out.cell (World.block_lt_of_cell? w _ hw280_0)).trans hw280_0), ((HB.out.cell (World.block_lt_of_cell? w _ hw280_1)).trans hw280_1), HS5_, ((HB.out.cell (World.block_lt_of_cell? w _ hw283_0)).trans hw283_0), ((HB.out.cell (World.block_lt_of_cell? w _ hw283_1)).trans hw283_1), ((HB.out.cell (World.block_lt_of_cell? w _ hw284_0)).trans hw284_0), ((HB.out.cell (World.block_lt_of_cell? w _ hw284_1)).trans hw284_1)⟩ (fun hHeld => ?_)
                    clear hK K
                    refine norm_ (a' := ?_) ?_ ?_
                    rotate_left
                    ·show Act.put _ (some 45) _ = _
                     simp only [Act.put, sA_, sZ_, sS_, i64_w, i32_w]; rfl
                    refine one_ (i := 30) (N := some 59) #[true, true, true, true, true, true, true, true, true, true, true, true, true, true, true, true, true, true, true, true, true, true, true, true, true, true, true, true, true, true, true, false, false] rfl rfl (one_of HT_.out (by kernel_rfl)) (by decide) (fun K hK => ?_)
                    refine goes_ Try.func16 (by kernel_rfl) rfl #[.agg #[.int .i64 ((rd_T31 l0 (rd x3_1 (ji12))).f0), .int .i64 ((rd_T31 l0 (rd x3_1 (ji12))).f1)], .agg #[.int .i64 ((rd_T31 l0 x4_2).f0), .int .i64 ((rd_T31 l0 x4_2).f1)]] (by rfl) rfl rfl (by (try simp only [List.map_toArray, List.map_cons, List.map_nil]); first | done | (simp only [hji12]; rfl) | rfl | (simp only [List.length_drop, List.length_take]; rfl)) ?_
                    with_reducible refine (swarfref38_Distance.calls ((rd_T31 l0 (rd x3_1 (ji12))).f0) ((rd_T31 l0 (rd x3_1 (ji12))).f1) ((rd_T31 l0 x4_2).f0) ((rd_T31 l0 x4_2).f1) t285 _ A22.out).mono ?_
                    rintro e w29 ⟨rfl, hb⟩
                    have HS0_ := (hb.cell (World.block_lt_of_cell? _ _ (hHeld.1))).trans (hHeld.1)
                    have HS5_ := (hb.cell (World.block_lt_of_cell? _ _ (hHeld.2.2.2.2.2.1))).trans (hHeld.2.2.2.2.2.1)
                    refine ⟨_, rfl, ?_⟩
                    have n0_ := Aside0.mk (Kd.R_below (by (with_reducible repeat (first | apply Kd.R_alloc | apply Kd.R_drewN | apply Kd.R_drew)); exact HO_3.out) hb)
                    have n1_ := Aside0.mk (below_step (by repeat (first | (with_reducible first | exact HB.out | apply below_alloc | apply pw_below_drewN | apply below_drew1) | exact HB.out)) hb)
                    clear HO_3; clear HB; have HO_3 := n0_; have HB := n1_; clear n0_ n1_; (try clear hb); (try clear hb2); (try clear hk); (try clear hi)
                    refine hK.out _ _ ⟨HS0_, ((HB.out.cell (World.block_lt_of_cell? w _ hw279_0)).trans hw279_0), ((HB.out.cell (World.block_lt_of_cell? w _ hw279_1)).trans hw279_1), ((HB.out.cell (World.block_lt_of_cell? w _ hw280_0)).trans hw280_0), ((HB.out.cell (World.block_lt_of_cell? w _ hw280_1)).trans hw280_1), HS5_, ((HB.out.cell (World.block_lt_of_cell? w _ hw283_0)).trans hw283_0), ((HB.out.cell (World.block_lt_of_cell? w _ hw283_1)).trans hw283_1), ((HB.out.cell (World.block_lt_of_cell? w _ hw284_0)).trans hw284_0), ((HB.out.cell (World.block_lt_of_cell? w _ hw284_1)).trans hw284_1)⟩ (fun hHeld => ?_)
                    clear hK K
                    refine norm_ (a' := ?_) ?_ ?_
                    rotate_left
                    ·show Act.put _ (some 59) _ = _
                     simp only [Act.put, sA_, sZ_, sS_, i64_w, i32_w]; rfl
                    refine pure_ (i := 31) (N := some 60) (v := ?_) (a' := ?_) #[true, true, true, true, true, true, true, true, true, true, true, true, true, true, true, true, true, true, true, true, true, true, true, true, true, true, true, true, true, true, true, true, false] rfl rfl (any_of HT_.out (by kernel_rfl)) (fun _ _ _ h => h) (Or.inl ⟨by rfl, ?_⟩) ?_ ?_
                    rotate_left; ·intro w'; go_simp; with_reducible rfl
                    rotate_left; ·simp only [Act.put, sA_, sZ_, sS_, i64_w, i32_w]; rfl
                    refine pure_ (i := 32) (N := some 61) (v := ?_) (a' := ?_) #[true, true, true, true, true, true, true, true, true, true, true, true, true, true, true, true, true, true, true, true, true, true, true, true, true, true, true, true, true, true, true, true, true] rfl rfl (any_of HT_.out (by kernel_rfl)) (fun _ _ _ h => h) (Or.inl ⟨by rfl, ?_⟩) ?_ ?_
                    rotate_left; ·intro w'; go_simp; with_reducible rfl
                    rotate_left; ·simp only [Act.put, sA_, sZ_, sS_, i64_w, i32_w]; rfl
                    refine done_ (done_of HT_.out (by kernel_rfl)) ?_
                    try go_wp2
                    go_roundg kj4
                    case measure => have := HK1.out; have := HK2.out; have := HJ4.out; omega
                    case rel => exact ⟨(x4_2), (wrap64 (x5_2 + 1)), (by first | rfl | (simp; done) | (simp [*]; done)), (by first | rfl | (simp; done) | (simp [*]; done)), H', ⟨by have := HK1.out; have := HK2.out; have := HJ4.out; omega⟩, ⟨by (with_reducible repeat (first | apply Kd.R_alloc | apply Kd.R_drewN | apply Kd.R_drew)); exact HO_3.out⟩, ⟨by repeat (first | (with_reducible first | exact HB.out | apply below_alloc | apply pw_below_drewN | apply below_drew1) | exact HB.out)⟩⟩
                  ·rw [if_neg c21] at H
                   exact absurd H (by simp)
                 ·rw [if_neg c20] at H
                  exact absurd H (by simp)
                ·rw [if_neg c18] at H
                 exact absurd H (by simp)
               ·rw [if_neg c17] at H
                exact absurd H (by simp)
              ·rw [if_neg c16] at H
               exact absurd H (by simp)
             ·rw [if_neg c15] at H
              exact absurd H (by simp)
            ·rw [if_neg c14] at H
             exact absurd H (by simp)
           ·rw [if_neg c13] at H
            exact absurd H (by simp)
      ·rw [if_neg c4] at H
       have c4b0 : decide (x5_2 < (l0.length : Int)) = false := decide_eq_false c4
       clear c4
       by_cases c30 : x3_1.length < 17592186044416
       ·rw [if_pos c30] at H; have LMc30 := Aside0.mk c30; clear c30
        obtain ⟨y274, hy274⟩ : ∃ y_ : List Int, y_ = (x3_1 ++ [x4_2]) := ⟨_, rfl⟩
        replace H : (swarfref38_Nearest.l0 k2 l0 y274) = some r := by first | (rw [hy274]; with_reducible exact H) | (have H2_ := (Option.bind_some _ _).symm.trans H; rw [hy274]; with_reducible exact H2_) | (have H2_ := (Option.bind_some _ _).symm.trans H; with_reducible exact H2_) | with_reducible exact H | (rw [hy274]; exact H) | exact H
        have Ny274 := Aside0.mk hy274; clear hy274; have H' := Aside0.mk H; clear H
        go_wp2_with (first | ((with_reducible refine gate_builtin (b := .append) (xs := #[.tmp 63, .tmp 65]) rfl ?_); (try (refine gate_guard (by rfl) ?_; dsimp only)); at_builtin; refine Kd.R_append (Kd.int .i64) (w0 := w) w.heap.size rfl (.tmp 63) (.tmp 65) 23 3 (.int .i64 0) 8 rfl Try.underlying23 info3 rfl (by decide) (by omega) (.slice Ao3 x3_1.length co3) x3_1 x4_2 [.int .i64 x4_2] (fun _ => True) (fun _ => False) rfl rfl ?aP (fun _ hk => hk.elim) ?aF ?aO ?aB ?aS ?aL ?_; (case aP => exact rfl); (case aB => exact (by repeat (first | (with_reducible first | exact HB.out | apply below_alloc | apply pw_below_drewN | apply below_drew1) | exact HB.out))); (case aF => exact (fun _ _ => trivial)); (case aO => exact (by (with_reducible repeat (first | apply Kd.R_alloc | apply Kd.R_drewN | apply Kd.R_drew)); exact HO_3.out)); (case aS => exact (below_size (by repeat (first | (with_reducible first | exact HB.out | apply below_alloc | apply pw_below_drewN | apply below_drew1) | exact HB.out)))); (case aL => have := LMc30.out; omega); intro v275 w31 ho hb hg hat; rw [← Ny274.out] at ho; have n0_ := Aside0.mk (hb); have n1_ := Aside0.mk (ho); clear HB; clear HO_3; have HB := n0_; have HO276 := n1_; clear n0_ n1_; clear ho hb hg hat))
        go_roundg k2
        case measure => have := HK1.out; have := HK2.out; omega
        case rel => exact ⟨(y274), H', ⟨by have := HK1.out; have := HK2.out; omega⟩, ⟨by (with_reducible repeat (first | apply Kd.R_alloc | apply Kd.R_drewN | apply Kd.R_drew)); exact HO276.out⟩, ⟨by repeat (first | (with_reducible first | exact HB.out | apply below_alloc | apply pw_below_drewN | apply below_drew1) | exact HB.out)⟩⟩
       ·rw [if_neg c30] at H
        exact absurd H (by simp)
   ·rw [if_neg c2] at H
    have c2b0 : decide ((x3_1.length : Int) < (l0.length : Int)) = false := decide_eq_false c2
    have c2b1 : decide (x3_1.length < l0.length) = false := decide_eq_false (fun h => c2 (Int.ofNat_lt.mpr h))
    clear c2; obtain rfl := Option.some.inj H
    obtain ⟨Ao32, co32, eo32⟩ := Kd.R_slice HO_3.out
    subst eo32; go_wp2; go_ret
    exact ⟨_, by first | rfl | (simp [errW_none, errW_some] <;> rfl) | (simp [*, errW_none, errW_some] <;> rfl), by (with_reducible repeat (first | apply Kd.R_alloc | apply Kd.R_drewN | apply Kd.R_drew)); exact HO_3.out, by repeat (first | (with_reducible first | exact HB.out | apply below_alloc | apply pw_below_drewN | apply below_drew1) | exact HB.out)⟩

end Go.Proofs.Ytohjocajaanhaaa.P

/- What Nearest answers, in the program and in the reference. Plain numbers and lists. -/

namespace Go.Proofs.Ytohjocajaanhaaa.B
open Go.RowKit Go.Proofs.Ytohjocajaanhaaa.P Go.Proofs.YtohjocajaanhaaaW.PrintWords Go.Proofs.YtohjocajaanhaaaW.PrintLast Go.Proofs.YtohjocajaanhaaaW.PrintMore
set_option linter.unusedVariables false
set_option linter.unusedSimpArgs false

/-- One look at a number, when the nearest one is sought. -/
def look (l : List S31) (out : List Int) (at_ : Int) (j : Nat) (b : Int) : Int := if (j : Int) ∈ out then b else if b < 0 then (j : Int) else if dst (rd_T31 l at_) (rd_T31 l (j : Int)) < dst (rd_T31 l at_) (rd_T31 l b) then (j : Int) else b
/-! ### The program -/
/-! ### The reference -/
/-! ### It is an order -/
theorem ordS_of (n : Nat) (xs : List Int) : ∀ seen : List Bool, seen.length = n → (∀ x ∈ xs, 0 ≤ x ∧ x < (n : Int) ∧ rdOf false seen x = false) → xs.Nodup → ordS n seen xs = true := by
  induction xs with
  | nil => intro seen _ _ _; rfl
  | cons x xs ih =>
    intro seen hs h hd
    obtain ⟨a, b, c⟩ := h x List.mem_cons_self
    unfold ordS
    rw [if_neg (by omega), if_neg (by omega), if_neg (by rw [c]; decide)]
    refine ih _ (by simp [hs]) (fun y hy => ?_) (List.nodup_cons.1 hd).2
    obtain ⟨a', b', c'⟩ := h y (List.mem_cons_of_mem _ hy)
    refine ⟨a', b', ?_⟩
    rw [rdOf_set seen x y a (by omega) a', if_neg ?_]
    · exact c'
    · rintro rfl
      exact (List.nodup_cons.1 hd).1 hy
theorem isOrd_of {n : Nat} {o : List Int} (h1 : o.length = n) (h2 : n = 0 ∨ rd o 0 = 0) (h3 : ∀ x ∈ o, 0 ≤ x ∧ x < (n : Int)) (h4 : o.Nodup) : isOrd n o = true := by
  unfold isOrd
  rw [if_pos h1, if_pos h2]
  refine ordS_of n o _ (by simp) (fun x hx => ⟨(h3 x hx).1, (h3 x hx).2, ?_⟩) h4
  unfold rdOf
  rw [List.getD_eq_getElem?_getD, List.getElem?_replicate]
  split <;> rfl
end Go.Proofs.Ytohjocajaanhaaa.B

/- What Improve answers: a valid order, not longer, that no reversal shortens. Plain numbers and lists. -/

namespace Go.Proofs.Ytohjocajaanhaaa.B
open Go.RowKit Go.Proofs.Ytohjocajaanhaaa.P Go.Proofs.YtohjocajaanhaaaW.PrintWords Go.Proofs.YtohjocajaanhaaaW.PrintLast Go.Proofs.YtohjocajaanhaaaW.PrintMore
set_option linter.unusedVariables false
set_option linter.unusedSimpArgs false

/-! ### Lists -/
theorem set_at (A : List Int) (x v : Int) (T : List Int) : (A ++ x :: T).set A.length v = A ++ v :: T := by
  induction A with
  | nil => rfl
  | cons a A ih => simp only [List.cons_append, List.length_cons, List.set_cons_succ, ih]
theorem rd_app (X Y : List Int) (i : Nat) : rd (X ++ Y) (i : Int) = if i < X.length then rd X (i : Int) else rd Y ((i - X.length : Nat) : Int) := by
  unfold rd
  rw [Int.toNat_natCast, Int.toNat_natCast, List.getD_eq_getElem?_getD, List.getElem?_append]
  split
  · rw [List.getD_eq_getElem?_getD]
  · rw [List.getD_eq_getElem?_getD]
theorem rd_at (A : List Int) (x : Int) (T : List Int) : rd (A ++ x :: T) (A.length : Int) = x := by
  rw [rd_app, if_neg (by omega), Nat.sub_self]
  rfl
def lst (X : List Int) : Int := rd X ((X.length - 1 : Nat) : Int)
def hd (X : List Int) : Int := rd X 0
theorem lst_snoc (X : List Int) (x : Int) : lst (X ++ [x]) = x := by
  unfold lst
  have : (X ++ [x]).length - 1 = X.length := by simp
  rw [this, rd_at]
theorem hd_cons (x : Int) (X : List Int) : hd (x :: X) = x := rfl
theorem lst_cons (a b : Int) (t : List Int) : lst (a :: b :: t) = lst (b :: t) := by
  unfold lst rd
  simp
theorem wy_join (l : List S31) (Y : List Int) (hY : ¬ Y = []) : ∀ X : List Int, ¬ X = [] → wy l (X ++ Y) = wy l X + dst (rd_T31 l (lst X)) (rd_T31 l (hd Y)) + wy l Y
  | [], h => absurd rfl h
  | [a], _ => by
    cases Y with
    | nil => exact absurd rfl hY
    | cons b t =>
      show dst (rd_T31 l a) (rd_T31 l b) + wy l (b :: t) = 0 + _ + _
      have : lst [a] = a := rfl
      rw [this, hd_cons]
      omega
  | a :: b :: t, _ => by
    have ih := wy_join l Y hY (b :: t) (by simp)
    rw [lst_cons]
    show dst (rd_T31 l a) (rd_T31 l b) + wy l (b :: t ++ Y) = dst (rd_T31 l a) (rd_T31 l b) + wy l (b :: t) + _ + _
    rw [ih]
    omega
theorem lst_rev : ∀ X : List Int, ¬ X = [] → lst X.reverse = hd X
  | [], h => absurd rfl h
  | a :: t, _ => by rw [List.reverse_cons, lst_snoc]; rfl
theorem hd_rev (X : List Int) (h : ¬ X = []) : hd X.reverse = lst X := by
  have := lst_rev X.reverse (by simpa using h)
  rw [List.reverse_reverse] at this
  exact this.symm
theorem wy_rev (l : List S31) : ∀ X : List Int, wy l X.reverse = wy l X
  | [] => rfl
  | [a] => rfl
  | a :: b :: t => by
    have ih := wy_rev l (b :: t)
    rw [List.reverse_cons, wy_join l [a] (by simp) _ (by simp), ih, lst_rev _ (by simp), hd_cons, hd_cons]
    show wy l (b :: t) + dst (rd_T31 l b) (rd_T31 l a) + 0 = dst (rd_T31 l a) (rd_T31 l b) + wy l (b :: t)
    rw [dst_symm (rd_T31 l b) (rd_T31 l a)]
    omega
/-- By how much the reversal of S between A and B shortens. -/
def gap3 (l : List S31) (A S B : List Int) : Int :=
  if B = [] then dst (rd_T31 l (lst A)) (rd_T31 l (hd S)) - dst (rd_T31 l (lst A)) (rd_T31 l (lst S))
  else dst (rd_T31 l (lst A)) (rd_T31 l (hd S)) + dst (rd_T31 l (lst S)) (rd_T31 l (hd B)) - (dst (rd_T31 l (lst A)) (rd_T31 l (lst S)) + dst (rd_T31 l (hd S)) (rd_T31 l (hd B)))
theorem lst_app (X Y : List Int) (h : ¬ Y = []) : lst (X ++ Y) = lst Y := by
  have hl : 0 < Y.length := List.length_pos_iff.2 h
  unfold lst
  rw [rd_app, if_neg (by rw [List.length_append]; omega), List.length_append, show X.length + Y.length - 1 - X.length = Y.length - 1 by omega]
theorem gap3_eq (l : List S31) (A S B : List Int) (hA : ¬ A = []) (hS : ¬ S = []) : wy l (A ++ S ++ B) - wy l (A ++ S.reverse ++ B) = gap3 l A S B := by
  have hR : ¬ S.reverse = [] := by simpa using hS
  have hAS : ¬ A ++ S = [] := by simp [hA]
  have hAR : ¬ A ++ S.reverse = [] := by simp [hA]
  unfold gap3
  by_cases hB : B = []
  · subst hB
    rw [if_pos rfl, List.append_nil, List.append_nil, wy_join l S hS A hA, wy_join l _ hR A hA, wy_rev, hd_rev S hS]
    omega
  · rw [if_neg hB, wy_join l B hB _ hAS, wy_join l B hB _ hAR, wy_join l S hS A hA, wy_join l _ hR A hA, wy_rev, hd_rev S hS, lst_app A S hS, lst_app A _ hR, lst_rev S hS]
    omega
/-! ### Reversals -/
theorem cut_ends : ∀ S : List Int, 2 ≤ S.length → ∃ x M y, S = x :: (M ++ [y])
  | [], h => by simp at h
  | [_], h => by simp at h
  | x :: b :: t, _ => ⟨x, (b :: t).dropLast, (b :: t).getLast (by simp), by rw [List.dropLast_concat_getLast]⟩
theorem swap_eq (A B M : List Int) (x y : Int) : ((A ++ (x :: (M ++ [y])) ++ B).set A.length y).set (A.length + M.length + 1) x = (A ++ [y]) ++ M ++ (x :: B) := by
  have e1 : A ++ (x :: (M ++ [y])) ++ B = A ++ x :: (M ++ [y] ++ B) := by simp
  rw [e1, set_at]
  have e2 : A ++ y :: (M ++ [y] ++ B) = (A ++ [y] ++ M) ++ y :: B := by simp
  have e3 : A.length + M.length + 1 = (A ++ [y] ++ M).length := by simp; omega
  rw [e2, e3, set_at]
theorem trev_ev (a m : Nat) (hm : m ≤ 1000) (n : Nat) : ∀ (A S B : List Int) (x2 : Int), S.length ≤ n → 0 ≤ x2 → (a : Int) + x2 = (A.length : Int) → x2 + (S.length : Int) - 1 < (m : Int) → Ev (fun k => tour_rev.l0 a m k (A ++ S ++ B) x2 (x2 + (S.length : Int) - 1)) (A ++ S.reverse ++ B) := by
  induction n using Nat.strongRecOn with
  | _ n ih =>
  intro A S B x2 hn h0 ha hm2
  by_cases hs : S.length ≤ 1
  · have : S.reverse = S := by
      cases S with
      | nil => rfl
      | cons x t =>
        have : t = [] := by simp only [List.length_cons] at hs; exact List.eq_nil_of_length_eq_zero (by omega)
        rw [this]; rfl
    rw [this]
    exact ev_end (fun k => by simp only [tour_rev.l0]; rw [if_neg (by omega)])
  · obtain ⟨x, M, y, rfl⟩ := cut_ends S (by omega)
    have hl : (x :: (M ++ [y])).length = M.length + 2 := by simp
    rw [hl] at hn hm2 hs ⊢
    have hi := ih M.length (by omega) (A ++ [y]) M (x :: B) (x2 + 1) (Nat.le_refl _) (by omega) (by simp; omega) (by omega)
    have hrev : A ++ (x :: (M ++ [y])).reverse ++ B = (A ++ [y]) ++ M.reverse ++ (x :: B) := by simp
    rw [hrev]
    refine Ev.step (fun k => ?_) hi
    simp only [tour_rev.l0]
    have w1 : wrap64 (x2 + 1) = x2 + 1 := wrap_mid _ (by omega) (by omega)
    have w2 : wrap64 (x2 + ((M.length + 2 : Nat) : Int) - 1 - 1) = x2 + 1 + (M.length : Int) - 1 := by rw [wrap_mid _ (by omega) (by omega)]; omega
    have t1 : ((a : Int) + x2).toNat = A.length := by omega
    have t2 : ((a : Int) + (x2 + ((M.length + 2 : Nat) : Int) - 1)).toNat = A.length + M.length + 1 := by omega
    have r1 : rd (A ++ (x :: (M ++ [y])) ++ B) ((a : Int) + x2) = x := by
      rw [ha, show A ++ (x :: (M ++ [y])) ++ B = A ++ x :: (M ++ [y] ++ B) by simp, rd_at]
    have r2 : rd (A ++ (x :: (M ++ [y])) ++ B) ((a : Int) + (x2 + ((M.length + 2 : Nat) : Int) - 1)) = y := by
      have e : (a : Int) + (x2 + ((M.length + 2 : Nat) : Int) - 1) = ((A ++ x :: M).length : Int) := by simp; omega
      rw [e, show A ++ (x :: (M ++ [y])) ++ B = (A ++ x :: M) ++ y :: B by simp, rd_at]
    rw [if_pos (by omega), if_pos h0, if_pos (by omega), r1, r2, t1, t2, swap_eq, w1, w2]
theorem rrev_ev (n : Nat) : ∀ (A S B : List Int), S.length ≤ n → (A ++ S ++ B).length ≤ 1000 → Ev (fun k => swarfref38_Reversed.l0 k (A.length : Int) ((A.length : Int) + (S.length : Int) - 1) (A ++ S ++ B)) (A ++ S.reverse ++ B) := by
  induction n using Nat.strongRecOn with
  | _ n ih =>
  intro A S B hn hlen
  by_cases hs : S.length ≤ 1
  · have : S.reverse = S := by
      cases S with
      | nil => rfl
      | cons x t =>
        have : t = [] := by simp only [List.length_cons] at hs; exact List.eq_nil_of_length_eq_zero (by omega)
        rw [this]; rfl
    rw [this]
    exact ev_end (fun k => by simp only [swarfref38_Reversed.l0]; rw [if_neg (by omega)])
  · obtain ⟨x, M, y, rfl⟩ := cut_ends S (by omega)
    have hl : (x :: (M ++ [y])).length = M.length + 2 := by simp
    have hall : (A ++ (x :: (M ++ [y])) ++ B).length = A.length + (M.length + 2) + B.length := by simp only [List.length_append, hl]
    rw [hall] at hlen
    rw [hl] at hn hs ⊢
    have hi := ih M.length (by omega) (A ++ [y]) M (x :: B) (Nat.le_refl _) (by simp; omega)
    have hrev : A ++ (x :: (M ++ [y])).reverse ++ B = (A ++ [y]) ++ M.reverse ++ (x :: B) := by simp
    rw [hrev]
    refine Ev.step (fun k => ?_) hi
    simp only [swarfref38_Reversed.l0]
    have w1 : wrap64 ((A.length : Int) + 1) = ((A ++ [y]).length : Int) := by rw [wrap_mid _ (by omega) (by omega)]; simp
    have w2 : wrap64 ((A.length : Int) + ((M.length + 2 : Nat) : Int) - 1 - 1) = ((A ++ [y]).length : Int) + (M.length : Int) - 1 := by rw [wrap_mid _ (by omega) (by omega)]; simp; omega
    have t1 : ((A.length : Int)).toNat = A.length := by omega
    have t2 : ((A.length : Int) + ((M.length + 2 : Nat) : Int) - 1).toNat = A.length + M.length + 1 := by omega
    have r1 : rd (A ++ (x :: (M ++ [y])) ++ B) (A.length : Int) = x := by
      rw [show A ++ (x :: (M ++ [y])) ++ B = A ++ x :: (M ++ [y] ++ B) by simp, rd_at]
    have r2 : rd (A ++ (x :: (M ++ [y])) ++ B) ((A.length : Int) + ((M.length + 2 : Nat) : Int) - 1) = y := by
      have e : (A.length : Int) + ((M.length + 2 : Nat) : Int) - 1 = ((A ++ x :: M).length : Int) := by simp; omega
      rw [e, show A ++ (x :: (M ++ [y])) ++ B = (A ++ x :: M) ++ y :: B by simp, rd_at]
    rw [if_pos (by omega), if_pos (by omega), if_pos (by rw [hall]; omega), if_pos (by omega), if_pos (by rw [hall]; omega), r1, r2, t1, t2, swap_eq, w1, w2]
/-! ### Parts of an order -/
def pA (o : List Int) (i : Nat) : List Int := o.take i
def pS (o : List Int) (i j : Nat) : List Int := (o.drop i).take (j + 1 - i)
def pB (o : List Int) (j : Nat) : List Int := o.drop (j + 1)
theorem parts (o : List Int) (i j : Nat) (h1 : i ≤ j) (h2 : j < o.length) : pA o i ++ pS o i j ++ pB o j = o ∧ (pA o i).length = i ∧ (pS o i j).length = j + 1 - i ∧ (pB o j).length = o.length - (j + 1) := by
  unfold pA pS pB
  refine ⟨?_, by rw [List.length_take]; omega, by rw [List.length_take, List.length_drop]; omega, List.length_drop⟩
  have e : o.drop (j + 1) = (o.drop i).drop (j + 1 - i) := by rw [List.drop_drop]; congr 1; omega
  rw [e, List.append_assoc, List.take_append_drop, List.take_append_drop]
/-- The order with the numbers from place i to j reversed. -/
def rvo (o : List Int) (i j : Nat) : List Int := pA o i ++ (pS o i j).reverse ++ pB o j
theorem rvo_perm (o : List Int) (i j : Nat) (h1 : i ≤ j) (h2 : j < o.length) : (rvo o i j).Perm o := by
  obtain ⟨e, _⟩ := parts o i j h1 h2
  conv => rhs; rw [← e]
  unfold rvo
  exact ((List.reverse_perm (pS o i j)).append_left (pA o i)).append_right (pB o j)
theorem rvo_hd (o : List Int) (i j : Nat) (h0 : 1 ≤ i) (h1 : i ≤ j) (h2 : j < o.length) : rd (rvo o i j) 0 = rd o 0 := by
  obtain ⟨e, la, _⟩ := parts o i j h1 h2
  have a1 := rd_app (pA o i) ((pS o i j).reverse ++ pB o j) 0
  have a2 := rd_app (pA o i) (pS o i j ++ pB o j) 0
  rw [if_pos (by omega)] at a1 a2
  unfold rvo
  rw [List.append_assoc]
  conv => rhs; rw [← e, List.append_assoc]
  exact a1.trans a2.symm
def gn (l : List S31) (o : List Int) (i j : Nat) : Int := wy l o - wy l (rvo o i j)
theorem gn_eq (l : List S31) (o : List Int) (i j : Nat) (h0 : 1 ≤ i) (h1 : i ≤ j) (h2 : j < o.length) :
    gn l o i j = if ((j : Int) + 1) < (o.length : Int) then dst (rd_T31 l (rd o ((i : Int) - 1))) (rd_T31 l (rd o (i : Int))) + dst (rd_T31 l (rd o (j : Int))) (rd_T31 l (rd o ((j : Int) + 1))) - (dst (rd_T31 l (rd o ((i : Int) - 1))) (rd_T31 l (rd o (j : Int))) + dst (rd_T31 l (rd o (i : Int))) (rd_T31 l (rd o ((j : Int) + 1)))) else dst (rd_T31 l (rd o ((i : Int) - 1))) (rd_T31 l (rd o (i : Int))) - dst (rd_T31 l (rd o ((i : Int) - 1))) (rd_T31 l (rd o (j : Int))) := by
  obtain ⟨e, la, ls, lb⟩ := parts o i j h1 h2
  have hA : ¬ pA o i = [] := fun h => by rw [h] at la; simp at la; omega
  have hS : ¬ pS o i j = [] := fun h => by rw [h] at ls; simp at ls; omega
  have g := gap3_eq l (pA o i) (pS o i j) (pB o j) hA hS
  unfold gn rvo
  have eo : wy l o = wy l (pA o i ++ pS o i j ++ pB o j) := by rw [e]
  rw [eo, g]
  have ea : lst (pA o i) = rd o ((i : Int) - 1) := by
    have := rd_app (pA o i) (pS o i j ++ pB o j) (i - 1)
    rw [← List.append_assoc, e, if_pos (by omega)] at this
    unfold lst
    rw [la, ← this]
    congr 1
    omega
  have es : hd (pS o i j) = rd o (i : Int) := by
    have := rd_app (pA o i) (pS o i j ++ pB o j) i
    rw [← List.append_assoc, e, if_neg (by omega), la, Nat.sub_self, rd_app, if_pos (by omega)] at this
    exact this.symm
  have ez : lst (pS o i j) = rd o (j : Int) := by
    have := rd_app (pA o i) (pS o i j ++ pB o j) j
    rw [← List.append_assoc, e, if_neg (by omega), la, rd_app, if_pos (by omega)] at this
    unfold lst
    rw [this, ls]
    congr 1
    omega
  unfold gap3
  rw [ea, es, ez]
  by_cases hB : pB o j = []
  · rw [if_pos hB, if_neg]
    rw [hB] at lb
    simp at lb
    omega
  · have lb0 : 0 < (pB o j).length := List.length_pos_iff.2 hB
    have eb : hd (pB o j) = rd o ((j : Int) + 1) := by
      have := rd_app (pA o i ++ pS o i j) (pB o j) (j + 1)
      rw [e, if_neg (by rw [List.length_append]; omega), List.length_append, la, ls, show j + 1 - (i + (j + 1 - i)) = 0 by omega] at this
      exact this.symm
    rw [if_neg hB, if_pos (by omega), eb]
theorem gain_some {l : List S31} (hv : l.all okp = true) (o : List Int) (hl : o.length ≤ 1000) (hr : ∀ x ∈ o, 0 ≤ x ∧ x < (l.length : Int)) (i j : Nat) (h0 : 1 ≤ i) (h1 : i ≤ j) (h2 : j < o.length) : tour_gain.f l o (i : Int) (j : Int) = some (gn l o i j) := by
  have wi : wrap64 ((i : Int) - 1) = (i : Int) - 1 := wrap_mid _ (by omega) (by omega)
  have wj : wrap64 ((j : Int) + 1) = (j : Int) + 1 := wrap_mid _ (by omega) (by omega)
  have m1 := hr _ (rd_mem (o := o) (i := (i : Int) - 1) (by omega) (by omega))
  have m2 := hr _ (rd_mem (o := o) (i := (i : Int)) (by omega) (by omega))
  have m3 := hr _ (rd_mem (o := o) (i := (j : Int)) (by omega) (by omega))
  have k1 := ok_at hv _ m1.1 m1.2
  have k2 := ok_at hv _ m2.1 m2.2
  have k3 := ok_at hv _ m3.1 m3.2
  have b1 := dst_nonneg (rd_T31 l (rd o ((i : Int) - 1))) (rd_T31 l (rd o (i : Int)))
  have b2 := dst_le k1 k2
  have b3 := dst_nonneg (rd_T31 l (rd o ((i : Int) - 1))) (rd_T31 l (rd o (j : Int)))
  have b4 := dst_le k1 k3
  rw [gn_eq l o i j h0 h1 h2]
  unfold tour_gain.f
  rw [wi, wj, if_pos (by omega), if_pos (by omega), if_pos m1.1, if_pos m1.2, if_pos (by omega), if_pos (by omega), if_pos m2.1, if_pos m2.2, dist_eq k1 k2]
  simp only [Option.bind_some]
  rw [if_pos (by omega), if_pos (by omega), if_pos m3.1, if_pos m3.2, dist_eq k1 k3]
  simp only [Option.bind_some]
  by_cases h : (j : Int) + 1 < (o.length : Int)
  · have m4 := hr _ (rd_mem (o := o) (i := (j : Int) + 1) (by omega) h)
    have k4 := ok_at hv _ m4.1 m4.2
    have b5 := dst_nonneg (rd_T31 l (rd o (j : Int))) (rd_T31 l (rd o ((j : Int) + 1)))
    have b6 := dst_le k3 k4
    have b7 := dst_nonneg (rd_T31 l (rd o (i : Int))) (rd_T31 l (rd o ((j : Int) + 1)))
    have b8 := dst_le k2 k4
    rw [if_pos h, if_pos h]
    rw [if_pos (by omega), if_pos m4.1, if_pos m4.2, dist_eq k3 k4, dist_eq k2 k4]
    simp only [Option.bind_some]
    rw [wrap_mid (_ + _) (by omega) (by omega), wrap_mid (_ + _) (by omega) (by omega), wrap_mid _ (by omega) (by omega)]
  · rw [if_neg h, if_neg h, wrap_mid _ (by omega) (by omega)]
end Go.Proofs.Ytohjocajaanhaaa.B

/- Improve ends, with an order that is not longer and that no reversal shortens. Plain numbers and lists. -/

namespace Go.Proofs.Ytohjocajaanhaaa.B
open Go.RowKit Go.Proofs.Ytohjocajaanhaaa.P Go.Proofs.YtohjocajaanhaaaW.PrintWords Go.Proofs.YtohjocajaanhaaaW.PrintLast Go.Proofs.YtohjocajaanhaaaW.PrintMore
set_option linter.unusedVariables false
set_option linter.unusedSimpArgs false
/-- An order of all positions. -/
structure Ord (l : List S31) (o : List Int) : Prop where
  len : o.length = l.length
  rg : ∀ x ∈ o, 0 ≤ x ∧ x < (l.length : Int)
  nd : o.Nodup
  h0 : l.length = 0 ∨ rd o 0 = 0
theorem Ord.of {l : List S31} {o : List Int} (h : isOrd l.length o = true) : Ord l o := by
  obtain ⟨a, b, c, d⟩ := isOrd_spec h
  exact ⟨a, c, d, b⟩
theorem Ord.isOrd {l : List S31} {o : List Int} (h : Ord l o) : isOrd l.length o = true := isOrd_of h.len h.h0 h.rg h.nd
theorem Ord.rvo {l : List S31} {o : List Int} (h : Ord l o) {i j : Nat} (h0 : 1 ≤ i) (h1 : i ≤ j) (h2 : j < o.length) : Ord l (rvo o i j) := by
  have hp := rvo_perm o i j h1 h2
  refine ⟨by rw [hp.length_eq]; exact h.len, fun x hx => h.rg x (hp.mem_iff.1 hx), hp.symm.nodup h.nd, ?_⟩
  rw [rvo_hd o i j h0 h1 h2]
  exact h.h0
/-- No reversal shortens. -/
def Loc (l : List S31) (o : List Int) : Prop := ∀ i j : Nat, 1 ≤ i → i < j → j < o.length → gn l o i j ≤ 0
/-- The state of a sweep over o0. -/
def SwI (l : List S31) (o0 o : List Int) (ag : Bool) : Prop := Ord l o ∧ (ag = false → o = o0) ∧ (ag = true → wy l o < wy l o0)
/-- What the sweep has looked at. -/
def Seen (l : List S31) (o0 : List Int) (i j : Nat) : Prop := ∀ i' j' : Nat, 1 ≤ i' → i' < j' → j' < o0.length → (i' < i ∨ (i' = i ∧ j' < j)) → gn l o0 i' j' ≤ 0
theorem imp_l2 {l : List S31} (hv : l.all okp = true) (hn : l.length ≤ 200) (o0 : List Int) (h00 : o0.length = l.length) (i : Nat) (hi : 1 ≤ i) (hil : i < l.length) (Post : List Int → Prop)
    (hk : ∀ o ag, SwI l o0 o ag → (ag = false → Seen l o0 (i + 1) 0) → EvP (fun k => tour_imp.l1 k l o ag ((i + 1 : Nat) : Int)) Post) (d : Nat) :
    ∀ (j : Nat) (o : List Int) (ag : Bool), i < j → l.length ≤ j + d → SwI l o0 o ag → (ag = false → Seen l o0 i j) → EvP (fun k => tour_imp.l2 k l o ag (i : Int) (j : Int)) Post := by
  have hwi : wrap64 ((i : Int) + 1) = ((i + 1 : Nat) : Int) := by rw [wrap_mid _ (by omega) (by omega)]; omega
  have stop : ∀ (j : Nat) (o : List Int) (ag : Bool), l.length ≤ j → SwI l o0 o ag → (ag = false → Seen l o0 i j) → EvP (fun k => tour_imp.l2 k l o ag (i : Int) (j : Int)) Post := by
    intro j o ag hj hs hseen
    have hlen := hs.1.len
    refine EvP.step (fun k => ?_) (hk o ag hs (fun ha => fun i' j' a b c hor => ?_))
    · simp only [tour_imp.l2]
      rw [if_neg (by omega), hwi]
    · exact hseen ha i' j' a b c (by omega)
  induction d with
  | zero => intro j o ag _ hj hs hseen; exact stop j o ag (by omega) hs hseen
  | succ d ih =>
    intro j o ag hij hj hs hseen
    by_cases hjl : l.length ≤ j
    · exact stop j o ag hjl hs hseen
    · have hlen := hs.1.len
      have hwj : wrap64 ((j : Int) + 1) = ((j + 1 : Nat) : Int) := by rw [wrap_mid _ (by omega) (by omega)]; omega
      have hg := gain_some hv o (by omega) hs.1.rg i j hi (by omega) (by omega)
      by_cases hpos : gn l o i j > 0
      · have hrev : Ev (fun k => tour_rev.l0 ((i : Int)).toNat ((j : Int) + 1 - (i : Int)).toNat k o 0 (wrap64 ((((j : Int) + 1 - (i : Int)).toNat : Int) - 1))) (rvo o i j) := by
          obtain ⟨e, la, ls, lb⟩ := parts o i j (by omega) (by omega)
          have := trev_ev i (j + 1 - i) (by omega) (pS o i j).length (pA o i) (pS o i j) (pB o j) 0 (Nat.le_refl _) (by omega) (by omega) (by omega)
          rw [e] at this
          have e1 : ((i : Int)).toNat = i := by omega
          have e2 : ((j : Int) + 1 - (i : Int)).toNat = j + 1 - i := by omega
          have e3 : wrap64 (((j + 1 - i : Nat) : Int) - 1) = 0 + ((pS o i j).length : Int) - 1 := by rw [wrap_mid _ (by omega) (by omega), ls]; omega
          simp only [e1, e2, e3]
          exact this
        have hw : wy l (rvo o i j) < wy l o := by unfold gn at hpos; omega
        have hwo : wy l o ≤ wy l o0 := by
          cases ag with
          | true => have := hs.2.2 rfl; omega
          | false => rw [hs.2.1 rfl]; exact Int.le_refl _
        refine EvP.step (f := fun k => (tour_rev.l0 ((i : Int)).toNat ((j : Int) + 1 - (i : Int)).toNat k o 0 (wrap64 ((((j : Int) + 1 - (i : Int)).toNat : Int) - 1))).bind fun o2 => tour_imp.l2 k l o2 true (i : Int) ((j + 1 : Nat) : Int)) (fun k => ?_) (EvP.bind hrev ?_)
        · simp only [tour_imp.l2]
          rw [if_pos (by omega), hg]
          simp only [Option.bind_some]
          rw [if_pos hpos, if_pos (by omega), if_pos (by omega), hwj]
        · exact ih (j + 1) (rvo o i j) true (by omega) (by omega) ⟨hs.1.rvo hi (by omega) (by omega), fun h => (by cases h), fun _ => by omega⟩ (fun h => by cases h)
      · refine EvP.step (fun k => ?_) (ih (j + 1) o ag (by omega) (by omega) hs (fun ha => fun i' j' a b c hor => ?_))
        · simp only [tour_imp.l2]
          rw [if_pos (by omega), hg]
          simp only [Option.bind_some]
          rw [if_neg hpos, hwj]
        · by_cases he : i' = i ∧ j' = j
          · rw [he.1, he.2, ← hs.2.1 ha]; omega
          · exact hseen ha i' j' a b c (by omega)
theorem imp_l1 {l : List S31} (hv : l.all okp = true) (hn : l.length ≤ 200) (o0 : List Int) (h00 : o0.length = l.length) (Post : List Int → Prop)
    (hk : ∀ o ag, SwI l o0 o ag → (ag = false → Loc l o0) → EvP (fun k => tour_imp.l0 k l o ag) Post) (d : Nat) :
    ∀ (i : Nat) (o : List Int) (ag : Bool), 1 ≤ i → l.length ≤ i + d → SwI l o0 o ag → (ag = false → Seen l o0 i 0) → EvP (fun k => tour_imp.l1 k l o ag (i : Int)) Post := by
  have stop : ∀ (i : Nat) (o : List Int) (ag : Bool), l.length ≤ i → SwI l o0 o ag → (ag = false → Seen l o0 i 0) → EvP (fun k => tour_imp.l1 k l o ag (i : Int)) Post := by
    intro i o ag hi hs hseen
    have hlen := hs.1.len
    refine EvP.step (fun k => ?_) (hk o ag hs (fun ha => fun i' j' a b c => hseen ha i' j' a b c (by omega)))
    simp only [tour_imp.l1]
    rw [if_neg (by omega)]
  induction d with
  | zero => intro i o ag _ hi hs hseen; exact stop i o ag (by omega) hs hseen
  | succ d ih =>
    intro i o ag hi1 hi hs hseen
    by_cases hil : l.length ≤ i
    · exact stop i o ag hil hs hseen
    · have hlen := hs.1.len
      have hwi : wrap64 ((i : Int) + 1) = ((i + 1 : Nat) : Int) := by rw [wrap_mid _ (by omega) (by omega)]; omega
      refine EvP.step (f := fun k => tour_imp.l2 k l o ag (i : Int) ((i + 1 : Nat) : Int)) (fun k => ?_) ?_
      · simp only [tour_imp.l1]
        rw [if_pos (by omega), if_pos (by omega), hwi]
      · exact imp_l2 hv hn o0 h00 i hi1 (by omega) Post (fun o' ag' hs' hseen' => ih (i + 1) o' ag' (by omega) (by omega) hs' hseen') l.length (i + 1) o ag (by omega) (by omega) hs (fun ha => fun i' j' a b c hor => hseen ha i' j' a b c (by omega))
theorem imp_l0 {l : List S31} (hv : l.all okp = true) (hn : l.length ≤ 200) (m : Nat) : ∀ o : List Int, Ord l o → (wy l o).toNat ≤ m → EvP (fun k => tour_imp.l0 k l o true) (fun r => Ord l r ∧ wy l r ≤ wy l o ∧ Loc l r) := by
  induction m using Nat.strongRecOn with
  | _ m ih =>
  intro o ho hm
  have hw0 := wy_nonneg l o
  refine EvP.step (f := fun k => tour_imp.l1 k l o false ((1 : Nat) : Int)) (fun k => ?_) ?_
  · simp only [tour_imp.l0]
    rfl
  · refine imp_l1 hv hn o ho.len _ (fun o' ag hs hloc => ?_) l.length 1 o false (Nat.le_refl _) (by omega) ⟨ho, fun _ => rfl, fun h => (by cases h)⟩ (fun _ => fun i' j' a b c hor => by omega)
    cases ag with
    | true =>
      have hlt := hs.2.2 rfl
      have hw1 := wy_nonneg l o'
      obtain ⟨r, h1, h2, h3, h4⟩ := ih (wy l o').toNat (by omega) o' hs.1 (Nat.le_refl _)
      exact ⟨r, h1, h2, by omega, h4⟩
    | false =>
      have he := hs.2.1 rfl
      refine EvP.stop o' (fun k => by simp only [tour_imp.l0]; rw [if_neg (by decide)]) ⟨hs.1, by rw [he]; exact Int.le_refl _, by rw [he]; exact hloc rfl⟩
/-- What Improve answers. -/
theorem Improve_ev (l : List S31) (o : List Int) (hn : l.length ≤ 1000) : EvP (fun k => tour_Improve.f k l o) (fun r => (lenE l o).2 = r.2 ∧ (¬ r.2 = 0 → r.1 = []) ∧ (r.2 = 0 → Ord l r.1 ∧ wy l r.1 ≤ wy l o ∧ Loc l r.1)) := by
  unfold tour_Improve.f lenE
  by_cases hc : chkE l 200 = 0
  · obtain ⟨c1, c2⟩ := chkE_zero hc
    rw [if_pos hc]
    refine EvP.bind (check_ev l 200 hn) ?_
    simp only [if_pos hc]
    refine EvP.bind (isOrder_ev l.length hn o) ?_
    by_cases ho : isOrd l.length o = true
    · have hO := Ord.of ho
      have := hO.len
      simp only [if_pos ho, if_pos (show o.length < 1000 by omega)]
      refine EvP.bindP (imp_l0 c2 (by omega) _ o hO (Nat.le_refl _)) (fun r hr => ?_)
      exact ⟨(r, 0), Ev.now _, rfl, fun h => absurd rfl h, fun _ => hr⟩
    · simp only [if_neg ho]
      exact ⟨([], 1), Ev.now _, rfl, fun _ => rfl, fun h => (by cases h)⟩
  · rw [if_neg hc]
    refine EvP.bind (check_ev l 200 hn) ?_
    simp only [if_neg hc]
    exact ⟨([], chkE l 200), Ev.now _, rfl, fun _ => rfl, fun h => absurd h hc⟩
/-! ### The reference's Local -/
theorem Reversed_ev (o : List Int) (hl : o.length ≤ 1000) (i j : Nat) (h1 : i ≤ j) (h2 : j < o.length) : Ev (fun k => swarfref38_Reversed.f k o (i : Int) (j : Int)) (rvo o i j) := by
  obtain ⟨e, la, ls, lb⟩ := parts o i j h1 h2
  unfold swarfref38_Reversed.f
  have hA : o.length < 17592186044416 := by omega
  simp only [Option.bind_some, List.length_nil, List.nil_append, Nat.zero_add, if_pos hA]
  have := rrev_ev (pS o i j).length (pA o i) (pS o i j) (pB o j) (Nat.le_refl _) (by rw [e]; exact hl)
  rw [e, la, ls] at this
  have ej : (i : Int) + ((j + 1 - i : Nat) : Int) - 1 = (j : Int) := by omega
  rw [ej] at this
  exact this
theorem local_l1 {l : List S31} (hv : l.all okp = true) (hn : l.length ≤ 200) (o : List Int) (ho : Ord l o) (hloc : Loc l o) (i : Nat) (hi : 1 ≤ i) (hil : i < l.length) (hk : Ev (fun k => swarfref38_Local.l0 k l o (wy l o) ((i + 1 : Nat) : Int)) true) (d : Nat) :
    ∀ j : Nat, i < j → l.length ≤ j + d → Ev (fun k => swarfref38_Local.l1 k l o (wy l o) (i : Int) (j : Int)) true := by
  have hlen := ho.len
  have hwi : wrap64 ((i : Int) + 1) = ((i + 1 : Nat) : Int) := by rw [wrap_mid _ (by omega) (by omega)]; omega
  induction d with
  | zero =>
    intro j hij hj
    refine Ev.step (fun k => ?_) hk
    simp only [swarfref38_Local.l1]
    rw [if_neg (by omega), hwi]
  | succ d ih =>
    intro j hij hj
    by_cases hjl : l.length ≤ j
    · refine Ev.step (fun k => ?_) hk
      simp only [swarfref38_Local.l1]
      rw [if_neg (by omega), hwi]
    · have hwj : wrap64 ((j : Int) + 1) = ((j + 1 : Nat) : Int) := by rw [wrap_mid _ (by omega) (by omega)]; omega
      have hg := hloc i j hi hij (by omega)
      unfold gn at hg
      have hO := ho.rvo hi (show i ≤ j by omega) (by omega)
      refine Ev.step (f := fun k => (swarfref38_Reversed.f k o (i : Int) (j : Int)).bind fun t => (swarfref38_way.f k l t).bind fun u => if u < wy l o then some false else swarfref38_Local.l1 k l o (wy l o) (i : Int) ((j + 1 : Nat) : Int)) (fun k => ?_) (Ev.bind (Reversed_ev o (by omega) i j (by omega) (by omega)) (Ev.bind (length_ev l hv (rvo o i j) (by rw [hO.len]; omega) hO.rg).2 ?_))
      · simp only [swarfref38_Local.l1]
        rw [if_pos (by omega), hwj]
      · simp only [if_neg (show ¬ wy l (rvo o i j) < wy l o by omega)]
        exact ih (j + 1) (by omega) (by omega)
theorem local_l0 {l : List S31} (hv : l.all okp = true) (hn : l.length ≤ 200) (o : List Int) (ho : Ord l o) (hloc : Loc l o) (d : Nat) : ∀ i : Nat, 1 ≤ i → i ≤ 300 → 300 ≤ i + d → Ev (fun k => swarfref38_Local.l0 k l o (wy l o) (i : Int)) true := by
  have hlen := ho.len
  induction d with
  | zero =>
    intro i h1 h2 hi
    exact ev_end (fun k => by simp only [swarfref38_Local.l0]; rw [if_neg (by omega)])
  | succ d ih =>
    intro i h1 h2 hi
    by_cases hil : l.length ≤ i
    · exact ev_end (fun k => by simp only [swarfref38_Local.l0]; rw [if_neg (by omega)])
    · have hwi : wrap64 ((i : Int) + 1) = ((i + 1 : Nat) : Int) := by rw [wrap_mid _ (by omega) (by omega)]; omega
      refine Ev.step (f := fun k => swarfref38_Local.l1 k l o (wy l o) (i : Int) ((i + 1 : Nat) : Int)) (fun k => ?_) (local_l1 hv hn o ho hloc i h1 (by omega) (ih (i + 1) (by omega) (by omega) (by omega)) l.length (i + 1) (by omega) (by omega))
      simp only [swarfref38_Local.l0]
      rw [if_pos (by omega), hwi]
theorem Local_ev {l : List S31} (hv : l.all okp = true) (hn : l.length ≤ 200) (o : List Int) (ho : Ord l o) (hloc : Loc l o) : Ev (fun k => swarfref38_Local.f k l o) true := by
  have := ho.len
  unfold swarfref38_Local.f
  exact Ev.bind (length_ev l hv o (by omega) ho.rg).2 (local_l0 hv hn o ho hloc 300 1 (by omega) (by omega) (by omega))
end Go.Proofs.Ytohjocajaanhaaa.B

/- The statement TourImprove, over plain numbers and lists. -/

namespace Go.Proofs.Ytohjocajaanhaaa.B
open Go.RowKit Go.Proofs.Ytohjocajaanhaaa.P Go.Proofs.YtohjocajaanhaaaW.PrintWords Go.Proofs.YtohjocajaanhaaaW.PrintLast Go.Proofs.YtohjocajaanhaaaW.PrintMore
set_option linter.unusedVariables false
set_option linter.unusedSimpArgs false
theorem lenE_zero {l : List S31} {o : List Int} (h : (lenE l o).2 = 0) : chkE l 200 = 0 := by
  unfold lenE at h
  split at h
  · assumption
  · exact h
theorem lenE_ord {l : List S31} {o : List Int} (hc : chkE l 200 = 0) (h : Ord l o) : lenE l o = (wy l o, 0) := by
  unfold lenE
  rw [if_pos hc, if_pos h.isOrd]
theorem lenE_wy {l : List S31} {o : List Int} (h : (lenE l o).2 = 0) : (lenE l o).1 = wy l o := by
  unfold lenE at h ⊢
  split at h
  · split at h
    · rename_i h1 h2
      rw [if_pos h1, if_pos h2]
    · exact absurd h (by decide)
  · rename_i h1
    exact absurd h h1
theorem improve_j1 (l : List S31) (o : List Int) (b : Bool) (hn : l.length ≤ 1000) : Ev (fun k => swarflaw38_TourImprove.j1 k l o (lenE l o).1 (lenE l o).2 b) true := by
  cases b with
  | true => exact ev_end (fun k => by simp only [swarflaw38_TourImprove.j1]; rfl)
  | false =>
    refine Ev.step (fun k => by simp only [swarflaw38_TourImprove.j1]; rw [if_neg (by decide)]) ?_
    obtain ⟨r, er, hr⟩ := Improve_ev l o hn
    refine Ev.bind er ?_
    obtain ⟨h1, h2, h3⟩ := hr
    by_cases he : r.2 = 0
    · have he' : (lenE l o).2 = 0 := h1.trans he
      obtain ⟨hO, hw, hL⟩ := h3 he
      have hc := lenE_zero he'
      obtain ⟨c1, c2⟩ := chkE_zero hc
      simp only [if_pos he', if_pos he]
      have := (Length_ev l r.1 hn).2
      rw [lenE_ord hc hO] at this
      refine Ev.bind this ?_
      rw [lenE_wy he']
      simp only [if_true, if_pos hw]
      exact Ev.bind (Local_ev c2 (by omega) r.1 hO hL) (Ev.now _)
    · have he' : ¬ (lenE l o).2 = 0 := fun h => he (h1.symm.trans h)
      simp only [if_neg he', if_pos h1.symm, h2 he]
      exact Ev.now _
theorem improve_j0 (l : List S31) (o : List Int) (b : Bool) (hb : b = false → l.length ≤ 1000) : Ev (fun k => swarflaw38_TourImprove.j0 k l o b) true := by
  cases b with
  | true =>
    refine Ev.step (f := fun k => (swarflaw38_awake.f k).bind fun t => some t) (fun k => by simp only [swarflaw38_TourImprove.j0]; rfl) ?_
    exact Ev.bind awake_ev (Ev.now _)
  | false =>
    have hn := hb rfl
    refine Ev.step (fun k => by simp only [swarflaw38_TourImprove.j0]; rw [if_neg (by decide)]) ?_
    refine Ev.bind (Length_ev l o hn).2 ?_
    by_cases h : (l.length : Int) > 12
    · simp only [if_pos h]
      exact improve_j1 l o _ hn
    · simp only [if_neg h]
      exact improve_j1 l o _ hn
theorem TourImprove (l : List S31) (o : List Int) : ∃ k, swarflaw38_TourImprove.f k l o = some true := by
  refine Ev.rounds (g := fun k => swarflaw38_TourImprove.f k l o) ?_
  unfold swarflaw38_TourImprove.f
  refine Ev.bind awake_ev ?_
  simp only [if_true]
  have key : ∀ b : Bool, (b = false → l.length ≤ 1000) → Ev (fun k => swarflaw38_TourImprove.j0 k l o b) true := improve_j0 l o
  have few : ∃ b, Ev (fun n => swarflaw38_few.f l 12) b := by
    unfold swarflaw38_few.f
    by_cases h1 : (l.length : Int) ≤ 12
    · simp only [if_pos h1]; exact ⟨_, Ev.now _⟩
    · simp only [if_neg h1]
      by_cases h2 : (l.length : Int) > 199
      · simp only [if_pos h2]; exact ⟨_, Ev.now _⟩
      · simp only [if_neg h2]; exact ⟨_, Ev.now _⟩
  obtain ⟨b, hb⟩ := few
  refine Ev.bind hb ?_
  cases b with
  | false =>
    simp only [Bool.false_eq_true, if_false]
    exact key _ (fun h => by cases h)
  | true =>
    simp only [if_true]
    by_cases h1 : (o.length : Int) > 205
    · simp only [if_pos h1]
      exact key _ (fun h => by cases h)
    · simp only [if_neg h1]
      by_cases h2 : (l.length : Int) > 200
      · simp only [if_pos h2]
        exact key _ (fun h => by
          have : (o.length : Int) = (l.length : Int) := by simpa using h
          omega)
      · simp only [if_neg h2]
        exact key _ (fun _ => by omega)
end Go.Proofs.Ytohjocajaanhaaa.B
