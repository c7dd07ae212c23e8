import Derived.Test.YtohjocajaanhaaaT7M21
import Derived.WalkSpells
import Derived.Test.YtohjocajaanhaaaT7M24
-- PRINTED by print.py (a twelfth state) out of the translation. Not trusted: Lean checks it.

namespace Go.Proofs.Ytohjocajaanhaaa.P
open Go.RowKit Go.Proofs.YtohjocajaanhaaaW.PrintWords Go.Proofs.YtohjocajaanhaaaW.PrintLast Go.Proofs.YtohjocajaanhaaaW.PrintMore
attribute [local go_sem] max2_int min2_int max_two min_two max_three min_three max_four min_four   -- for this text's walks alone
set_option linter.unusedVariables false
set_option linter.unusedSimpArgs false

/-! ### tour_gain: function 42 -/
def tour_gain.f (l0 : List (S31)) (l1 : List Int) (a2 : Int) (a3 : Int) : Option (Int) := if 0 ≤ (wrap64 (a2 - 1)) then (if (wrap64 (a2 - 1)) < (l1.length : Int) then (if 0 ≤ (rd l1 (wrap64 (a2 - 1))) then (if (rd l1 (wrap64 (a2 - 1))) < (l0.length : Int) then (if 0 ≤ a2 then (if a2 < (l1.length : Int) then (if 0 ≤ (rd l1 a2) then (if (rd l1 a2) < (l0.length : Int) then ((tour_Distance.f ((rd_T31 l0 (rd l1 (wrap64 (a2 - 1)))).f0) ((rd_T31 l0 (rd l1 (wrap64 (a2 - 1)))).f1) ((rd_T31 l0 (rd l1 a2)).f0) ((rd_T31 l0 (rd l1 a2)).f1)).bind fun t323 => (if 0 ≤ a3 then (if a3 < (l1.length : Int) then (if 0 ≤ (rd l1 a3) then (if (rd l1 a3) < (l0.length : Int) then ((tour_Distance.f ((rd_T31 l0 (rd l1 (wrap64 (a2 - 1)))).f0) ((rd_T31 l0 (rd l1 (wrap64 (a2 - 1)))).f1) ((rd_T31 l0 (rd l1 a3)).f0) ((rd_T31 l0 (rd l1 a3)).f1)).bind fun t328 => (if (wrap64 (a3 + 1)) < (l1.length : Int) then (if 0 ≤ (wrap64 (a3 + 1)) then (if 0 ≤ (rd l1 (wrap64 (a3 + 1))) then (if (rd l1 (wrap64 (a3 + 1))) < (l0.length : Int) then ((tour_Distance.f ((rd_T31 l0 (rd l1 a3)).f0) ((rd_T31 l0 (rd l1 a3)).f1) ((rd_T31 l0 (rd l1 (wrap64 (a3 + 1)))).f0) ((rd_T31 l0 (rd l1 (wrap64 (a3 + 1)))).f1)).bind fun t333 => ((tour_Distance.f ((rd_T31 l0 (rd l1 a2)).f0) ((rd_T31 l0 (rd l1 a2)).f1) ((rd_T31 l0 (rd l1 (wrap64 (a3 + 1)))).f0) ((rd_T31 l0 (rd l1 (wrap64 (a3 + 1)))).f1)).bind fun t338 => (some (wrap64 ((wrap64 (t323 + t333)) - (wrap64 (t328 + t338))))))) else (none)) else (none)) else (none)) else (some (wrap64 (t323 - t328))))) else (none)) else (none)) else (none)) else (none))) else (none)) else (none)) else (none)) else (none)) else (none)) else (none)) else (none)) else (none)
def tour_gain.T1 : Bool × List (List Nat × List Nat) := (true, [([], []), ([], []), ([], []), ([2], [2]), ([1, 3], [1, 3]), ([4], [4]), ([0, 5], [0, 5]), ([6], [6]), ([], []), ([], []), ([], []), ([9, 10], [9, 10]), ([11], [11]), ([8, 12], [8, 12]), ([13], [13]), ([7, 14], [7, 14]), ([15, 15, 0, 1, 2, 3, 4, 5, 6, 7, 8, 9, 10, 11, 12, 13, 14, 15], [15])])
def tour_gain.B1 : List Nat := [0, 0, 0, 4, 14, 30, 63, 127, 0, 0, 0, 1536, 3584, 7936, 16128, 32767, 65535]
theorem tour_gain.tab1 : rtab .any (opsOf Try.f42 1) = tour_gain.T1 := by kernel_rfl
theorem tour_gain.bits1 : waitsOk tour_gain.T1.2 tour_gain.B1 = true := by kernel_rfl
def tour_gain.T2 : Bool × List (List Nat × List Nat) := (true, [([], []), ([], []), ([], []), ([2], [2]), ([1, 3], [1, 3]), ([4], [4]), ([0, 5], [0, 5]), ([6], [6]), ([], []), ([], []), ([], []), ([9, 10], [9, 10]), ([11], [11]), ([8, 12], [8, 12]), ([13], [13]), ([7, 14], [7, 14]), ([15, 15, 0, 1, 2, 3, 4, 5, 6, 7, 8, 9, 10, 11, 12, 13, 14, 15], [15])])
def tour_gain.B2 : List Nat := [0, 0, 0, 4, 14, 30, 63, 127, 0, 0, 0, 1536, 3584, 7936, 16128, 32767, 65535]
theorem tour_gain.tab2 : rtab .any (opsOf Try.f42 2) = tour_gain.T2 := by kernel_rfl
theorem tour_gain.bits2 : waitsOk tour_gain.T2.2 tour_gain.B2 = true := by kernel_rfl
def tour_gain.T4 : Bool × List (List Nat × List Nat) := (true, [([], []), ([], []), ([], []), ([], []), ([2, 3], [2, 3]), ([4], [4]), ([1, 5], [1, 5]), ([6], [6]), ([], []), ([], []), ([], []), ([10], [10]), ([9, 11], [9, 11]), ([12], [12]), ([8, 13], [8, 13]), ([14], [14]), ([7, 15], [7, 15]), ([0, 16], [0, 16]), ([17, 16, 0, 1, 2, 3, 4, 5, 6, 7, 8, 9, 10, 11, 12, 13, 14, 15, 16, 17], [0, 17])])
def tour_gain.B4 : List Nat := [0, 0, 0, 0, 12, 28, 62, 126, 0, 0, 0, 1024, 3584, 7680, 16128, 32512, 65534, 131071, 262143]
theorem tour_gain.tab4 : rtab .any (opsOf Try.f42 4) = tour_gain.T4 := by kernel_rfl
theorem tour_gain.bits4 : waitsOk tour_gain.T4.2 tour_gain.B4 = true := by kernel_rfl
def tour_gain.T5 : Bool × List (List Nat × List Nat) := (true, [([], []), ([], []), ([], []), ([], []), ([2, 3], [2, 3]), ([4], [4]), ([1, 5], [1, 5]), ([6], [6]), ([], []), ([], []), ([], []), ([10], [10]), ([9, 11], [9, 11]), ([12], [12]), ([8, 13], [8, 13]), ([14], [14]), ([7, 15], [7, 15]), ([0, 16], [0, 16]), ([17, 16, 0, 1, 2, 3, 4, 5, 6, 7, 8, 9, 10, 11, 12, 13, 14, 15, 16, 17], [0, 17])])
def tour_gain.B5 : List Nat := [0, 0, 0, 0, 12, 28, 62, 126, 0, 0, 0, 1024, 3584, 7680, 16128, 32512, 65534, 131071, 262143]
theorem tour_gain.tab5 : rtab .any (opsOf Try.f42 5) = tour_gain.T5 := by kernel_rfl
theorem tour_gain.bits5 : waitsOk tour_gain.T5.2 tour_gain.B5 = true := by kernel_rfl
set_option maxHeartbeats 8000000 in
set_option maxRecDepth 100000 in
theorem tour_gain.calls (A0 : Option Addr) (c0 : Nat) (l0 : List (S31)) (A1 : Option Addr) (c1 : Nat) (l1 : List Int) (a2 : Int) (a3 : Int) (r : Int) (w : World) (hr0 : Kd.C k31 w A0 l0.length l0) (hc0 : l0.length ≤ c0) (hr1 : Kd.C (Kd.int .i64) w A1 l1.length l1) (hc1 : l1.length ≤ c1) (h : tour_gain.f l0 l1 a2 a3 = some r) :
  Calls Try.prog 42 #[.slice A0 l0.length c0, .slice A1 l1.length c1, .int .i64 a2, .int .i64 a3] w fun e w' => e = .returned (.int .i64 r) ∧ Below w.heap.size w w' := by
 have hu31 := Try.underlying31
 have HR0 := Aside0.mk hr0
 have HC0 := Aside0.mk hc0
 clear hr0 hc0
 have HR1 := Aside0.mk hr1
 have HC1 := Aside0.mk hc1
 clear hr1 hc1
 have HB := Aside0.mk (Below.refl w.heap.size w)
 have H : (if 0 ≤ (wrap64 (a2 - 1)) then (if (wrap64 (a2 - 1)) < (l1.length : Int) then (if 0 ≤ (rd l1 (wrap64 (a2 - 1))) then (if (rd l1 (wrap64 (a2 - 1))) < (l0.length : Int) then (if 0 ≤ a2 then (if a2 < (l1.length : Int) then (if 0 ≤ (rd l1 a2) then (if (rd l1 a2) < (l0.length : Int) then ((tour_Distance.f ((rd_T31 l0 (rd l1 (wrap64 (a2 - 1)))).f0) ((rd_T31 l0 (rd l1 (wrap64 (a2 - 1)))).f1) ((rd_T31 l0 (rd l1 a2)).f0) ((rd_T31 l0 (rd l1 a2)).f1)).bind fun t323 => (if 0 ≤ a3 then (if a3 < (l1.length : Int) then (if 0 ≤ (rd l1 a3) then (if (rd l1 a3) < (l0.length : Int) then ((tour_Distance.f ((rd_T31 l0 (rd l1 (wrap64 (a2 - 1)))).f0) ((rd_T31 l0 (rd l1 (wrap64 (a2 - 1)))).f1) ((rd_T31 l0 (rd l1 a3)).f0) ((rd_T31 l0 (rd l1 a3)).f1)).bind fun t328 => (if (wrap64 (a3 + 1)) < (l1.length : Int) then (if 0 ≤ (wrap64 (a3 + 1)) then (if 0 ≤ (rd l1 (wrap64 (a3 + 1))) then (if (rd l1 (wrap64 (a3 + 1))) < (l0.length : Int) then ((tour_Distance.f ((rd_T31 l0 (rd l1 a3)).f0) ((rd_T31 l0 (rd l1 a3)).f1) ((rd_T31 l0 (rd l1 (wrap64 (a3 + 1)))).f0) ((rd_T31 l0 (rd l1 (wrap64 (a3 + 1)))).f1)).bind fun t333 => ((tour_Distance.f ((rd_T31 l0 (rd l1 a2)).f0) ((rd_T31 l0 (rd l1 a2)).f1) ((rd_T31 l0 (rd l1 (wrap64 (a3 + 1)))).f0) ((rd_T31 l0 (rd l1 (wrap64 (a3 + 1)))).f1)).bind fun t338 => (some (wrap64 ((wrap64 (t323 + t333)) - (wrap64 (t328 + t338))))))) else (none)) else (none)) else (none)) else (some (wrap64 (t323 - t328))))) else (none)) else (none)) else (none)) else (none))) else (none)) else (none)) else (none)) else (none)) else (none)) else (none)) else (none)) else (none)) = some r := h
 clear h
 obtain ⟨ji5, hji5⟩ : ∃ j_ : Int, (wrap64 (a2 - 1)) = j_ := ⟨_, rfl⟩
 replace H : (if 0 ≤ (ji5) then (if (ji5) < (l1.length : Int) then (if 0 ≤ (rd l1 (ji5)) then (if (rd l1 (ji5)) < (l0.length : Int) then (if 0 ≤ a2 then (if a2 < (l1.length : Int) then (if 0 ≤ (rd l1 a2) then (if (rd l1 a2) < (l0.length : Int) then ((tour_Distance.f ((rd_T31 l0 (rd l1 (ji5))).f0) ((rd_T31 l0 (rd l1 (ji5))).f1) ((rd_T31 l0 (rd l1 a2)).f0) ((rd_T31 l0 (rd l1 a2)).f1)).bind fun t323 => (if 0 ≤ a3 then (if a3 < (l1.length : Int) then (if 0 ≤ (rd l1 a3) then (if (rd l1 a3) < (l0.length : Int) then ((tour_Distance.f ((rd_T31 l0 (rd l1 (ji5))).f0) ((rd_T31 l0 (rd l1 (ji5))).f1) ((rd_T31 l0 (rd l1 a3)).f0) ((rd_T31 l0 (rd l1 a3)).f1)).bind fun t328 => (if (wrap64 (a3 + 1)) < (l1.length : Int) then (if 0 ≤ (wrap64 (a3 + 1)) then (if 0 ≤ (rd l1 (wrap64 (a3 + 1))) then (if (rd l1 (wrap64 (a3 + 1))) < (l0.length : Int) then ((tour_Distance.f ((rd_T31 l0 (rd l1 a3)).f0) ((rd_T31 l0 (rd l1 a3)).f1) ((rd_T31 l0 (rd l1 (wrap64 (a3 + 1)))).f0) ((rd_T31 l0 (rd l1 (wrap64 (a3 + 1)))).f1)).bind fun t333 => ((tour_Distance.f ((rd_T31 l0 (rd l1 a2)).f0) ((rd_T31 l0 (rd l1 a2)).f1) ((rd_T31 l0 (rd l1 (wrap64 (a3 + 1)))).f0) ((rd_T31 l0 (rd l1 (wrap64 (a3 + 1)))).f1)).bind fun t338 => (some (wrap64 ((wrap64 (t323 + t333)) - (wrap64 (t328 + t338))))))) else (none)) else (none)) else (none)) else (some (wrap64 (t323 - t328))))) else (none)) else (none)) else (none)) else (none))) else (none)) else (none)) else (none)) else (none)) else (none)) else (none)) else (none)) else (none)) = some r := by first | (rw [hji5] at H; exact H) | (simp only [hji5] at H ⊢; exact H)
 have hji5w : (IntKind.i64.wrap (a2 - 1)) = ji5 := (i64_w _).trans hji5
 by_cases c6 : 0 ≤ (ji5)
 ·rw [if_pos c6] at H
  have c6b0 : decide (0 ≤ (ji5)) = true := decide_eq_true c6
  clear c6
  by_cases c7 : (ji5) < (l1.length : Int)
  ·rw [if_pos c7] at H
   have c7b0 : decide ((ji5) < (l1.length : Int)) = true := decide_eq_true c7
   clear c7
   by_cases c8 : 0 ≤ (rd l1 (ji5))
   ·rw [if_pos c8] at H
    have c8b0 : decide (0 ≤ (rd l1 (ji5))) = true := decide_eq_true c8
    clear c8
    by_cases c9 : (rd l1 (ji5)) < (l0.length : Int)
    ·rw [if_pos c9] at H
     have c9b0 : decide ((rd l1 (ji5)) < (l0.length : Int)) = true := decide_eq_true c9
     clear c9
     by_cases c10 : 0 ≤ a2
     ·rw [if_pos c10] at H
      have c10b0 : decide (0 ≤ a2) = true := decide_eq_true c10
      clear c10
      by_cases c11 : a2 < (l1.length : Int)
      ·rw [if_pos c11] at H
       have c11b0 : decide (a2 < (l1.length : Int)) = true := decide_eq_true c11
       clear c11
       by_cases c12 : 0 ≤ (rd l1 a2)
       ·rw [if_pos c12] at H
        have c12b0 : decide (0 ≤ (rd l1 a2)) = true := decide_eq_true c12
        clear c12
        by_cases c13 : (rd l1 a2) < (l0.length : Int)
        ·rw [if_pos c13] at H
         have c13b0 : decide ((rd l1 a2) < (l0.length : Int)) = true := decide_eq_true c13
         clear c13; replace H := Option.bind_eq_some_iff.mp H
         obtain ⟨t323, A140, H⟩ := H
         replace H : (if 0 ≤ a3 then (if a3 < (l1.length : Int) then (if 0 ≤ (rd l1 a3) then (if (rd l1 a3) < (l0.length : Int) then ((tour_Distance.f ((rd_T31 l0 (rd l1 (ji5))).f0) ((rd_T31 l0 (rd l1 (ji5))).f1) ((rd_T31 l0 (rd l1 a3)).f0) ((rd_T31 l0 (rd l1 a3)).f1)).bind fun t328 => (if (wrap64 (a3 + 1)) < (l1.length : Int) then (if 0 ≤ (wrap64 (a3 + 1)) then (if 0 ≤ (rd l1 (wrap64 (a3 + 1))) then (if (rd l1 (wrap64 (a3 + 1))) < (l0.length : Int) then ((tour_Distance.f ((rd_T31 l0 (rd l1 a3)).f0) ((rd_T31 l0 (rd l1 a3)).f1) ((rd_T31 l0 (rd l1 (wrap64 (a3 + 1)))).f0) ((rd_T31 l0 (rd l1 (wrap64 (a3 + 1)))).f1)).bind fun t333 => ((tour_Distance.f ((rd_T31 l0 (rd l1 a2)).f0) ((rd_T31 l0 (rd l1 a2)).f1) ((rd_T31 l0 (rd l1 (wrap64 (a3 + 1)))).f0) ((rd_T31 l0 (rd l1 (wrap64 (a3 + 1)))).f1)).bind fun t338 => (some (wrap64 ((wrap64 (t323 + t333)) - (wrap64 (t328 + t338))))))) else (none)) else (none)) else (none)) else (some (wrap64 (t323 - t328))))) else (none)) else (none)) else (none)) else (none)) = some r := H
         have A14 := Aside0.mk A140; clear A140
         by_cases c15 : 0 ≤ a3
         ·rw [if_pos c15] at H
          have c15b0 : decide (0 ≤ a3) = true := decide_eq_true c15
          clear c15
          by_cases c16 : a3 < (l1.length : Int)
          ·rw [if_pos c16] at H
           have c16b0 : decide (a3 < (l1.length : Int)) = true := decide_eq_true c16
           clear c16
           by_cases c17 : 0 ≤ (rd l1 a3)
           ·rw [if_pos c17] at H
            have c17b0 : decide (0 ≤ (rd l1 a3)) = true := decide_eq_true c17
            clear c17
            by_cases c18 : (rd l1 a3) < (l0.length : Int)
            ·rw [if_pos c18] at H
             have c18b0 : decide ((rd l1 a3) < (l0.length : Int)) = true := decide_eq_true c18
             clear c18; replace H := Option.bind_eq_some_iff.mp H
             obtain ⟨t328, A190, H⟩ := H
             replace H : (if (wrap64 (a3 + 1)) < (l1.length : Int) then (if 0 ≤ (wrap64 (a3 + 1)) then (if 0 ≤ (rd l1 (wrap64 (a3 + 1))) then (if (rd l1 (wrap64 (a3 + 1))) < (l0.length : Int) then ((tour_Distance.f ((rd_T31 l0 (rd l1 a3)).f0) ((rd_T31 l0 (rd l1 a3)).f1) ((rd_T31 l0 (rd l1 (wrap64 (a3 + 1)))).f0) ((rd_T31 l0 (rd l1 (wrap64 (a3 + 1)))).f1)).bind fun t333 => ((tour_Distance.f ((rd_T31 l0 (rd l1 a2)).f0) ((rd_T31 l0 (rd l1 a2)).f1) ((rd_T31 l0 (rd l1 (wrap64 (a3 + 1)))).f0) ((rd_T31 l0 (rd l1 (wrap64 (a3 + 1)))).f1)).bind fun t338 => (some (wrap64 ((wrap64 (t323 + t333)) - (wrap64 (t328 + t338))))))) else (none)) else (none)) else (none)) else (some (wrap64 (t323 - t328)))) = some r := H
             have A19 := Aside0.mk A190; clear A190
             by_cases c20 : (wrap64 (a3 + 1)) < (l1.length : Int)
             ·rw [if_pos c20] at H
              have c20b0 : decide ((wrap64 (a3 + 1)) < (l1.length : Int)) = true := decide_eq_true c20
              clear c20
              obtain ⟨ji21, hji21⟩ : ∃ j_ : Int, (wrap64 (a3 + 1)) = j_ := ⟨_, rfl⟩
              replace H : (if 0 ≤ (ji21) then (if 0 ≤ (rd l1 (ji21)) then (if (rd l1 (ji21)) < (l0.length : Int) then ((tour_Distance.f ((rd_T31 l0 (rd l1 a3)).f0) ((rd_T31 l0 (rd l1 a3)).f1) ((rd_T31 l0 (rd l1 (ji21))).f0) ((rd_T31 l0 (rd l1 (ji21))).f1)).bind fun t333 => ((tour_Distance.f ((rd_T31 l0 (rd l1 a2)).f0) ((rd_T31 l0 (rd l1 a2)).f1) ((rd_T31 l0 (rd l1 (ji21))).f0) ((rd_T31 l0 (rd l1 (ji21))).f1)).bind fun t338 => (some (wrap64 ((wrap64 (t323 + t333)) - (wrap64 (t328 + t338))))))) else (none)) else (none)) else (none)) = some r := by first | (rw [hji21] at H; exact H) | (simp only [hji21] at H ⊢; exact H)
              (try rw [hji21] at c20b0)
              (try rw [hji21] at A14)
              (try rw [hji21] at A19)
              have hji21w : (IntKind.i64.wrap (a3 + 1)) = ji21 := (i64_w _).trans hji21
              by_cases c22 : 0 ≤ (ji21)
              ·rw [if_pos c22] at H
               have c22b0 : decide (0 ≤ (ji21)) = true := decide_eq_true c22
               clear c22
               by_cases c23 : 0 ≤ (rd l1 (ji21))
               ·rw [if_pos c23] at H
                have c23b0 : decide (0 ≤ (rd l1 (ji21))) = true := decide_eq_true c23
                clear c23
                by_cases c24 : (rd l1 (ji21)) < (l0.length : Int)
                ·rw [if_pos c24] at H
                 have c24b0 : decide ((rd l1 (ji21)) < (l0.length : Int)) = true := decide_eq_true c24
                 clear c24; replace H := Option.bind_eq_some_iff.mp H
                 obtain ⟨t333, A250, H⟩ := H
                 replace H : ((tour_Distance.f ((rd_T31 l0 (rd l1 a2)).f0) ((rd_T31 l0 (rd l1 a2)).f1) ((rd_T31 l0 (rd l1 (ji21))).f0) ((rd_T31 l0 (rd l1 (ji21))).f1)).bind fun t338 => (some (wrap64 ((wrap64 (t323 + t333)) - (wrap64 (t328 + t338)))))) = some r := H
                 have A25 := Aside0.mk A250; clear A250; replace H := Option.bind_eq_some_iff.mp H
                 obtain ⟨t338, A260, H⟩ := H
                 replace H : (some (wrap64 ((wrap64 (t323 + t333)) - (wrap64 (t328 + t338))))) = some r := H
                 have A26 := Aside0.mk A260; clear A260; obtain rfl := Option.some.inj H
                 go_enter Try.func42, Try.ntmps42
                 try go_wp2
                 have n0_ := Aside0.mk (below_drew1 HB.out)
                 clear HB; have HB := n0_; clear n0_
                 have p319 : 0 ≤ ((ji5) : Int) := of_decide_eq_true (by first | (with_reducible assumption) | assumption)
                 have q319 : (ji5) < (l1.length : Int) := of_decide_eq_true (by first | (with_reducible assumption) | assumption)
                 obtain ⟨ad319, e319, hx319_0⟩ := Kd.at_int HR1.out (ji5) p319 q319
                 have hw319_0 := hx319_0; cases e319
                 replace hx319_0 := (HB.out.cell (World.block_lt_of_cell? w _ hx319_0)).trans hx319_0
                 replace p319 := eq_true p319; replace q319 := eq_true q319
                 have p320 : 0 ≤ ((rd l1 (ji5)) : Int) := of_decide_eq_true (by first | (with_reducible assumption) | assumption)
                 have q320 : (rd l1 (ji5)) < (l0.length : Int) := of_decide_eq_true (by first | (with_reducible assumption) | assumption)
                 obtain ⟨ad320, e320, hx320_0, hx320_1⟩ := at_T31 HR0.out (rd l1 (ji5)) p320 q320
                 have hw320_1 := hx320_1; have hw320_0 := hx320_0; cases e320
                 replace hx320_0 := (HB.out.cell (World.block_lt_of_cell? w _ hx320_0)).trans hx320_0
                 replace hx320_1 := (HB.out.cell (World.block_lt_of_cell? w _ hx320_1)).trans hx320_1
                 replace p320 := eq_true p320; replace q320 := eq_true q320
                 have p321 : 0 ≤ (a2 : Int) := of_decide_eq_true (by first | (with_reducible assumption) | assumption)
                 have q321 : a2 < (l1.length : Int) := of_decide_eq_true (by first | (with_reducible assumption) | assumption)
                 obtain ⟨ad321, e321, hx321_0⟩ := Kd.at_int HR1.out a2 p321 q321
                 have hw321_0 := hx321_0
                 obtain rfl : ad319 = ad321 := (by injection e321)
                 replace hx321_0 := (HB.out.cell (World.block_lt_of_cell? w _ hx321_0)).trans hx321_0
                 replace p321 := eq_true p321; replace q321 := eq_true q321
                 have p322 : 0 ≤ ((rd l1 a2) : Int) := of_decide_eq_true (by first | (with_reducible assumption) | assumption)
                 have q322 : (rd l1 a2) < (l0.length : Int) := of_decide_eq_true (by first | (with_reducible assumption) | assumption)
                 obtain ⟨ad322, e322, hx322_0, hx322_1⟩ := at_T31 HR0.out (rd l1 a2) p322 q322
                 have hw322_1 := hx322_1; have hw322_0 := hx322_0
                 obtain rfl : ad320 = ad322 := (by injection e322)
                 replace hx322_0 := (HB.out.cell (World.block_lt_of_cell? w _ hx322_0)).trans hx322_0
                 replace hx322_1 := (HB.out.cell (World.block_lt_of_cell? w _ hx322_1)).trans hx322_1
                 replace p322 := eq_true p322; replace q322 := eq_true q322
                 refine start_ (n := 17) (S := fun w' => w'.cell? (ad319.add ((ji5)).toNat) = some (.int .i64 (rd l1 (ji5))) ∧ w'.cell? (ad320.add (((rd l1 (ji5))).toNat * 2)) = some (.int .i64 ((rd_T31 l0 (rd l1 (ji5))).f0)) ∧ w'.cell? ⟨(ad320.add (((rd l1 (ji5))).toNat * 2)).block, (ad320.add (((rd l1 (ji5))).toNat * 2)).off + 1, none⟩ = some (.int .i64 ((rd_T31 l0 (rd l1 (ji5))).f1)) ∧ w'.cell? (ad319.add (a2).toNat) = some (.int .i64 (rd l1 a2)) ∧ w'.cell? (ad320.add (((rd l1 a2)).toNat * 2)) = some (.int .i64 ((rd_T31 l0 (rd l1 a2)).f0)) ∧ w'.cell? ⟨(ad320.add (((rd l1 a2)).toNat * 2)).block, (ad320.add (((rd l1 a2)).toNat * 2)).off + 1, none⟩ = some (.int .i64 ((rd_T31 l0 (rd l1 a2)).f1))) (ds := []) #[false, false, false, false, false, false, false, false, false, false, false, false, false, false, false, false, false] (by kernel_rfl) rfl rfl ⟨((HB.out.cell (World.block_lt_of_cell? w _ hw319_0)).trans hw319_0), ((HB.out.cell (World.block_lt_of_cell? w _ hw320_0)).trans hw320_0), ((HB.out.cell (World.block_lt_of_cell? w _ hw320_1)).trans hw320_1), ((HB.out.cell (World.block_lt_of_cell? w _ hw321_0)).trans hw321_0), ((HB.out.cell (World.block_lt_of_cell? w _ hw322_0)).trans hw322_0), ((HB.out.cell (World.block_lt_of_cell? w _ hw322_1)).trans hw322_1)⟩ (fun hHeld => ?_); refine with_tabW tour_gain.tab1 tour_gain.bits1 (fun HT_ HW_ => ?_)
                 generalize w.drew = w27 at HB hx319_0 hx320_0 hx320_1 hx321_0 hx322_0 hx322_1 hHeld ⊢
                 refine pure_ (i := 0) (N := some 11) (v := ?_) (a' := ?_) #[true, false, false, false, false, false, false, false, false, false, false, false, false, false, false, false, false] rfl rfl (any_of HT_.out (by kernel_rfl)) (fun _ _ _ h => h) (Or.inl ⟨by rfl, ?_⟩) ?_ ?_
                 rotate_left; ·intro w'; go_simp; with_reducible rfl
                 rotate_left; ·simp only [Act.put, sA_, sZ_, sS_, i64_w, i32_w]; rfl
                 refine pure_ (i := 1) (N := some 12) (v := ?_) (a' := ?_) #[true, true, false, false, false, false, false, false, false, false, false, false, false, false, false, false, false] rfl rfl (any_of HT_.out (by kernel_rfl)) (fun _ _ _ h => h) (Or.inl ⟨by rfl, ?_⟩) ?_ ?_
                 rotate_left; ·intro w'; go_simp; with_reducible rfl
                 rotate_left; ·simp only [Act.put, sA_, sZ_, sS_, i64_w, i32_w]; rfl
                 refine pure_ (i := 2) (N := some 13) (v := ?_) (a' := ?_) #[true, true, true, false, false, false, false, false, false, false, false, false, false, false, false, false, false] rfl rfl (any_of HT_.out (by kernel_rfl)) (fun _ _ _ h => h) (Or.inl ⟨by rfl, ?_⟩) ?_ ?_
                 rotate_left; ·intro w'; go_simp; with_reducible rfl
                 rotate_left; ·simp only [Act.put, sA_, sZ_, sS_, i64_w, i32_w]; rfl
                 refine pure_ (i := 3) (N := some 14) (v := ?_) (a' := ?_) #[true, true, true, true, false, false, false, false, false, false, false, false, false, false, false, false, false] rfl rfl (any_of HT_.out (by kernel_rfl)) (fun _ _ _ h => h) (Or.inl ⟨by rfl, ?_⟩) ?_ ?_
                 rotate_left; ·intro w'; go_simp; with_reducible rfl
                 rotate_left; ·simp only [Act.put, sA_, sZ_, sS_, i64_w, i32_w]; rfl
                 refine pure_ (i := 4) (N := some 15) (v := ?_) (a' := ?_) #[true, true, true, true, true, false, false, false, false, false, false, false, false, false, false, false, false] rfl rfl (any_of HT_.out (by kernel_rfl)) (fun _ _ _ h => h) (Or.inl ⟨by rfl, ?_⟩) ?_ ?_
                 rotate_left; ·intro w'; go_simp; with_reducible rfl
                 rotate_left; ·simp only [Act.put, sA_, sZ_, sS_, i64_w, i32_w]; rfl
                 refine pure_ (i := 8) (N := some 19) (v := ?_) (a' := ?_) #[true, true, true, true, true, false, false, false, true, false, false, false, false, false, false, false, false] rfl rfl (any_of HT_.out (by kernel_rfl)) (fun _ _ _ h => h) (Or.inl ⟨by rfl, ?_⟩) ?_ ?_
                 rotate_left; ·intro w'; go_simp; with_reducible rfl
                 rotate_left; ·simp only [Act.put, sA_, sZ_, sS_, i64_w, i32_w]; rfl
                 refine pure_ (i := 9) (N := some 20) (v := ?_) (a' := ?_) #[true, true, true, true, true, false, false, false, true, true, false, false, false, false, false, false, false] rfl rfl (any_of HT_.out (by kernel_rfl)) (fun _ _ _ h => h) (Or.inl ⟨by rfl, ?_⟩) ?_ ?_
                 rotate_left; ·intro w'; go_simp; with_reducible rfl
                 rotate_left; ·simp only [Act.put, sA_, sZ_, sS_, i64_w, i32_w]; rfl
                 refine pure_ (i := 10) (N := some 21) (v := ?_) (a' := ?_) #[true, true, true, true, true, false, false, false, true, true, true, false, false, false, false, false, false] rfl rfl (any_of HT_.out (by kernel_rfl)) (fun _ _ _ h => h) (Or.inl ⟨by rfl, ?_⟩) ?_ ?_
                 rotate_left; ·intro w'; go_simp; with_reducible rfl
                 rotate_left; ·simp only [Act.put, sA_, sZ_, sS_, i64_w, i32_w]; rfl
                 refine pure_ (i := 11) (N := some 22) (v := ?_) (a' := ?_) #[true, true, true, true, true, false, false, false, true, true, true, true, false, false, false, false, false] rfl rfl (any_of HT_.out (by kernel_rfl)) (fun _ _ _ h => h) (Or.inl ⟨by rfl, ?_⟩) ?_ ?_
                 rotate_left; ·intro w'; go_simp; with_reducible rfl
                 rotate_left; ·simp only [Act.put, sA_, sZ_, sS_, i64_w, i32_w]; rfl
                 refine take_ (i := 5) (N := some 16) (v := ?_) (a' := ?_) #[true, true, true, true, true, true, false, false, true, true, true, true, false, false, false, false, false] rfl rfl (take_ofW HT_.out HW_.out (by kernel_rfl)) (fun _ _ _ h => h) (Or.inl ⟨by rfl, ?_⟩) hHeld ?_ ?_
                 rotate_left
                 ·rintro w' ⟨s0, s1, s2, s3, s4, s5⟩; go_simp; with_reducible rfl
                 rotate_left; ·simp only [Act.put, sA_, sZ_, sS_, i64_w, i32_w]; rfl
                 refine pure_ (i := 6) (N := some 17) (v := ?_) (a' := ?_) #[true, true, true, true, true, true, true, false, true, true, true, true, false, false, false, false, false] rfl rfl (any_of HT_.out (by kernel_rfl)) (fun _ _ _ h => h) (Or.inl ⟨by rfl, ?_⟩) ?_ ?_
                 rotate_left; ·intro w'; go_simp; with_reducible rfl
                 rotate_left; ·simp only [Act.put, sA_, sZ_, sS_, i64_w, i32_w]; rfl
                 refine take_ (i := 7) (N := some 18) (v := ?_) (a' := ?_) #[true, true, true, true, true, true, true, true, true, true, true, true, false, false, false, false, false] rfl rfl (take_ofW HT_.out HW_.out (by kernel_rfl)) (fun _ _ _ h => h) (Or.inl ⟨by rfl, ?_⟩) hHeld ?_ ?_
                 rotate_left
                 ·rintro w' ⟨s0, s1, s2, s3, s4, s5⟩; go_simp; with_reducible rfl
                 rotate_left; ·simp only [Act.put, sA_, sZ_, sS_, i64_w, i32_w]; rfl
                 refine take_ (i := 12) (N := some 23) (v := ?_) (a' := ?_) #[true, true, true, true, true, true, true, true, true, true, true, true, true, false, false, false, false] rfl rfl (take_ofW HT_.out HW_.out (by kernel_rfl)) (fun _ _ _ h => h) (Or.inl ⟨by rfl, ?_⟩) hHeld ?_ ?_
                 rotate_left
                 ·rintro w' ⟨s0, s1, s2, s3, s4, s5⟩; go_simp; with_reducible rfl
                 rotate_left; ·simp only [Act.put, sA_, sZ_, sS_, i64_w, i32_w]; rfl
                 refine pure_ (i := 13) (N := some 24) (v := ?_) (a' := ?_) #[true, true, true, true, true, true, true, true, true, true, true, true, true, true, false, false, false] rfl rfl (any_of HT_.out (by kernel_rfl)) (fun _ _ _ h => h) (Or.inl ⟨by rfl, ?_⟩) ?_ ?_
                 rotate_left; ·intro w'; go_simp; with_reducible rfl
                 rotate_left; ·simp only [Act.put, sA_, sZ_, sS_, i64_w, i32_w]; rfl
                 refine take_ (i := 14) (N := some 25) (v := ?_) (a' := ?_) #[true, true, true, true, true, true, true, true, true, true, true, true, true, true, true, false, false] rfl rfl (take_ofW HT_.out HW_.out (by kernel_rfl)) (fun _ _ _ h => h) (Or.inl ⟨by rfl, ?_⟩) hHeld ?_ ?_
                 rotate_left
                 ·rintro w' ⟨s0, s1, s2, s3, s4, s5⟩; go_simp; with_reducible rfl
                 rotate_left; ·simp only [Act.put, sA_, sZ_, sS_, i64_w, i32_w]; rfl
                 refine one_ (i := 15) (N := some 26) #[true, true, true, true, true, true, true, true, true, true, true, true, true, true, true, true, false] rfl rfl (one_of HT_.out (by kernel_rfl)) (by decide) (fun K hK => ?_)
                 refine goes_ Try.func15 (by kernel_rfl) rfl #[.agg #[.int .i64 ((rd_T31 l0 (rd l1 (ji5))).f0), .int .i64 ((rd_T31 l0 (rd l1 (ji5))).f1)], .agg #[.int .i64 ((rd_T31 l0 (rd l1 a2)).f0), .int .i64 ((rd_T31 l0 (rd l1 a2)).f1)]] (by rfl) rfl rfl (by (try simp only [List.map_toArray, List.map_cons, List.map_nil]); first | done | (simp only [hji5]; rfl) | rfl | (simp only [List.length_drop, List.length_take]; rfl)) ?_
                 with_reducible refine (tour_Distance.calls ((rd_T31 l0 (rd l1 (ji5))).f0) ((rd_T31 l0 (rd l1 (ji5))).f1) ((rd_T31 l0 (rd l1 a2)).f0) ((rd_T31 l0 (rd l1 a2)).f1) t323 _ A14.out).mono ?_
                 rintro e w28 ⟨rfl, hb⟩
                 refine ⟨_, rfl, ?_⟩
                 have n0_ := Aside0.mk (below_step (by repeat (first | (with_reducible first | exact HB.out | apply below_alloc | apply pw_below_drewN | apply below_drew1) | exact HB.out)) hb)
                 clear HB; have HB := n0_; clear n0_; (try clear hb); (try clear hb2); (try clear hk); (try clear hi)
                 refine hK.out _ _ ⟨((HB.out.cell (World.block_lt_of_cell? w _ hw319_0)).trans hw319_0), ((HB.out.cell (World.block_lt_of_cell? w _ hw320_0)).trans hw320_0), ((HB.out.cell (World.block_lt_of_cell? w _ hw320_1)).trans hw320_1), ((HB.out.cell (World.block_lt_of_cell? w _ hw321_0)).trans hw321_0), ((HB.out.cell (World.block_lt_of_cell? w _ hw322_0)).trans hw322_0), ((HB.out.cell (World.block_lt_of_cell? w _ hw322_1)).trans hw322_1)⟩ (fun hHeld => ?_)
                 clear hK K
                 refine norm_ (a' := ?_) ?_ ?_
                 rotate_left
                 ·show Act.put _ (some 26) _ = _
                  simp only [Act.put, sA_, sZ_, sS_, i64_w, i32_w]; rfl
                 refine pure_ (i := 16) (N := some 9) (v := ?_) (a' := ?_) #[true, true, true, true, true, true, true, true, true, true, true, true, true, true, true, true, true] rfl rfl (any_of HT_.out (by kernel_rfl)) (fun _ _ _ h => h) (Or.inl ⟨by rfl, ?_⟩) ?_ ?_
                 rotate_left; ·intro w'; go_simp; with_reducible rfl
                 rotate_left; ·simp only [Act.put, sA_, sZ_, sS_, i64_w, i32_w]; rfl
                 refine done_ (done_of HT_.out (by kernel_rfl)) ?_
                 try go_wp2
                 have n0_ := Aside0.mk (below_drew1 HB.out)
                 clear HB; have HB := n0_; clear n0_
                 have p324 : 0 ≤ ((ji5) : Int) := of_decide_eq_true (by first | (with_reducible assumption) | assumption)
                 have q324 : (ji5) < (l1.length : Int) := of_decide_eq_true (by first | (with_reducible assumption) | assumption)
                 obtain ⟨ad324, e324, hx324_0⟩ := Kd.at_int HR1.out (ji5) p324 q324
                 have hw324_0 := hx324_0
                 obtain rfl : ad319 = ad324 := (by injection e324)
                 replace hx324_0 := (HB.out.cell (World.block_lt_of_cell? w _ hx324_0)).trans hx324_0
                 replace p324 := eq_true p324; replace q324 := eq_true q324
                 have p325 : 0 ≤ ((rd l1 (ji5)) : Int) := of_decide_eq_true (by first | (with_reducible assumption) | assumption)
                 have q325 : (rd l1 (ji5)) < (l0.length : Int) := of_decide_eq_true (by first | (with_reducible assumption) | assumption)
                 obtain ⟨ad325, e325, hx325_0, hx325_1⟩ := at_T31 HR0.out (rd l1 (ji5)) p325 q325
                 have hw325_1 := hx325_1; have hw325_0 := hx325_0
                 obtain rfl : ad320 = ad325 := (by injection e325)
                 replace hx325_0 := (HB.out.cell (World.block_lt_of_cell? w _ hx325_0)).trans hx325_0
                 replace hx325_1 := (HB.out.cell (World.block_lt_of_cell? w _ hx325_1)).trans hx325_1
                 replace p325 := eq_true p325; replace q325 := eq_true q325
                 have p326 : 0 ≤ (a3 : Int) := of_decide_eq_true (by first | (with_reducible assumption) | assumption)
                 have q326 : a3 < (l1.length : Int) := of_decide_eq_true (by first | (with_reducible assumption) | assumption)
                 obtain ⟨ad326, e326, hx326_0⟩ := Kd.at_int HR1.out a3 p326 q326
                 have hw326_0 := hx326_0
                 obtain rfl : ad319 = ad326 := (by injection e326)
                 replace hx326_0 := (HB.out.cell (World.block_lt_of_cell? w _ hx326_0)).trans hx326_0
                 replace p326 := eq_true p326; replace q326 := eq_true q326
                 have p327 : 0 ≤ ((rd l1 a3) : Int) := of_decide_eq_true (by first | (with_reducible assumption) | assumption)
                 have q327 : (rd l1 a3) < (l0.length : Int) := of_decide_eq_true (by first | (with_reducible assumption) | assumption)
                 obtain ⟨ad327, e327, hx327_0, hx327_1⟩ := at_T31 HR0.out (rd l1 a3) p327 q327
                 have hw327_1 := hx327_1; have hw327_0 := hx327_0
                 obtain rfl : ad320 = ad327 := (by injection e327)
                 replace hx327_0 := (HB.out.cell (World.block_lt_of_cell? w _ hx327_0)).trans hx327_0
                 replace hx327_1 := (HB.out.cell (World.block_lt_of_cell? w _ hx327_1)).trans hx327_1
                 replace p327 := eq_true p327; replace q327 := eq_true q327
                 refine start_ (n := 17) (S := fun w' => w'.cell? (ad319.add ((ji5)).toNat) = some (.int .i64 (rd l1 (ji5))) ∧ w'.cell? (ad320.add (((rd l1 (ji5))).toNat * 2)) = some (.int .i64 ((rd_T31 l0 (rd l1 (ji5))).f0)) ∧ w'.cell? ⟨(ad320.add (((rd l1 (ji5))).toNat * 2)).block, (ad320.add (((rd l1 (ji5))).toNat * 2)).off + 1, none⟩ = some (.int .i64 ((rd_T31 l0 (rd l1 (ji5))).f1)) ∧ w'.cell? (ad319.add (a3).toNat) = some (.int .i64 (rd l1 a3)) ∧ w'.cell? (ad320.add (((rd l1 a3)).toNat * 2)) = some (.int .i64 ((rd_T31 l0 (rd l1 a3)).f0)) ∧ w'.cell? ⟨(ad320.add (((rd l1 a3)).toNat * 2)).block, (ad320.add (((rd l1 a3)).toNat * 2)).off + 1, none⟩ = some (.int .i64 ((rd_T31 l0 (rd l1 a3)).f1))) (ds := []) #[false, false, false, false, false, false, false, false, false, false, false, false, false, false, false, false, false] (by kernel_rfl) rfl rfl ⟨((HB.out.cell (World.block_lt_of_cell? w _ hw324_0)).trans hw324_0), ((HB.out.cell (World.block_lt_of_cell? w _ hw325_0)).trans hw325_0), ((HB.out.cell (World.block_lt_of_cell? w _ hw325_1)).trans hw325_1), ((HB.out.cell (World.block_lt_of_cell? w _ hw326_0)).trans hw326_0), ((HB.out.cell (World.block_lt_of_cell? w _ hw327_0)).trans hw327_0), ((HB.out.cell (World.block_lt_of_cell? w _ hw327_1)).trans hw327_1)⟩ (fun hHeld => ?_); refine with_tabW tour_gain.tab2 tour_gain.bits2 (fun HT_ HW_ => ?_)
                 generalize w28.drew = w29 at HB hx324_0 hx325_0 hx325_1 hx326_0 hx327_0 hx327_1 hHeld ⊢
                 refine pure_ (i := 0) (N := some 27) (v := ?_) (a' := ?_) #[true, false, false, false, false, false, false, false, false, false, false, false, false, false, false, false, false] rfl rfl (any_of HT_.out (by kernel_rfl)) (fun _ _ _ h => h) (Or.inl ⟨by rfl, ?_⟩) ?_ ?_
                 rotate_left; ·intro w'; go_simp; with_reducible rfl
                 rotate_left; ·simp only [Act.put, sA_, sZ_, sS_, i64_w, i32_w]; rfl
                 refine pure_ (i := 1) (N := some 28) (v := ?_) (a' := ?_) #[true, true, false, false, false, false, false, false, false, false, false, false, false, false, false, false, false] rfl rfl (any_of HT_.out (by kernel_rfl)) (fun _ _ _ h => h) (Or.inl ⟨by rfl, ?_⟩) ?_ ?_
                 rotate_left; ·intro w'; go_simp; with_reducible rfl
                 rotate_left; ·simp only [Act.put, sA_, sZ_, sS_, i64_w, i32_w]; rfl
                 refine pure_ (i := 2) (N := some 29) (v := ?_) (a' := ?_) #[true, true, true, false, false, false, false, false, false, false, false, false, false, false, false, false, false] rfl rfl (any_of HT_.out (by kernel_rfl)) (fun _ _ _ h => h) (Or.inl ⟨by rfl, ?_⟩) ?_ ?_
                 rotate_left; ·intro w'; go_simp; with_reducible rfl
                 rotate_left; ·simp only [Act.put, sA_, sZ_, sS_, i64_w, i32_w]; rfl
                 refine pure_ (i := 3) (N := some 30) (v := ?_) (a' := ?_) #[true, true, true, true, false, false, false, false, false, false, false, false, false, false, false, false, false] rfl rfl (any_of HT_.out (by kernel_rfl)) (fun _ _ _ h => h) (Or.inl ⟨by rfl, ?_⟩) ?_ ?_
                 rotate_left; ·intro w'; go_simp; with_reducible rfl
                 rotate_left; ·simp only [Act.put, sA_, sZ_, sS_, i64_w, i32_w]; rfl
                 refine pure_ (i := 4) (N := some 31) (v := ?_) (a' := ?_) #[true, true, true, true, true, false, false, false, false, false, false, false, false, false, false, false, false] rfl rfl (any_of HT_.out (by kernel_rfl)) (fun _ _ _ h => h) (Or.inl ⟨by rfl, ?_⟩) ?_ ?_
                 rotate_left; ·intro w'; go_simp; with_reducible rfl
                 rotate_left; ·simp only [Act.put, sA_, sZ_, sS_, i64_w, i32_w]; rfl
                 refine pure_ (i := 8) (N := some 35) (v := ?_) (a' := ?_) #[true, true, true, true, true, false, false, false, true, false, false, false, false, false, false, false, false] rfl rfl (any_of HT_.out (by kernel_rfl)) (fun _ _ _ h => h) (Or.inl ⟨by rfl, ?_⟩) ?_ ?_
                 rotate_left; ·intro w'; go_simp; with_reducible rfl
                 rotate_left; ·simp only [Act.put, sA_, sZ_, sS_, i64_w, i32_w]; rfl
                 refine pure_ (i := 9) (N := some 36) (v := ?_) (a' := ?_) #[true, true, true, true, true, false, false, false, true, true, false, false, false, false, false, false, false] rfl rfl (any_of HT_.out (by kernel_rfl)) (fun _ _ _ h => h) (Or.inl ⟨by rfl, ?_⟩) ?_ ?_
                 rotate_left; ·intro w'; go_simp; with_reducible rfl
                 rotate_left; ·simp only [Act.put, sA_, sZ_, sS_, i64_w, i32_w]; rfl
                 refine pure_ (i := 10) (N := some 37) (v := ?_) (a' := ?_) #[true, true, true, true, true, false, false, false, true, true, true, false, false, false, false, false, false] rfl rfl (any_of HT_.out (by kernel_rfl)) (fun _ _ _ h => h) (Or.inl ⟨by rfl, ?_⟩) ?_ ?_
                 rotate_left; ·intro w'; go_simp; with_reducible rfl
                 rotate_left; ·simp only [Act.put, sA_, sZ_, sS_, i64_w, i32_w]; rfl
                 refine pure_ (i := 11) (N := some 38) (v := ?_) (a' := ?_) #[true, true, true, true, true, false, false, false, true, true, true, true, false, false, false, false, false] rfl rfl (any_of HT_.out (by kernel_rfl)) (fun _ _ _ h => h) (Or.inl ⟨by rfl, ?_⟩) ?_ ?_
                 rotate_left; ·intro w'; go_simp; with_reducible rfl
                 rotate_left; ·simp only [Act.put, sA_, sZ_, sS_, i64_w, i32_w]; rfl
                 refine take_ (i := 5) (N := some 32) (v := ?_) (a' := ?_) #[true, true, true, true, true, true, false, false, true, true, true, true, false, false, false, false, false] rfl rfl (take_ofW HT_.out HW_.out (by kernel_rfl)) (fun _ _ _ h => h) (Or.inl ⟨by rfl, ?_⟩) hHeld ?_ ?_
                 rotate_left
                 ·rintro w' ⟨s0, s1, s2, s3, s4, s5⟩; go_simp; with_reducible rfl
                 rotate_left; ·simp only [Act.put, sA_, sZ_, sS_, i64_w, i32_w]; rfl
                 refine pure_ (i := 6) (N := some 33) (v := ?_) (a' := ?_) #[true, true, true, true, true, true, true, false, true, true, true, true, false, false, false, false, false] rfl rfl (any_of HT_.out (by kernel_rfl)) (fun _ _ _ h => h) (Or.inl ⟨by rfl, ?_⟩) ?_ ?_
                 rotate_left; ·intro w'; go_simp; with_reducible rfl
                 rotate_left; ·simp only [Act.put, sA_, sZ_, sS_, i64_w, i32_w]; rfl
                 refine take_ (i := 7) (N := some 34) (v := ?_) (a' := ?_) #[true, true, true, true, true, true, true, true, true, true, true, true, false, false, false, false, false] rfl rfl (take_ofW HT_.out HW_.out (by kernel_rfl)) (fun _ _ _ h => h) (Or.inl ⟨by rfl, ?_⟩) hHeld ?_ ?_
                 rotate_left
                 ·rintro w' ⟨s0, s1, s2, s3, s4, s5⟩; go_simp; with_reducible rfl
                 rotate_left; ·simp only [Act.put, sA_, sZ_, sS_, i64_w, i32_w]; rfl
                 refine take_ (i := 12) (N := some 39) (v := ?_) (a' := ?_) #[true, true, true, true, true, true, true, true, true, true, true, true, true, false, false, false, false] rfl rfl (take_ofW HT_.out HW_.out (by kernel_rfl)) (fun _ _ _ h => h) (Or.inl ⟨by rfl, ?_⟩) hHeld ?_ ?_
                 rotate_left
                 ·rintro w' ⟨s0, s1, s2, s3, s4, s5⟩; go_simp; with_reducible rfl
                 rotate_left; ·simp only [Act.put, sA_, sZ_, sS_, i64_w, i32_w]; rfl
                 refine pure_ (i := 13) (N := some 40) (v := ?_) (a' := ?_) #[true, true, true, true, true, true, true, true, true, true, true, true, true, true, false, false, false] rfl rfl (any_of HT_.out (by kernel_rfl)) (fun _ _ _ h => h) (Or.inl ⟨by rfl, ?_⟩) ?_ ?_
                 rotate_left; ·intro w'; go_simp; with_reducible rfl
                 rotate_left; ·simp only [Act.put, sA_, sZ_, sS_, i64_w, i32_w]; rfl
                 refine take_ (i := 14) (N := some 41) (v := ?_) (a' := ?_) #[true, true, true, true, true, true, true, true, true, true, true, true, true, true, true, false, false] rfl rfl (take_ofW HT_.out HW_.out (by kernel_rfl)) (fun _ _ _ h => h) (Or.inl ⟨by rfl, ?_⟩) hHeld ?_ ?_
                 rotate_left
                 ·rintro w' ⟨s0, s1, s2, s3, s4, s5⟩; go_simp; with_reducible rfl
                 rotate_left; ·simp only [Act.put, sA_, sZ_, sS_, i64_w, i32_w]; rfl
                 refine one_ (i := 15) (N := some 42) #[true, true, true, true, true, true, true, true, true, true, true, true, true, true, true, true, false] rfl rfl (one_of HT_.out (by kernel_rfl)) (by decide) (fun K hK => ?_)
                 refine goes_ Try.func15 (by kernel_rfl) rfl #[.agg #[.int .i64 ((rd_T31 l0 (rd l1 (ji5))).f0), .int .i64 ((rd_T31 l0 (rd l1 (ji5))).f1)], .agg #[.int .i64 ((rd_T31 l0 (rd l1 a3)).f0), .int .i64 ((rd_T31 l0 (rd l1 a3)).f1)]] (by rfl) rfl rfl (by (try simp only [List.map_toArray, List.map_cons, List.map_nil]); first | done | (simp only [hji5]; rfl) | rfl | (simp only [List.length_drop, List.length_take]; rfl)) ?_
                 with_reducible refine (tour_Distance.calls ((rd_T31 l0 (rd l1 (ji5))).f0) ((rd_T31 l0 (rd l1 (ji5))).f1) ((rd_T31 l0 (rd l1 a3)).f0) ((rd_T31 l0 (rd l1 a3)).f1) t328 _ A19.out).mono ?_
                 rintro e w30 ⟨rfl, hb⟩
                 refine ⟨_, rfl, ?_⟩
                 have n0_ := Aside0.mk (below_step (by repeat (first | (with_reducible first | exact HB.out | apply below_alloc | apply pw_below_drewN | apply below_drew1) | exact HB.out)) hb)
                 clear HB; have HB := n0_; clear n0_; (try clear hb); (try clear hb2); (try clear hk); (try clear hi)
                 refine hK.out _ _ ⟨((HB.out.cell (World.block_lt_of_cell? w _ hw324_0)).trans hw324_0), ((HB.out.cell (World.block_lt_of_cell? w _ hw325_0)).trans hw325_0), ((HB.out.cell (World.block_lt_of_cell? w _ hw325_1)).trans hw325_1), ((HB.out.cell (World.block_lt_of_cell? w _ hw326_0)).trans hw326_0), ((HB.out.cell (World.block_lt_of_cell? w _ hw327_0)).trans hw327_0), ((HB.out.cell (World.block_lt_of_cell? w _ hw327_1)).trans hw327_1)⟩ (fun hHeld => ?_)
                 clear hK K
                 refine norm_ (a' := ?_) ?_ ?_
                 rotate_left
                 ·show Act.put _ (some 42) _ = _
                  simp only [Act.put, sA_, sZ_, sS_, i64_w, i32_w]; rfl
                 refine pure_ (i := 16) (N := some 10) (v := ?_) (a' := ?_) #[true, true, true, true, true, true, true, true, true, true, true, true, true, true, true, true, true] rfl rfl (any_of HT_.out (by kernel_rfl)) (fun _ _ _ h => h) (Or.inl ⟨by rfl, ?_⟩) ?_ ?_
                 rotate_left; ·intro w'; go_simp; with_reducible rfl
                 rotate_left; ·simp only [Act.put, sA_, sZ_, sS_, i64_w, i32_w]; rfl
                 refine done_ (done_of HT_.out (by kernel_rfl)) ?_
                 try go_wp2
                 have n0_ := Aside0.mk (below_drew1 HB.out)
                 clear HB; have HB := n0_; clear n0_
                 have p329 : 0 ≤ (a3 : Int) := of_decide_eq_true (by first | (with_reducible assumption) | assumption)
                 have q329 : a3 < (l1.length : Int) := of_decide_eq_true (by first | (with_reducible assumption) | assumption)
                 obtain ⟨ad329, e329, hx329_0⟩ := Kd.at_int HR1.out a3 p329 q329
                 have hw329_0 := hx329_0
                 obtain rfl : ad319 = ad329 := (by injection e329)
                 replace hx329_0 := (HB.out.cell (World.block_lt_of_cell? w _ hx329_0)).trans hx329_0
                 replace p329 := eq_true p329; replace q329 := eq_true q329
                 have p330 : 0 ≤ ((rd l1 a3) : Int) := of_decide_eq_true (by first | (with_reducible assumption) | assumption)
                 have q330 : (rd l1 a3) < (l0.length : Int) := of_decide_eq_true (by first | (with_reducible assumption) | assumption)
                 obtain ⟨ad330, e330, hx330_0, hx330_1⟩ := at_T31 HR0.out (rd l1 a3) p330 q330
                 have hw330_1 := hx330_1; have hw330_0 := hx330_0
                 obtain rfl : ad320 = ad330 := (by injection e330)
                 replace hx330_0 := (HB.out.cell (World.block_lt_of_cell? w _ hx330_0)).trans hx330_0
                 replace hx330_1 := (HB.out.cell (World.block_lt_of_cell? w _ hx330_1)).trans hx330_1
                 replace p330 := eq_true p330; replace q330 := eq_true q330
                 have p331 : 0 ≤ ((ji21) : Int) := of_decide_eq_true (by first | (with_reducible assumption) | assumption)
                 have q331 : (ji21) < (l1.length : Int) := of_decide_eq_true (by first | (with_reducible assumption) | assumption)
                 obtain ⟨ad331, e331, hx331_0⟩ := Kd.at_int HR1.out (ji21) p331 q331
                 have hw331_0 := hx331_0
                 obtain rfl : ad319 = ad331 := (by injection e331)
                 replace hx331_0 := (HB.out.cell (World.block_lt_of_cell? w _ hx331_0)).trans hx331_0
                 replace p331 := eq_true p331; replace q331 := eq_true q331
                 have p332 : 0 ≤ ((rd l1 (ji21)) : Int) := of_decide_eq_true (by first | (with_reducible assumption) | assumption)
                 have q332 : (rd l1 (ji21)) < (l0.length : Int) := of_decide_eq_true (by first | (with_reducible assumption) | assumption)
                 obtain ⟨ad332, e332, hx332_0, hx332_1⟩ := at_T31 HR0.out (rd l1 (ji21)) p332 q332
                 have hw332_1 := hx332_1; have hw332_0 := hx332_0
                 obtain rfl : ad320 = ad332 := (by injection e332)
                 replace hx332_0 := (HB.out.cell (World.block_lt_of_cell? w _ hx332_0)).trans hx332_0
                 replace hx332_1 := (HB.out.cell (World.block_lt_of_cell? w _ hx332_1)).trans hx332_1
                 replace p332 := eq_true p332; replace q332 := eq_true q332
                 refine start_ (n := 19) (S := fun w' => w'.cell? (ad319.add (a3).toNat) = some (.int .i64 (rd l1 a3)) ∧ w'.cell? (ad320.add (((rd l1 a3)).toNat * 2)) = some (.int .i64 ((rd_T31 l0 (rd l1 a3)).f0)) ∧ w'.cell? ⟨(ad320.add (((rd l1 a3)).toNat * 2)).block, (ad320.add (((rd l1 a3)).toNat * 2)).off + 1, none⟩ = some (.int .i64 ((rd_T31 l0 (rd l1 a3)).f1)) ∧ w'.cell? (ad319.add ((ji21)).toNat) = some (.int .i64 (rd l1 (ji21))) ∧ w'.cell? (ad320.add (((rd l1 (ji21))).toNat * 2)) = some (.int .i64 ((rd_T31 l0 (rd l1 (ji21))).f0)) ∧ w'.cell? ⟨(ad320.add (((rd l1 (ji21))).toNat * 2)).block, (ad320.add (((rd l1 (ji21))).toNat * 2)).off + 1, none⟩ = some (.int .i64 ((rd_T31 l0 (rd l1 (ji21))).f1))) (ds := []) #[false, false, false, false, false, false, false, false, false, false, false, false, false, false, false, false, false, false, false] (by kernel_rfl) rfl rfl ⟨((HB.out.cell (World.block_lt_of_cell? w _ hw329_0)).trans hw329_0), ((HB.out.cell (World.block_lt_of_cell? w _ hw330_0)).trans hw330_0), ((HB.out.cell (World.block_lt_of_cell? w _ hw330_1)).trans hw330_1), ((HB.out.cell (World.block_lt_of_cell? w _ hw331_0)).trans hw331_0), ((HB.out.cell (World.block_lt_of_cell? w _ hw332_0)).trans hw332_0), ((HB.out.cell (World.block_lt_of_cell? w _ hw332_1)).trans hw332_1)⟩ (fun hHeld => ?_); refine with_tabW tour_gain.tab4 tour_gain.bits4 (fun HT_ HW_ => ?_)
                 generalize w30.drew = w31 at HB hx329_0 hx330_0 hx330_1 hx331_0 hx332_0 hx332_1 hHeld ⊢
                 refine pure_ (i := 0) (N := some 48) (v := ?_) (a' := ?_) #[true, false, false, false, false, false, false, false, false, false, false, false, false, false, false, false, false, false, false] rfl rfl (any_of HT_.out (by kernel_rfl)) (fun _ _ _ h => h) (Or.inl ⟨by rfl, ?_⟩) ?_ ?_
                 rotate_left; ·intro w'; go_simp; with_reducible rfl
                 rotate_left; ·simp only [Act.put, sA_, sZ_, sS_, i64_w, i32_w]; rfl
                 refine pure_ (i := 1) (N := some 49) (v := ?_) (a' := ?_) #[true, true, false, false, false, false, false, false, false, false, false, false, false, false, false, false, false, false, false] rfl rfl (any_of HT_.out (by kernel_rfl)) (fun _ _ _ h => h) (Or.inl ⟨by rfl, ?_⟩) ?_ ?_
                 rotate_left; ·intro w'; go_simp; with_reducible rfl
                 rotate_left; ·simp only [Act.put, sA_, sZ_, sS_, i64_w, i32_w]; rfl
                 refine pure_ (i := 2) (N := some 50) (v := ?_) (a' := ?_) #[true, true, true, false, false, false, false, false, false, false, false, false, false, false, false, false, false, false, false] rfl rfl (any_of HT_.out (by kernel_rfl)) (fun _ _ _ h => h) (Or.inl ⟨by rfl, ?_⟩) ?_ ?_
                 rotate_left; ·intro w'; go_simp; with_reducible rfl
                 rotate_left; ·simp only [Act.put, sA_, sZ_, sS_, i64_w, i32_w]; rfl
                 refine pure_ (i := 3) (N := some 51) (v := ?_) (a' := ?_) #[true, true, true, true, false, false, false, false, false, false, false, false, false, false, false, false, false, false, false] rfl rfl (any_of HT_.out (by kernel_rfl)) (fun _ _ _ h => h) (Or.inl ⟨by rfl, ?_⟩) ?_ ?_
                 rotate_left; ·intro w'; go_simp; with_reducible rfl
                 rotate_left; ·simp only [Act.put, sA_, sZ_, sS_, i64_w, i32_w]; rfl
                 refine pure_ (i := 4) (N := some 52) (v := ?_) (a' := ?_) #[true, true, true, true, true, false, false, false, false, false, false, false, false, false, false, false, false, false, false] rfl rfl (any_of HT_.out (by kernel_rfl)) (fun _ _ _ h => h) (Or.inl ⟨by rfl, ?_⟩) ?_ ?_
                 rotate_left; ·intro w'; go_simp; with_reducible rfl
                 rotate_left; ·simp only [Act.put, sA_, sZ_, sS_, i64_w, i32_w]; rfl
                 refine pure_ (i := 8) (N := some 56) (v := ?_) (a' := ?_) #[true, true, true, true, true, false, false, false, true, false, false, false, false, false, false, false, false, false, false] rfl rfl (any_of HT_.out (by kernel_rfl)) (fun _ _ _ h => h) (Or.inl ⟨by rfl, ?_⟩) ?_ ?_
                 rotate_left; ·intro w'; go_simp; with_reducible rfl
                 rotate_left; ·simp only [Act.put, sA_, sZ_, sS_, i64_w, i32_w]; rfl
                 refine pure_ (i := 9) (N := some 57) (v := ?_) (a' := ?_) #[true, true, true, true, true, false, false, false, true, true, false, false, false, false, false, false, false, false, false] rfl rfl (any_of HT_.out (by kernel_rfl)) (fun _ _ _ h => h) (Or.inl ⟨by rfl, ?_⟩) ?_ ?_
                 rotate_left; ·intro w'; go_simp; with_reducible rfl
                 rotate_left; ·simp only [Act.put, sA_, sZ_, sS_, i64_w, i32_w]; rfl
                 refine pure_ (i := 10) (N := some 58) (v := ?_) (a' := ?_) #[true, true, true, true, true, false, false, false, true, true, true, false, false, false, false, false, false, false, false] rfl rfl (any_of HT_.out (by kernel_rfl)) (fun _ _ _ h => h) (Or.inl ⟨by rfl, ?_⟩) ?_ ?_
                 rotate_left; ·intro w'; go_simp; with_reducible rfl
                 rotate_left; ·simp only [Act.put, sA_, sZ_, sS_, i64_w, i32_w]; rfl
                 refine pure_ (i := 11) (N := some 59) (v := ?_) (a' := ?_) #[true, true, true, true, true, false, false, false, true, true, true, true, false, false, false, false, false, false, false] rfl rfl (any_of HT_.out (by kernel_rfl)) (fun _ _ _ h => h) (Or.inl ⟨by rfl, ?_⟩) ?_ ?_
                 rotate_left; ·intro w'; go_simp; with_reducible rfl
                 rotate_left; ·simp only [Act.put, sA_, sZ_, sS_, i64_w, i32_w]; rfl
                 refine pure_ (i := 12) (N := some 60) (v := ?_) (a' := ?_) #[true, true, true, true, true, false, false, false, true, true, true, true, true, false, false, false, false, false, false] rfl rfl (any_of HT_.out (by kernel_rfl)) (fun _ _ _ h => h) (Or.inl ⟨by rfl, ?_⟩) ?_ ?_
                 rotate_left; ·intro w'; go_simp; with_reducible rfl
                 rotate_left; ·simp only [Act.put, sA_, sZ_, sS_, i64_w, i32_w]; rfl
                 refine take_ (i := 5) (N := some 53) (v := ?_) (a' := ?_) #[true, true, true, true, true, true, false, false, true, true, true, true, true, false, false, false, false, false, false] rfl rfl (take_ofW HT_.out HW_.out (by kernel_rfl)) (fun _ _ _ h => h) (Or.inl ⟨by rfl, ?_⟩) hHeld ?_ ?_
                 rotate_left
                 ·rintro w' ⟨s0, s1, s2, s3, s4, s5⟩; go_simp; with_reducible rfl
                 rotate_left; ·simp only [Act.put, sA_, sZ_, sS_, i64_w, i32_w]; rfl
                 refine pure_ (i := 6) (N := some 54) (v := ?_) (a' := ?_) #[true, true, true, true, true, true, true, false, true, true, true, true, true, false, false, false, false, false, false] rfl rfl (any_of HT_.out (by kernel_rfl)) (fun _ _ _ h => h) (Or.inl ⟨by rfl, ?_⟩) ?_ ?_
                 rotate_left; ·intro w'; go_simp; with_reducible rfl
                 rotate_left; ·simp only [Act.put, sA_, sZ_, sS_, i64_w, i32_w]; rfl
                 refine take_ (i := 7) (N := some 55) (v := ?_) (a' := ?_) #[true, true, true, true, true, true, true, true, true, true, true, true, true, false, false, false, false, false, false] rfl rfl (take_ofW HT_.out HW_.out (by kernel_rfl)) (fun _ _ _ h => h) (Or.inl ⟨by rfl, ?_⟩) hHeld ?_ ?_
                 rotate_left
                 ·rintro w' ⟨s0, s1, s2, s3, s4, s5⟩; go_simp; with_reducible rfl
                 rotate_left; ·simp only [Act.put, sA_, sZ_, sS_, i64_w, i32_w]; rfl
                 refine take_ (i := 13) (N := some 61) (v := ?_) (a' := ?_) #[true, true, true, true, true, true, true, true, true, true, true, true, true, true, false, false, false, false, false] rfl rfl (take_ofW HT_.out HW_.out (by kernel_rfl)) (fun _ _ _ h => h) (Or.inl ⟨by rfl, ?_⟩) hHeld ?_ ?_
                 rotate_left
                 ·rintro w' ⟨s0, s1, s2, s3, s4, s5⟩; go_simp; with_reducible rfl
                 rotate_left; ·simp only [Act.put, sA_, sZ_, sS_, i64_w, i32_w]; rfl
                 refine pure_ (i := 14) (N := some 62) (v := ?_) (a' := ?_) #[true, true, true, true, true, true, true, true, true, true, true, true, true, true, true, false, false, false, false] rfl rfl (any_of HT_.out (by kernel_rfl)) (fun _ _ _ h => h) (Or.inl ⟨by rfl, ?_⟩) ?_ ?_
                 rotate_left; ·intro w'; go_simp; with_reducible rfl
                 rotate_left; ·simp only [Act.put, sA_, sZ_, sS_, i64_w, i32_w]; rfl
                 refine take_ (i := 15) (N := some 63) (v := ?_) (a' := ?_) #[true, true, true, true, true, true, true, true, true, true, true, true, true, true, true, true, false, false, false] rfl rfl (take_ofW HT_.out HW_.out (by kernel_rfl)) (fun _ _ _ h => h) (Or.inl ⟨by rfl, ?_⟩) hHeld ?_ ?_
                 rotate_left
                 ·rintro w' ⟨s0, s1, s2, s3, s4, s5⟩; go_simp; with_reducible rfl
                 rotate_left; ·simp only [Act.put, sA_, sZ_, sS_, i64_w, i32_w]; rfl
                 refine one_ (i := 16) (N := some 64) #[true, true, true, true, true, true, true, true, true, true, true, true, true, true, true, true, true, false, false] rfl rfl (one_of HT_.out (by kernel_rfl)) (by decide) (fun K hK => ?_)
                 refine goes_ Try.func15 (by kernel_rfl) rfl #[.agg #[.int .i64 ((rd_T31 l0 (rd l1 a3)).f0), .int .i64 ((rd_T31 l0 (rd l1 a3)).f1)], .agg #[.int .i64 ((rd_T31 l0 (rd l1 (ji21))).f0), .int .i64 ((rd_T31 l0 (rd l1 (ji21))).f1)]] (by rfl) rfl rfl (by (try simp only [List.map_toArray, List.map_cons, List.map_nil]); first | done | (simp only [hji21]; rfl) | rfl | (simp only [List.length_drop, List.length_take]; rfl)) ?_
                 with_reducible refine (tour_Distance.calls ((rd_T31 l0 (rd l1 a3)).f0) ((rd_T31 l0 (rd l1 a3)).f1) ((rd_T31 l0 (rd l1 (ji21))).f0) ((rd_T31 l0 (rd l1 (ji21))).f1) t333 _ A25.out).mono ?_
                 rintro e w32 ⟨rfl, hb⟩
                 refine ⟨_, rfl, ?_⟩
                 have n0_ := Aside0.mk (below_step (by repeat (first | (with_reducible first | exact HB.out | apply below_alloc | apply pw_below_drewN | apply below_drew1) | exact HB.out)) hb)
                 clear HB; have HB := n0_; clear n0_; (try clear hb); (try clear hb2); (try clear hk); (try clear hi)
                 refine hK.out _ _ ⟨((HB.out.cell (World.block_lt_of_cell? w _ hw329_0)).trans hw329_0), ((HB.out.cell (World.block_lt_of_cell? w _ hw330_0)).trans hw330_0), ((HB.out.cell (World.block_lt_of_cell? w _ hw330_1)).trans hw330_1), ((HB.out.cell (World.block_lt_of_cell? w _ hw331_0)).trans hw331_0), ((HB.out.cell (World.block_lt_of_cell? w _ hw332_0)).trans hw332_0), ((HB.out.cell (World.block_lt_of_cell? w _ hw332_1)).trans hw332_1)⟩ (fun hHeld => ?_)
                 clear hK K
                 refine norm_ (a' := ?_) ?_ ?_
                 rotate_left
                 ·show Act.put _ (some 64) _ = _
                  simp only [Act.put, sA_, sZ_, sS_, i64_w, i32_w]; rfl
                 refine pure_ (i := 17) (N := some 65) (v := ?_) (a' := ?_) #[true, true, true, true, true, true, true, true, true, true, true, true, true, true, true, true, true, true, false] rfl rfl (any_of HT_.out (by kernel_rfl)) (fun _ _ _ h => h) (Or.inl ⟨by rfl, ?_⟩) ?_ ?_
                 rotate_left; ·intro w'; go_simp; with_reducible rfl
                 rotate_left; ·simp only [Act.put, sA_, sZ_, sS_, i64_w, i32_w]; rfl
                 refine pure_ (i := 18) (N := some 9) (v := ?_) (a' := ?_) #[true, true, true, true, true, true, true, true, true, true, true, true, true, true, true, true, true, true, true] rfl rfl (any_of HT_.out (by kernel_rfl)) (fun _ _ _ h => h) (Or.inl ⟨by rfl, ?_⟩) ?_ ?_
                 rotate_left; ·intro w'; go_simp; with_reducible rfl
                 rotate_left; ·simp only [Act.put, sA_, sZ_, sS_, i64_w, i32_w]; rfl
                 refine done_ (done_of HT_.out (by kernel_rfl)) ?_
                 try go_wp2
                 have n0_ := Aside0.mk (below_drew1 HB.out)
                 clear HB; have HB := n0_; clear n0_
                 have p334 : 0 ≤ (a2 : Int) := of_decide_eq_true (by first | (with_reducible assumption) | assumption)
                 have q334 : a2 < (l1.length : Int) := of_decide_eq_true (by first | (with_reducible assumption) | assumption)
                 obtain ⟨ad334, e334, hx334_0⟩ := Kd.at_int HR1.out a2 p334 q334
                 have hw334_0 := hx334_0
                 obtain rfl : ad319 = ad334 := (by injection e334)
                 replace hx334_0 := (HB.out.cell (World.block_lt_of_cell? w _ hx334_0)).trans hx334_0
                 replace p334 := eq_true p334; replace q334 := eq_true q334
                 have p335 : 0 ≤ ((rd l1 a2) : Int) := of_decide_eq_true (by first | (with_reducible assumption) | assumption)
                 have q335 : (rd l1 a2) < (l0.length : Int) := of_decide_eq_true (by first | (with_reducible assumption) | assumption)
                 obtain ⟨ad335, e335, hx335_0, hx335_1⟩ := at_T31 HR0.out (rd l1 a2) p335 q335
                 have hw335_1 := hx335_1; have hw335_0 := hx335_0
                 obtain rfl : ad320 = ad335 := (by injection e335)
                 replace hx335_0 := (HB.out.cell (World.block_lt_of_cell? w _ hx335_0)).trans hx335_0
                 replace hx335_1 := (HB.out.cell (World.block_lt_of_cell? w _ hx335_1)).trans hx335_1
                 replace p335 := eq_true p335; replace q335 := eq_true q335
                 have p336 : 0 ≤ ((ji21) : Int) := of_decide_eq_true (by first | (with_reducible assumption) | assumption)
                 have q336 : (ji21) < (l1.length : Int) := of_decide_eq_true (by first | (with_reducible assumption) | assumption)
                 obtain ⟨ad336, e336, hx336_0⟩ := Kd.at_int HR1.out (ji21) p336 q336
                 have hw336_0 := hx336_0
                 obtain rfl : ad319 = ad336 := (by injection e336)
                 replace hx336_0 := (HB.out.cell (World.block_lt_of_cell? w _ hx336_0)).trans hx336_0
                 replace p336 := eq_true p336; replace q336 := eq_true q336
                 have p337 : 0 ≤ ((rd l1 (ji21)) : Int) := of_decide_eq_true (by first | (with_reducible assumption) | assumption)
                 have q337 : (rd l1 (ji21)) < (l0.length : Int) := of_decide_eq_true (by first | (with_reducible assumption) | assumption)
                 obtain ⟨ad337, e337, hx337_0, hx337_1⟩ := at_T31 HR0.out (rd l1 (ji21)) p337 q337
                 have hw337_1 := hx337_1; have hw337_0 := hx337_0
                 obtain rfl : ad320 = ad337 := (by injection e337)
                 replace hx337_0 := (HB.out.cell (World.block_lt_of_cell? w _ hx337_0)).trans hx337_0
                 replace hx337_1 := (HB.out.cell (World.block_lt_of_cell? w _ hx337_1)).trans hx337_1
                 replace p337 := eq_true p337; replace q337 := eq_true q337
                 refine start_ (n := 19) (S := fun w' => w'.cell? (ad319.add (a2).toNat) = some (.int .i64 (rd l1 a2)) ∧ w'.cell? (ad320.add (((rd l1 a2)).toNat * 2)) = some (.int .i64 ((rd_T31 l0 (rd l1 a2)).f0)) ∧ w'.cell? ⟨(ad320.add (((rd l1 a2)).toNat * 2)).block, (ad320.add (((rd l1 a2)).toNat * 2)).off + 1, none⟩ = some (.int .i64 ((rd_T31 l0 (rd l1 a2)).f1)) ∧ w'.cell? (ad319.add ((ji21)).toNat) = some (.int .i64 (rd l1 (ji21))) ∧ w'.cell? (ad320.add (((rd l1 (ji21))).toNat * 2)) = some (.int .i64 ((rd_T31 l0 (rd l1 (ji21))).f0)) ∧ w'.cell? ⟨(ad320.add (((rd l1 (ji21))).toNat * 2)).block, (ad320.add (((rd l1 (ji21))).toNat * 2)).off + 1, none⟩ = some (.int .i64 ((rd_T31 l0 (rd l1 (ji21))).f1))) (ds := []) #[false, false, false, false, false, false, false, false, false, false, false, false, false, false, false, false, false, false, false] (by kernel_rfl) rfl rfl ⟨((HB.out.cell (World.block_lt_of_cell? w _ hw334_0)).trans hw334_0), ((HB.out.cell (World.block_lt_of_cell? w _ hw335_0)).trans hw335_0), ((HB.out.cell (World.block_lt_of_cell? w _ hw335_1)).trans hw335_1), ((HB.out.cell (World.block_lt_of_cell? w _ hw336_0)).trans hw336_0), ((HB.out.cell (World.block_lt_of_cell? w _ hw337_0)).trans hw337_0), ((HB.out.cell (World.block_lt_of_cell? w _ hw337_1)).trans hw337_1)⟩ (fun hHeld => ?_); refine with_tabW tour_gain.tab5 tour_gain.bits5 (fun HT_ HW_ => ?_)
                 generalize w32.drew = w33 at HB hx334_0 hx335_0 hx335_1 hx336_0 hx337_0 hx337_1 hHeld ⊢
                 refine pure_ (i := 0) (N := some 66) (v := ?_) (a' := ?_) #[true, false, false, false, false, false, false, false, false, false, false, false, false, false, false, false, false, false, false] rfl rfl (any_of HT_.out (by kernel_rfl)) (fun _ _ _ h => h) (Or.inl ⟨by rfl, ?_⟩) ?_ ?_
                 rotate_left; ·intro w'; go_simp; with_reducible rfl
                 rotate_left; ·simp only [Act.put, sA_, sZ_, sS_, i64_w, i32_w]; rfl
                 refine pure_ (i := 1) (N := some 67) (v := ?_) (a' := ?_) #[true, true, false, false, false, false, false, false, false, false, false, false, false, false, false, false, false, false, false] rfl rfl (any_of HT_.out (by kernel_rfl)) (fun _ _ _ h => h) (Or.inl ⟨by rfl, ?_⟩) ?_ ?_
                 rotate_left; ·intro w'; go_simp; with_reducible rfl
                 rotate_left; ·simp only [Act.put, sA_, sZ_, sS_, i64_w, i32_w]; rfl
                 refine pure_ (i := 2) (N := some 68) (v := ?_) (a' := ?_) #[true, true, true, false, false, false, false, false, false, false, false, false, false, false, false, false, false, false, false] rfl rfl (any_of HT_.out (by kernel_rfl)) (fun _ _ _ h => h) (Or.inl ⟨by rfl, ?_⟩) ?_ ?_
                 rotate_left; ·intro w'; go_simp; with_reducible rfl
                 rotate_left; ·simp only [Act.put, sA_, sZ_, sS_, i64_w, i32_w]; rfl
                 refine pure_ (i := 3) (N := some 69) (v := ?_) (a' := ?_) #[true, true, true, true, false, false, false, false, false, false, false, false, false, false, false, false, false, false, false] rfl rfl (any_of HT_.out (by kernel_rfl)) (fun _ _ _ h => h) (Or.inl ⟨by rfl, ?_⟩) ?_ ?_
                 rotate_left; ·intro w'; go_simp; with_reducible rfl
                 rotate_left; ·simp only [Act.put, sA_, sZ_, sS_, i64_w, i32_w]; rfl
                 refine pure_ (i := 4) (N := some 70) (v := ?_) (a' := ?_) #[true, true, true, true, true, false, false, false, false, false, false, false, false, false, false, false, false, false, false] rfl rfl (any_of HT_.out (by kernel_rfl)) (fun _ _ _ h => h) (Or.inl ⟨by rfl, ?_⟩) ?_ ?_
                 rotate_left; ·intro w'; go_simp; with_reducible rfl
                 rotate_left; ·simp only [Act.put, sA_, sZ_, sS_, i64_w, i32_w]; rfl
                 refine pure_ (i := 8) (N := some 74) (v := ?_) (a' := ?_) #[true, true, true, true, true, false, false, false, true, false, false, false, false, false, false, false, false, false, false] rfl rfl (any_of HT_.out (by kernel_rfl)) (fun _ _ _ h => h) (Or.inl ⟨by rfl, ?_⟩) ?_ ?_
                 rotate_left; ·intro w'; go_simp; with_reducible rfl
                 rotate_left; ·simp only [Act.put, sA_, sZ_, sS_, i64_w, i32_w]; rfl
                 refine pure_ (i := 9) (N := some 75) (v := ?_) (a' := ?_) #[true, true, true, true, true, false, false, false, true, true, false, false, false, false, false, false, false, false, false] rfl rfl (any_of HT_.out (by kernel_rfl)) (fun _ _ _ h => h) (Or.inl ⟨by rfl, ?_⟩) ?_ ?_
                 rotate_left; ·intro w'; go_simp; with_reducible rfl
                 rotate_left; ·simp only [Act.put, sA_, sZ_, sS_, i64_w, i32_w]; rfl
                 refine pure_ (i := 10) (N := some 76) (v := ?_) (a' := ?_) #[true, true, true, true, true, false, false, false, true, true, true, false, false, false, false, false, false, false, false] rfl rfl (any_of HT_.out (by kernel_rfl)) (fun _ _ _ h => h) (Or.inl ⟨by rfl, ?_⟩) ?_ ?_
                 rotate_left; ·intro w'; go_simp; with_reducible rfl
                 rotate_left; ·simp only [Act.put, sA_, sZ_, sS_, i64_w, i32_w]; rfl
                 refine pure_ (i := 11) (N := some 77) (v := ?_) (a' := ?_) #[true, true, true, true, true, false, false, false, true, true, true, true, false, false, false, false, false, false, false] rfl rfl (any_of HT_.out (by kernel_rfl)) (fun _ _ _ h => h) (Or.inl ⟨by rfl, ?_⟩) ?_ ?_
                 rotate_left; ·intro w'; go_simp; with_reducible rfl
                 rotate_left; ·simp only [Act.put, sA_, sZ_, sS_, i64_w, i32_w]; rfl
                 refine pure_ (i := 12) (N := some 78) (v := ?_) (a' := ?_) #[true, true, true, true, true, false, false, false, true, true, true, true, true, false, false, false, false, false, false] rfl rfl (any_of HT_.out (by kernel_rfl)) (fun _ _ _ h => h) (Or.inl ⟨by rfl, ?_⟩) ?_ ?_
                 rotate_left; ·intro w'; go_simp; with_reducible rfl
                 rotate_left; ·simp only [Act.put, sA_, sZ_, sS_, i64_w, i32_w]; rfl
                 refine take_ (i := 5) (N := some 71) (v := ?_) (a' := ?_) #[true, true, true, true, true, true, false, false, true, true, true, true, true, false, false, false, false, false, false] rfl rfl (take_ofW HT_.out HW_.out (by kernel_rfl)) (fun _ _ _ h => h) (Or.inl ⟨by rfl, ?_⟩) hHeld ?_ ?_
                 rotate_left
                 ·rintro w' ⟨s0, s1, s2, s3, s4, s5⟩; go_simp; with_reducible rfl
                 rotate_left; ·simp only [Act.put, sA_, sZ_, sS_, i64_w, i32_w]; rfl
                 refine pure_ (i := 6) (N := some 72) (v := ?_) (a' := ?_) #[true, true, true, true, true, true, true, false, true, true, true, true, true, false, false, false, false, false, false] rfl rfl (any_of HT_.out (by kernel_rfl)) (fun _ _ _ h => h) (Or.inl ⟨by rfl, ?_⟩) ?_ ?_
                 rotate_left; ·intro w'; go_simp; with_reducible rfl
                 rotate_left; ·simp only [Act.put, sA_, sZ_, sS_, i64_w, i32_w]; rfl
                 refine take_ (i := 7) (N := some 73) (v := ?_) (a' := ?_) #[true, true, true, true, true, true, true, true, true, true, true, true, true, false, false, false, false, false, false] rfl rfl (take_ofW HT_.out HW_.out (by kernel_rfl)) (fun _ _ _ h => h) (Or.inl ⟨by rfl, ?_⟩) hHeld ?_ ?_
                 rotate_left
                 ·rintro w' ⟨s0, s1, s2, s3, s4, s5⟩; go_simp; with_reducible rfl
                 rotate_left; ·simp only [Act.put, sA_, sZ_, sS_, i64_w, i32_w]; rfl
                 refine take_ (i := 13) (N := some 79) (v := ?_) (a' := ?_) #[true, true, true, true, true, true, true, true, true, true, true, true, true, true, false, false, false, false, false] rfl rfl (take_ofW HT_.out HW_.out (by kernel_rfl)) (fun _ _ _ h => h) (Or.inl ⟨by rfl, ?_⟩) hHeld ?_ ?_
                 rotate_left
                 ·rintro w' ⟨s0, s1, s2, s3, s4, s5⟩; go_simp; with_reducible rfl
                 rotate_left; ·simp only [Act.put, sA_, sZ_, sS_, i64_w, i32_w]; rfl
                 refine pure_ (i := 14) (N := some 80) (v := ?_) (a' := ?_) #[true, true, true, true, true, true, true, true, true, true, true, true, true, true, true, false, false, false, false] rfl rfl (any_of HT_.out (by kernel_rfl)) (fun _ _ _ h => h) (Or.inl ⟨by rfl, ?_⟩) ?_ ?_
                 rotate_left; ·intro w'; go_simp; with_reducible rfl
                 rotate_left; ·simp only [Act.put, sA_, sZ_, sS_, i64_w, i32_w]; rfl
                 refine take_ (i := 15) (N := some 81) (v := ?_) (a' := ?_) #[true, true, true, true, true, true, true, true, true, true, true, true, true, true, true, true, false, false, false] rfl rfl (take_ofW HT_.out HW_.out (by kernel_rfl)) (fun _ _ _ h => h) (Or.inl ⟨by rfl, ?_⟩) hHeld ?_ ?_
                 rotate_left
                 ·rintro w' ⟨s0, s1, s2, s3, s4, s5⟩; go_simp; with_reducible rfl
                 rotate_left; ·simp only [Act.put, sA_, sZ_, sS_, i64_w, i32_w]; rfl
                 refine one_ (i := 16) (N := some 82) #[true, true, true, true, true, true, true, true, true, true, true, true, true, true, true, true, true, false, false] rfl rfl (one_of HT_.out (by kernel_rfl)) (by decide) (fun K hK => ?_)
                 refine goes_ Try.func15 (by kernel_rfl) rfl #[.agg #[.int .i64 ((rd_T31 l0 (rd l1 a2)).f0), .int .i64 ((rd_T31 l0 (rd l1 a2)).f1)], .agg #[.int .i64 ((rd_T31 l0 (rd l1 (ji21))).f0), .int .i64 ((rd_T31 l0 (rd l1 (ji21))).f1)]] (by rfl) rfl rfl (by (try simp only [List.map_toArray, List.map_cons, List.map_nil]); first | done | (simp only [hji21]; rfl) | rfl | (simp only [List.length_drop, List.length_take]; rfl)) ?_
                 with_reducible refine (tour_Distance.calls ((rd_T31 l0 (rd l1 a2)).f0) ((rd_T31 l0 (rd l1 a2)).f1) ((rd_T31 l0 (rd l1 (ji21))).f0) ((rd_T31 l0 (rd l1 (ji21))).f1) t338 _ A26.out).mono ?_
                 rintro e w34 ⟨rfl, hb⟩
                 refine ⟨_, rfl, ?_⟩
                 have n0_ := Aside0.mk (below_step (by repeat (first | (with_reducible first | exact HB.out | apply below_alloc | apply pw_below_drewN | apply below_drew1) | exact HB.out)) hb)
                 clear HB; have HB := n0_; clear n0_; (try clear hb); (try clear hb2); (try clear hk); (try clear hi)
                 refine hK.out _ _ ⟨((HB.out.cell (World.block_lt_of_cell? w _ hw334_0)).trans hw334_0), ((HB.out.cell (World.block_lt_of_cell? w _ hw335_0)).trans hw335_0), ((HB.out.cell (World.block_lt_of_cell? w _ hw335_1)).trans hw335_1), ((HB.out.cell (World.block_lt_of_cell? w _ hw336_0)).trans hw336_0), ((HB.out.cell (World.block_lt_of_cell? w _ hw337_0)).trans hw337_0), ((HB.out.cell (World.block_lt_of_cell? w _ hw337_1)).trans hw337_1)⟩ (fun hHeld => ?_)
                 clear hK K
                 refine norm_ (a' := ?_) ?_ ?_
                 rotate_left
                 ·show Act.put _ (some 82) _ = _
                  simp only [Act.put, sA_, sZ_, sS_, i64_w, i32_w]; rfl
                 refine pure_ (i := 17) (N := some 83) (v := ?_) (a' := ?_) #[true, true, true, true, true, true, true, true, true, true, true, true, true, true, true, true, true, true, false] rfl rfl (any_of HT_.out (by kernel_rfl)) (fun _ _ _ h => h) (Or.inl ⟨by rfl, ?_⟩) ?_ ?_
                 rotate_left; ·intro w'; go_simp; with_reducible rfl
                 rotate_left; ·simp only [Act.put, sA_, sZ_, sS_, i64_w, i32_w]; rfl
                 refine pure_ (i := 18) (N := some 10) (v := ?_) (a' := ?_) #[true, true, true, true, true, true, true, true, true, true, true, true, true, true, true, true, true, true, true] rfl rfl (any_of HT_.out (by kernel_rfl)) (fun _ _ _ h => h) (Or.inl ⟨by rfl, ?_⟩) ?_ ?_
                 rotate_left; ·intro w'; go_simp; with_reducible rfl
                 rotate_left; ·simp only [Act.put, sA_, sZ_, sS_, i64_w, i32_w]; rfl
                 refine done_ (done_of HT_.out (by kernel_rfl)) ?_
                 try go_wp2
                 go_ret
                 exact ⟨by first | rfl | (simp [errW_none, errW_some] <;> rfl) | (simp only [← hji5, ← hji21]; first | rfl | (simp [errW_none, errW_some] <;> rfl)) | (simp [*, errW_none, errW_some] <;> rfl), by repeat (first | (with_reducible first | exact HB.out | apply below_alloc | apply pw_below_drewN | apply below_drew1) | exact HB.out)⟩
                ·rw [if_neg c24] at H
                 exact absurd H (by simp)
               ·rw [if_neg c23] at H
                exact absurd H (by simp)
              ·rw [if_neg c22] at H
               exact absurd H (by simp)
             ·rw [if_neg c20] at H
              have c20b0 : decide ((wrap64 (a3 + 1)) < (l1.length : Int)) = false := decide_eq_false c20
              clear c20; obtain rfl := Option.some.inj H
              go_enter Try.func42, Try.ntmps42
              try go_wp2
              have n0_ := Aside0.mk (below_drew1 HB.out)
              clear HB; have HB := n0_; clear n0_
              have p319 : 0 ≤ ((ji5) : Int) := of_decide_eq_true (by first | (with_reducible assumption) | assumption)
              have q319 : (ji5) < (l1.length : Int) := of_decide_eq_true (by first | (with_reducible assumption) | assumption)
              obtain ⟨ad319, e319, hx319_0⟩ := Kd.at_int HR1.out (ji5) p319 q319
              have hw319_0 := hx319_0; cases e319
              replace hx319_0 := (HB.out.cell (World.block_lt_of_cell? w _ hx319_0)).trans hx319_0
              replace p319 := eq_true p319; replace q319 := eq_true q319
              have p320 : 0 ≤ ((rd l1 (ji5)) : Int) := of_decide_eq_true (by first | (with_reducible assumption) | assumption)
              have q320 : (rd l1 (ji5)) < (l0.length : Int) := of_decide_eq_true (by first | (with_reducible assumption) | assumption)
              obtain ⟨ad320, e320, hx320_0, hx320_1⟩ := at_T31 HR0.out (rd l1 (ji5)) p320 q320
              have hw320_1 := hx320_1; have hw320_0 := hx320_0; cases e320
              replace hx320_0 := (HB.out.cell (World.block_lt_of_cell? w _ hx320_0)).trans hx320_0
              replace hx320_1 := (HB.out.cell (World.block_lt_of_cell? w _ hx320_1)).trans hx320_1
              replace p320 := eq_true p320; replace q320 := eq_true q320
              have p321 : 0 ≤ (a2 : Int) := of_decide_eq_true (by first | (with_reducible assumption) | assumption)
              have q321 : a2 < (l1.length : Int) := of_decide_eq_true (by first | (with_reducible assumption) | assumption)
              obtain ⟨ad321, e321, hx321_0⟩ := Kd.at_int HR1.out a2 p321 q321
              have hw321_0 := hx321_0
              obtain rfl : ad319 = ad321 := (by injection e321)
              replace hx321_0 := (HB.out.cell (World.block_lt_of_cell? w _ hx321_0)).trans hx321_0
              replace p321 := eq_true p321; replace q321 := eq_true q321
              have p322 : 0 ≤ ((rd l1 a2) : Int) := of_decide_eq_true (by first | (with_reducible assumption) | assumption)
              have q322 : (rd l1 a2) < (l0.length : Int) := of_decide_eq_true (by first | (with_reducible assumption) | assumption)
              obtain ⟨ad322, e322, hx322_0, hx322_1⟩ := at_T31 HR0.out (rd l1 a2) p322 q322
              have hw322_1 := hx322_1; have hw322_0 := hx322_0
              obtain rfl : ad320 = ad322 := (by injection e322)
              replace hx322_0 := (HB.out.cell (World.block_lt_of_cell? w _ hx322_0)).trans hx322_0
              replace hx322_1 := (HB.out.cell (World.block_lt_of_cell? w _ hx322_1)).trans hx322_1
              replace p322 := eq_true p322; replace q322 := eq_true q322
              refine start_ (n := 17) (S := fun w' => w'.cell? (ad319.add ((ji5)).toNat) = some (.int .i64 (rd l1 (ji5))) ∧ w'.cell? (ad320.add (((rd l1 (ji5))).toNat * 2)) = some (.int .i64 ((rd_T31 l0 (rd l1 (ji5))).f0)) ∧ w'.cell? ⟨(ad320.add (((rd l1 (ji5))).toNat * 2)).block, (ad320.add (((rd l1 (ji5))).toNat * 2)).off + 1, none⟩ = some (.int .i64 ((rd_T31 l0 (rd l1 (ji5))).f1)) ∧ w'.cell? (ad319.add (a2).toNat) = some (.int .i64 (rd l1 a2)) ∧ w'.cell? (ad320.add (((rd l1 a2)).toNat * 2)) = some (.int .i64 ((rd_T31 l0 (rd l1 a2)).f0)) ∧ w'.cell? ⟨(ad320.add (((rd l1 a2)).toNat * 2)).block, (ad320.add (((rd l1 a2)).toNat * 2)).off + 1, none⟩ = some (.int .i64 ((rd_T31 l0 (rd l1 a2)).f1))) (ds := []) #[false, false, false, false, false, false, false, false, false, false, false, false, false, false, false, false, false] (by kernel_rfl) rfl rfl ⟨((HB.out.cell (World.block_lt_of_cell? w _ hw319_0)).trans hw319_0), ((HB.out.cell (World.block_lt_of_cell? w _ hw320_0)).trans hw320_0), ((HB.out.cell (World.block_lt_of_cell? w _ hw320_1)).trans hw320_1), ((HB.out.cell (World.block_lt_of_cell? w _ hw321_0)).trans hw321_0), ((HB.out.cell (World.block_lt_of_cell? w _ hw322_0)).trans hw322_0), ((HB.out.cell (World.block_lt_of_cell? w _ hw322_1)).trans hw322_1)⟩ (fun hHeld => ?_); refine with_tabW tour_gain.tab1 tour_gain.bits1 (fun HT_ HW_ => ?_)
              generalize w.drew = w35 at HB hx319_0 hx320_0 hx320_1 hx321_0 hx322_0 hx322_1 hHeld ⊢
              refine pure_ (i := 0) (N := some 11) (v := ?_) (a' := ?_) #[true, false, false, false, false, false, false, false, false, false, false, false, false, false, false, false, false] rfl rfl (any_of HT_.out (by kernel_rfl)) (fun _ _ _ h => h) (Or.inl ⟨by rfl, ?_⟩) ?_ ?_
              rotate_left; ·intro w'; go_simp; with_reducible rfl
              rotate_left; ·simp only [Act.put, sA_, sZ_, sS_, i64_w, i32_w]; rfl
              refine pure_ (i := 1) (N := some 12) (v := ?_) (a' := ?_) #[true, true, false, false, false, false, false, false, false, false, false, false, false, false, false, false, false] rfl rfl (any_of HT_.out (by kernel_rfl)) (fun _ _ _ h => h) (Or.inl ⟨by rfl, ?_⟩) ?_ ?_
              rotate_left; ·intro w'; go_simp; with_reducible rfl
              rotate_left; ·simp only [Act.put, sA_, sZ_, sS_, i64_w, i32_w]; rfl
              refine pure_ (i := 2) (N := some 13) (v := ?_) (a' := ?_) #[true, true, true, false, false, false, false, false, false, false, false, false, false, false, false, false, false] rfl rfl (any_of HT_.out (by kernel_rfl)) (fun _ _ _ h => h) (Or.inl ⟨by rfl, ?_⟩) ?_ ?_
              rotate_left; ·intro w'; go_simp; with_reducible rfl
              rotate_left; ·simp only [Act.put, sA_, sZ_, sS_, i64_w, i32_w]; rfl
              refine pure_ (i := 3) (N := some 14) (v := ?_) (a' := ?_) #[true, true, true, true, false, false, false, false, false, false, false, false, false, false, false, false, false] rfl rfl (any_of HT_.out (by kernel_rfl)) (fun _ _ _ h => h) (Or.inl ⟨by rfl, ?_⟩) ?_ ?_
              rotate_left; ·intro w'; go_simp; with_reducible rfl
              rotate_left; ·simp only [Act.put, sA_, sZ_, sS_, i64_w, i32_w]; rfl
              refine pure_ (i := 4) (N := some 15) (v := ?_) (a' := ?_) #[true, true, true, true, true, false, false, false, false, false, false, false, false, false, false, false, false] rfl rfl (any_of HT_.out (by kernel_rfl)) (fun _ _ _ h => h) (Or.inl ⟨by rfl, ?_⟩) ?_ ?_
              rotate_left; ·intro w'; go_simp; with_reducible rfl
              rotate_left; ·simp only [Act.put, sA_, sZ_, sS_, i64_w, i32_w]; rfl
              refine pure_ (i := 8) (N := some 19) (v := ?_) (a' := ?_) #[true, true, true, true, true, false, false, false, true, false, false, false, false, false, false, false, false] rfl rfl (any_of HT_.out (by kernel_rfl)) (fun _ _ _ h => h) (Or.inl ⟨by rfl, ?_⟩) ?_ ?_
              rotate_left; ·intro w'; go_simp; with_reducible rfl
              rotate_left; ·simp only [Act.put, sA_, sZ_, sS_, i64_w, i32_w]; rfl
              refine pure_ (i := 9) (N := some 20) (v := ?_) (a' := ?_) #[true, true, true, true, true, false, false, false, true, true, false, false, false, false, false, false, false] rfl rfl (any_of HT_.out (by kernel_rfl)) (fun _ _ _ h => h) (Or.inl ⟨by rfl, ?_⟩) ?_ ?_
              rotate_left; ·intro w'; go_simp; with_reducible rfl
              rotate_left; ·simp only [Act.put, sA_, sZ_, sS_, i64_w, i32_w]; rfl
              refine pure_ (i := 10) (N := some 21) (v := ?_) (a' := ?_) #[true, true, true, true, true, false, false, false, true, true, true, false, false, false, false, false, false] rfl rfl (any_of HT_.out (by kernel_rfl)) (fun _ _ _ h => h) (Or.inl ⟨by rfl, ?_⟩) ?_ ?_
              rotate_left; ·intro w'; go_simp; with_reducible rfl
              rotate_left; ·simp only [Act.put, sA_, sZ_, sS_, i64_w, i32_w]; rfl
              refine pure_ (i := 11) (N := some 22) (v := ?_) (a' := ?_) #[true, true, true, true, true, false, false, false, true, true, true, true, false, false, false, false, false] rfl rfl (any_of HT_.out (by kernel_rfl)) (fun _ _ _ h => h) (Or.inl ⟨by rfl, ?_⟩) ?_ ?_
              rotate_left; ·intro w'; go_simp; with_reducible rfl
              rotate_left; ·simp only [Act.put, sA_, sZ_, sS_, i64_w, i32_w]; rfl
              refine take_ (i := 5) (N := some 16) (v := ?_) (a' := ?_) #[true, true, true, true, true, true, false, false, true, true, true, true, false, false, false, false, false] rfl rfl (take_ofW HT_.out HW_.out (by kernel_rfl)) (fun _ _ _ h => h) (Or.inl ⟨by rfl, ?_⟩) hHeld ?_ ?_
              rotate_left
              ·rintro w' ⟨s0, s1, s2, s3, s4, s5⟩; go_simp; with_reducible rfl
              rotate_left; ·simp only [Act.put, sA_, sZ_, sS_, i64_w, i32_w]; rfl
              refine pure_ (i := 6) (N := some 17) (v := ?_) (a' := ?_) #[true, true, true, true, true, true, true, false, true, true, true, true, false, false, false, false, false] rfl rfl (any_of HT_.out (by kernel_rfl)) (fun _ _ _ h => h) (Or.inl ⟨by rfl, ?_⟩) ?_ ?_
              rotate_left; ·intro w'; go_simp; with_reducible rfl
              rotate_left; ·simp only [Act.put, sA_, sZ_, sS_, i64_w, i32_w]; rfl
              refine take_ (i := 7) (N := some 18) (v := ?_) (a' := ?_) #[true, true, true, true, true, true, true, true, true, true, true, true, false, false, false, false, false] rfl rfl (take_ofW HT_.out HW_.out (by kernel_rfl)) (fun _ _ _ h => h) (Or.inl ⟨by rfl, ?_⟩) hHeld ?_ ?_
              rotate_left
              ·rintro w' ⟨s0, s1, s2, s3, s4, s5⟩; go_simp; with_reducible rfl
              rotate_left; ·simp only [Act.put, sA_, sZ_, sS_, i64_w, i32_w]; rfl
              refine take_ (i := 12) (N := some 23) (v := ?_) (a' := ?_) #[true, true, true, true, true, true, true, true, true, true, true, true, true, false, false, false, false] rfl rfl (take_ofW HT_.out HW_.out (by kernel_rfl)) (fun _ _ _ h => h) (Or.inl ⟨by rfl, ?_⟩) hHeld ?_ ?_
              rotate_left
              ·rintro w' ⟨s0, s1, s2, s3, s4, s5⟩; go_simp; with_reducible rfl
              rotate_left; ·simp only [Act.put, sA_, sZ_, sS_, i64_w, i32_w]; rfl
              refine pure_ (i := 13) (N := some 24) (v := ?_) (a' := ?_) #[true, true, true, true, true, true, true, true, true, true, true, true, true, true, false, false, false] rfl rfl (any_of HT_.out (by kernel_rfl)) (fun _ _ _ h => h) (Or.inl ⟨by rfl, ?_⟩) ?_ ?_
              rotate_left; ·intro w'; go_simp; with_reducible rfl
              rotate_left; ·simp only [Act.put, sA_, sZ_, sS_, i64_w, i32_w]; rfl
              refine take_ (i := 14) (N := some 25) (v := ?_) (a' := ?_) #[true, true, true, true, true, true, true, true, true, true, true, true, true, true, true, false, false] rfl rfl (take_ofW HT_.out HW_.out (by kernel_rfl)) (fun _ _ _ h => h) (Or.inl ⟨by rfl, ?_⟩) hHeld ?_ ?_
              rotate_left
              ·rintro w' ⟨s0, s1, s2, s3, s4, s5⟩; go_simp; with_reducible rfl
              rotate_left; ·simp only [Act.put, sA_, sZ_, sS_, i64_w, i32_w]; rfl
              refine one_ (i := 15) (N := some 26) #[true, true, true, true, true, true, true, true, true, true, true, true, true, true, true, true, false] rfl rfl (one_of HT_.out (by kernel_rfl)) (by decide) (fun K hK => ?_)
              refine goes_ Try.func15 (by kernel_rfl) rfl #[.agg #[.int .i64 ((rd_T31 l0 (rd l1 (ji5))).f0), .int .i64 ((rd_T31 l0 (rd l1 (ji5))).f1)], .agg #[.int .i64 ((rd_T31 l0 (rd l1 a2)).f0), .int .i64 ((rd_T31 l0 (rd l1 a2)).f1)]] (by rfl) rfl rfl (by (try simp only [List.map_toArray, List.map_cons, List.map_nil]); first | done | (simp only [hji5]; rfl) | rfl | (simp only [List.length_drop, List.length_take]; rfl)) ?_
              with_reducible refine (tour_Distance.calls ((rd_T31 l0 (rd l1 (ji5))).f0) ((rd_T31 l0 (rd l1 (ji5))).f1) ((rd_T31 l0 (rd l1 a2)).f0) ((rd_T31 l0 (rd l1 a2)).f1) t323 _ A14.out).mono ?_
              rintro e w36 ⟨rfl, hb⟩
              refine ⟨_, rfl, ?_⟩
              have n0_ := Aside0.mk (below_step (by repeat (first | (with_reducible first | exact HB.out | apply below_alloc | apply pw_below_drewN | apply below_drew1) | exact HB.out)) hb)
              clear HB; have HB := n0_; clear n0_; (try clear hb); (try clear hb2); (try clear hk); (try clear hi)
              refine hK.out _ _ ⟨((HB.out.cell (World.block_lt_of_cell? w _ hw319_0)).trans hw319_0), ((HB.out.cell (World.block_lt_of_cell? w _ hw320_0)).trans hw320_0), ((HB.out.cell (World.block_lt_of_cell? w _ hw320_1)).trans hw320_1), ((HB.out.cell (World.block_lt_of_cell? w _ hw321_0)).trans hw321_0), ((HB.out.cell (World.block_lt_of_cell? w _ hw322_0)).trans hw322_0), ((HB.out.cell (World.block_lt_of_cell? w _ hw322_1)).trans hw322_1)⟩ (fun hHeld => ?_)
              clear hK K
              refine norm_ (a' := ?_) ?_ ?_
              rotate_left
              ·show Act.put _ (some 26) _ = _
               simp only [Act.put, sA_, sZ_, sS_, i64_w, i32_w]; rfl
              refine pure_ (i := 16) (N := some 9) (v := ?_) (a' := ?_) #[true, true, true, true, true, true, true, true, true, true, true, true, true, true, true, true, true] rfl rfl (any_of HT_.out (by kernel_rfl)) (fun _ _ _ h => h) (Or.inl ⟨by rfl, ?_⟩) ?_ ?_
              rotate_left; ·intro w'; go_simp; with_reducible rfl
              rotate_left; ·simp only [Act.put, sA_, sZ_, sS_, i64_w, i32_w]; rfl
              refine done_ (done_of HT_.out (by kernel_rfl)) ?_
              try go_wp2
              have n0_ := Aside0.mk (below_drew1 HB.out)
              clear HB; have HB := n0_; clear n0_
              have p324 : 0 ≤ ((ji5) : Int) := of_decide_eq_true (by first | (with_reducible assumption) | assumption)
              have q324 : (ji5) < (l1.length : Int) := of_decide_eq_true (by first | (with_reducible assumption) | assumption)
              obtain ⟨ad324, e324, hx324_0⟩ := Kd.at_int HR1.out (ji5) p324 q324
              have hw324_0 := hx324_0
              obtain rfl : ad319 = ad324 := (by injection e324)
              replace hx324_0 := (HB.out.cell (World.block_lt_of_cell? w _ hx324_0)).trans hx324_0
              replace p324 := eq_true p324; replace q324 := eq_true q324
              have p325 : 0 ≤ ((rd l1 (ji5)) : Int) := of_decide_eq_true (by first | (with_reducible assumption) | assumption)
              have q325 : (rd l1 (ji5)) < (l0.length : Int) := of_decide_eq_true (by first | (with_reducible assumption) | assumption)
              obtain ⟨ad325, e325, hx325_0, hx325_1⟩ := at_T31 HR0.out (rd l1 (ji5)) p325 q325
              have hw325_1 := hx325_1; have hw325_0 := hx325_0
              obtain rfl : ad320 = ad325 := (by injection e325)
              replace hx325_0 := (HB.out.cell (World.block_lt_of_cell? w _ hx325_0)).trans hx325_0
              replace hx325_1 := (HB.out.cell (World.block_lt_of_cell? w _ hx325_1)).trans hx325_1
              replace p325 := eq_true p325; replace q325 := eq_true q325
              have p326 : 0 ≤ (a3 : Int) := of_decide_eq_true (by first | (with_reducible assumption) | assumption)
              have q326 : a3 < (l1.length : Int) := of_decide_eq_true (by first | (with_reducible assumption) | assumption)
              obtain ⟨ad326, e326, hx326_0⟩ := Kd.at_int HR1.out a3 p326 q326
              have hw326_0 := hx326_0
              obtain rfl : ad319 = ad326 := (by injection e326)
              replace hx326_0 := (HB.out.cell (World.block_lt_of_cell? w _ hx326_0)).trans hx326_0
              replace p326 := eq_true p326; replace q326 := eq_true q326
              have p327 : 0 ≤ ((rd l1 a3) : Int) := of_decide_eq_true (by first | (with_reducible assumption) | assumption)
              have q327 : (rd l1 a3) < (l0.length : Int) := of_decide_eq_true (by first | (with_reducible assumption) | assumption)
              obtain ⟨ad327, e327, hx327_0, hx327_1⟩ := at_T31 HR0.out (rd l1 a3) p327 q327
              have hw327_1 := hx327_1; have hw327_0 := hx327_0
              obtain rfl : ad320 = ad327 := (by injection e327)
              replace hx327_0 := (HB.out.cell (World.block_lt_of_cell? w _ hx327_0)).trans hx327_0
              replace hx327_1 := (HB.out.cell (World.block_lt_of_cell? w _ hx327_1)).trans hx327_1
              replace p327 := eq_true p327; replace q327 := eq_true q327
              refine start_ (n := 17) (S := fun w' => w'.cell? (ad319.add ((ji5)).toNat) = some (.int .i64 (rd l1 (ji5))) ∧ w'.cell? (ad320.add (((rd l1 (ji5))).toNat * 2)) = some (.int .i64 ((rd_T31 l0 (rd l1 (ji5))).f0)) ∧ w'.cell? ⟨(ad320.add (((rd l1 (ji5))).toNat * 2)).block, (ad320.add (((rd l1 (ji5))).toNat * 2)).off + 1, none⟩ = some (.int .i64 ((rd_T31 l0 (rd l1 (ji5))).f1)) ∧ w'.cell? (ad319.add (a3).toNat) = some (.int .i64 (rd l1 a3)) ∧ w'.cell? (ad320.add (((rd l1 a3)).toNat * 2)) = some (.int .i64 ((rd_T31 l0 (rd l1 a3)).f0)) ∧ w'.cell? ⟨(ad320.add (((rd l1 a3)).toNat * 2)).block, (ad320.add (((rd l1 a3)).toNat * 2)).off + 1, none⟩ = some (.int .i64 ((rd_T31 l0 (rd l1 a3)).f1))) (ds := []) #[false, false, false, false, false, false, false, false, false, false, false, false, false, false, false, false, false] (by kernel_rfl) rfl rfl ⟨((HB.out.cell (World.block_lt_of_cell? w _ hw324_0)).trans hw324_0), ((HB.out.cell (World.block_lt_of_cell? w _ hw325_0)).trans hw325_0), ((HB.out.cell (World.block_lt_of_cell? w _ hw325_1)).trans hw325_1), ((HB.out.cell (World.block_lt_of_cell? w _ hw326_0)).trans hw326_0), ((HB.out.cell (World.block_lt_of_cell? w _ hw327_0)).trans hw327_0), ((HB.out.cell (World.block_lt_of_cell? w _ hw327_1)).trans hw327_1)⟩ (fun hHeld => ?_); refine with_tabW tour_gain.tab2 tour_gain.bits2 (fun HT_ HW_ => ?_)
              generalize w36.drew = w37 at HB hx324_0 hx325_0 hx325_1 hx326_0 hx327_0 hx327_1 hHeld ⊢
              refine pure_ (i := 0) (N := some 27) (v := ?_) (a' := ?_) #[true, false, false, false, false, false, false, false, false, false, false, false, false, false, false, false, false] rfl rfl (any_of HT_.out (by kernel_rfl)) (fun _ _ _ h => h) (Or.inl ⟨by rfl, ?_⟩) ?_ ?_
              rotate_left; ·intro w'; go_simp; with_reducible rfl
              rotate_left; ·simp only [Act.put, sA_, sZ_, sS_, i64_w, i32_w]; rfl
              refine pure_ (i := 1) (N := some 28) (v := ?_) (a' := ?_) #[true, true, false, false, false, false, false, false, false, false, false, false, false, false, false, false, false] rfl rfl (any_of HT_.out (by kernel_rfl)) (fun _ _ _ h => h) (Or.inl ⟨by rfl, ?_⟩) ?_ ?_
              rotate_left; ·intro w'; go_simp; with_reducible rfl
              rotate_left; ·simp only [Act.put, sA_, sZ_, sS_, i64_w, i32_w]; rfl
              refine pure_ (i := 2) (N := some 29) (v := ?_) (a' := ?_) #[true, true, true, false, false, false, false, false, false, false, false, false, false, false, false, false, false] rfl rfl (any_of HT_.out (by kernel_rfl)) (fun _ _ _ h => h) (Or.inl ⟨by rfl, ?_⟩) ?_ ?_
              rotate_left; ·intro w'; go_simp; with_reducible rfl
              rotate_left; ·simp only [Act.put, sA_, sZ_, sS_, i64_w, i32_w]; rfl
              refine pure_ (i := 3) (N := some 30) (v := ?_) (a' := ?_) #[true, true, true, true, false, false, false, false, false, false, false, false, false, false, false, false, false] rfl rfl (any_of HT_.out (by kernel_rfl)) (fun _ _ _ h => h) (Or.inl ⟨by rfl, ?_⟩) ?_ ?_
              rotate_left; ·intro w'; go_simp; with_reducible rfl
              rotate_left; ·simp only [Act.put, sA_, sZ_, sS_, i64_w, i32_w]; rfl
              refine pure_ (i := 4) (N := some 31) (v := ?_) (a' := ?_) #[true, true, true, true, true, false, false, false, false, false, false, false, false, false, false, false, false] rfl rfl (any_of HT_.out (by kernel_rfl)) (fun _ _ _ h => h) (Or.inl ⟨by rfl, ?_⟩) ?_ ?_
              rotate_left; ·intro w'; go_simp; with_reducible rfl
              rotate_left; ·simp only [Act.put, sA_, sZ_, sS_, i64_w, i32_w]; rfl
              refine pure_ (i := 8) (N := some 35) (v := ?_) (a' := ?_) #[true, true, true, true, true, false, false, false, true, false, false, false, false, false, false, false, false] rfl rfl (any_of HT_.out (by kernel_rfl)) (fun _ _ _ h => h) (Or.inl ⟨by rfl, ?_⟩) ?_ ?_
              rotate_left; ·intro w'; go_simp; with_reducible rfl
              rotate_left; ·simp only [Act.put, sA_, sZ_, sS_, i64_w, i32_w]; rfl
              refine pure_ (i := 9) (N := some 36) (v := ?_) (a' := ?_) #[true, true, true, true, true, false, false, false, true, true, false, false, false, false, false, false, false] rfl rfl (any_of HT_.out (by kernel_rfl)) (fun _ _ _ h => h) (Or.inl ⟨by rfl, ?_⟩) ?_ ?_
              rotate_left; ·intro w'; go_simp; with_reducible rfl
              rotate_left; ·simp only [Act.put, sA_, sZ_, sS_, i64_w, i32_w]; rfl
              refine pure_ (i := 10) (N := some 37) (v := ?_) (a' := ?_) #[true, true, true, true, true, false, false, false, true, true, true, false, false, false, false, false, false] rfl rfl (any_of HT_.out (by kernel_rfl)) (fun _ _ _ h => h) (Or.inl ⟨by rfl, ?_⟩) ?_ ?_
              rotate_left; ·intro w'; go_simp; with_reducible rfl
              rotate_left; ·simp only [Act.put, sA_, sZ_, sS_, i64_w, i32_w]; rfl
              refine pure_ (i := 11) (N := some 38) (v := ?_) (a' := ?_) #[true, true, true, true, true, false, false, false, true, true, true, true, false, false, false, false, false] rfl rfl (any_of HT_.out (by kernel_rfl)) (fun _ _ _ h => h) (Or.inl ⟨by rfl, ?_⟩) ?_ ?_
              rotate_left; ·intro w'; go_simp; with_reducible rfl
              rotate_left; ·simp only [Act.put, sA_, sZ_, sS_, i64_w, i32_w]; rfl
              refine take_ (i := 5) (N := some 32) (v := ?_) (a' := ?_) #[true, true, true, true, true, true, false, false, true, true, true, true, false, false, false, false, false] rfl rfl (take_ofW HT_.out HW_.out (by kernel_rfl)) (fun _ _ _ h => h) (Or.inl ⟨by rfl, ?_⟩) hHeld ?_ ?_
              rotate_left
              ·rintro w' ⟨s0, s1, s2, s3, s4, s5⟩; go_simp; with_reducible rfl
              rotate_left; ·simp only [Act.put, sA_, sZ_, sS_, i64_w, i32_w]; rfl
              refine pure_ (i := 6) (N := some 33) (v := ?_) (a' := ?_) #[true, true, true, true, true, true, true, false, true, true, true, true, false, false, false, false, false] rfl rfl (any_of HT_.out (by kernel_rfl)) (fun _ _ _ h => h) (Or.inl ⟨by rfl, ?_⟩) ?_ ?_
              rotate_left; ·intro w'; go_simp; with_reducible rfl
              rotate_left; ·simp only [Act.put, sA_, sZ_, sS_, i64_w, i32_w]; rfl
              refine take_ (i := 7) (N := some 34) (v := ?_) (a' := ?_) #[true, true, true, true, true, true, true, true, true, true, true, true, false, false, false, false, false] rfl rfl (take_ofW HT_.out HW_.out (by kernel_rfl)) (fun _ _ _ h => h) (Or.inl ⟨by rfl, ?_⟩) hHeld ?_ ?_
              rotate_left
              ·rintro w' ⟨s0, s1, s2, s3, s4, s5⟩; go_simp; with_reducible rfl
              rotate_left; ·simp only [Act.put, sA_, sZ_, sS_, i64_w, i32_w]; rfl
              refine take_ (i := 12) (N := some 39) (v := ?_) (a' := ?_) #[true, true, true, true, true, true, true, true, true, true, true, true, true, false, false, false, false] rfl rfl (take_ofW HT_.out HW_.out (by kernel_rfl)) (fun _ _ _ h => h) (Or.inl ⟨by rfl, ?_⟩) hHeld ?_ ?_
              rotate_left
              ·rintro w' ⟨s0, s1, s2, s3, s4, s5⟩; go_simp; with_reducible rfl
              rotate_left; ·simp only [Act.put, sA_, sZ_, sS_, i64_w, i32_w]; rfl
              refine pure_ (i := 13) (N := some 40) (v := ?_) (a' := ?_) #[true, true, true, true, true, true, true, true, true, true, true, true, true, true, false, false, false] rfl rfl (any_of HT_.out (by kernel_rfl)) (fun _ _ _ h => h) (Or.inl ⟨by rfl, ?_⟩) ?_ ?_
              rotate_left; ·intro w'; go_simp; with_reducible rfl
              rotate_left; ·simp only [Act.put, sA_, sZ_, sS_, i64_w, i32_w]; rfl
              refine take_ (i := 14) (N := some 41) (v := ?_) (a' := ?_) #[true, true, true, true, true, true, true, true, true, true, true, true, true, true, true, false, false] rfl rfl (take_ofW HT_.out HW_.out (by kernel_rfl)) (fun _ _ _ h => h) (Or.inl ⟨by rfl, ?_⟩) hHeld ?_ ?_
              rotate_left
              ·rintro w' ⟨s0, s1, s2, s3, s4, s5⟩; go_simp; with_reducible rfl
              rotate_left; ·simp only [Act.put, sA_, sZ_, sS_, i64_w, i32_w]; rfl
              refine one_ (i := 15) (N := some 42) #[true, true, true, true, true, true, true, true, true, true, true, true, true, true, true, true, false] rfl rfl (one_of HT_.out (by kernel_rfl)) (by decide) (fun K hK => ?_)
              refine goes_ Try.func15 (by kernel_rfl) rfl #[.agg #[.int .i64 ((rd_T31 l0 (rd l1 (ji5))).f0), .int .i64 ((rd_T31 l0 (rd l1 (ji5))).f1)], .agg #[.int .i64 ((rd_T31 l0 (rd l1 a3)).f0), .int .i64 ((rd_T31 l0 (rd l1 a3)).f1)]] (by rfl) rfl rfl (by (try simp only [List.map_toArray, List.map_cons, List.map_nil]); first | done | (simp only [hji5]; rfl) | rfl | (simp only [List.length_drop, List.length_take]; rfl)) ?_
              with_reducible refine (tour_Distance.calls ((rd_T31 l0 (rd l1 (ji5))).f0) ((rd_T31 l0 (rd l1 (ji5))).f1) ((rd_T31 l0 (rd l1 a3)).f0) ((rd_T31 l0 (rd l1 a3)).f1) t328 _ A19.out).mono ?_
              rintro e w38 ⟨rfl, hb⟩
              refine ⟨_, rfl, ?_⟩
              have n0_ := Aside0.mk (below_step (by repeat (first | (with_reducible first | exact HB.out | apply below_alloc | apply pw_below_drewN | apply below_drew1) | exact HB.out)) hb)
              clear HB; have HB := n0_; clear n0_; (try clear hb); (try clear hb2); (try clear hk); (try clear hi)
              refine hK.out _ _ ⟨((HB.out.cell (World.block_lt_of_cell? w _ hw324_0)).trans hw324_0), ((HB.out.cell (World.block_lt_of_cell? w _ hw325_0)).trans hw325_0), ((HB.out.cell (World.block_lt_of_cell? w _ hw325_1)).trans hw325_1), ((HB.out.cell (World.block_lt_of_cell? w _ hw326_0)).trans hw326_0), ((HB.out.cell (World.block_lt_of_cell? w _ hw327_0)).trans hw327_0), ((HB.out.cell (World.block_lt_of_cell? w _ hw327_1)).trans hw327_1)⟩ (fun hHeld => ?_)
              clear hK K
              refine norm_ (a' := ?_) ?_ ?_
              rotate_left
              ·show Act.put _ (some 42) _ = _
               simp only [Act.put, sA_, sZ_, sS_, i64_w, i32_w]; rfl
              refine pure_ (i := 16) (N := some 10) (v := ?_) (a' := ?_) #[true, true, true, true, true, true, true, true, true, true, true, true, true, true, true, true, true] rfl rfl (any_of HT_.out (by kernel_rfl)) (fun _ _ _ h => h) (Or.inl ⟨by rfl, ?_⟩) ?_ ?_
              rotate_left; ·intro w'; go_simp; with_reducible rfl
              rotate_left; ·simp only [Act.put, sA_, sZ_, sS_, i64_w, i32_w]; rfl
              refine done_ (done_of HT_.out (by kernel_rfl)) ?_
              try go_wp2
              go_ret
              exact ⟨by first | rfl | (simp [errW_none, errW_some] <;> rfl) | (simp only [← hji5]; first | rfl | (simp [errW_none, errW_some] <;> rfl)) | (simp [*, errW_none, errW_some] <;> rfl), by repeat (first | (with_reducible first | exact HB.out | apply below_alloc | apply pw_below_drewN | apply below_drew1) | exact HB.out)⟩
            ·rw [if_neg c18] at H
             exact absurd H (by simp)
           ·rw [if_neg c17] at H
            exact absurd H (by simp)
          ·rw [if_neg c16] at H
           exact absurd H (by simp)
         ·rw [if_neg c15] at H
          exact absurd H (by simp)
        ·rw [if_neg c13] at H
         exact absurd H (by simp)
       ·rw [if_neg c12] at H
        exact absurd H (by simp)
      ·rw [if_neg c11] at H
       exact absurd H (by simp)
     ·rw [if_neg c10] at H
      exact absurd H (by simp)
    ·rw [if_neg c9] at H
     exact absurd H (by simp)
   ·rw [if_neg c8] at H
    exact absurd H (by simp)
  ·rw [if_neg c7] at H
   exact absurd H (by simp)
 ·rw [if_neg c6] at H
  exact absurd H (by simp)

end Go.Proofs.Ytohjocajaanhaaa.P

/- The contract of slices.Reverse at []int (function 43) on a part of an owned slice, by hand. -/

namespace Go.Proofs.Ytohjocajaanhaaa.P
open Go.RowKit Go.Proofs.YtohjocajaanhaaaW.PrintWords Go.Proofs.YtohjocajaanhaaaW.PrintLast Go.Proofs.YtohjocajaanhaaaW.PrintMore
set_option linter.unusedVariables false
set_option linter.unusedSimpArgs false

/-- The part of m elements from a on, reversed from both ends. -/
def tour_rev.l0 (a m : Nat) : Nat → List Int → Int → Int → Option (List Int)
 | 0, _, _, _ => none
 | k + 1, xs, x2, x3 => if x2 < x3 then (if 0 ≤ x2 then (if x3 < (m : Int) then tour_rev.l0 a m k ((xs.set ((a : Int) + x2).toNat (rd xs ((a : Int) + x3))).set ((a : Int) + x3).toNat (rd xs ((a : Int) + x2))) (wrap64 (x2 + 1)) (wrap64 (x3 - 1)) else none) else none) else some xs
theorem tour_rev.mono (a m : Nat) : ∀ k y0 y1 y2, LeO (tour_rev.l0 a m k y0 y1 y2) (tour_rev.l0 a m (k + 1) y0 y1 y2)
 | 0 => fun _ _ _ r h => by simp [tour_rev.l0] at h
 | k + 1 => fun y0 y1 y2 => by
  have ih := tour_rev.mono a m k
  unfold tour_rev.l0
  exact LeO.ite (LeO.ite (LeO.ite (ih _ _ _) (LeO.none _)) (LeO.none _)) (LeO.refl _)
set_option maxHeartbeats 4000000 in
set_option maxRecDepth 100000 in
theorem tour_rev.calls (k a m g n cap c2 : Nat) (l r : List Int) (w0 w : World) (hB : Below w0.heap.size w0 w) (ho : Kd.R (Kd.int .i64) 3 w w0.heap.size (fun _ => True) (.slice (some ⟨g, 0, none⟩) n cap) l) (ham : a + m ≤ l.length) (hm : m < 100000)
  (h : tour_rev.l0 a m k l 0 (wrap64 ((m : Int) - 1)) = some r) :
  Calls Try.prog 43 #[.slice (some ⟨g, a, none⟩) m c2] w fun e w' => e = .returned (.tuple #[]) ∧ Kd.R (Kd.int .i64) 3 w' w0.heap.size (fun _ => True) (.slice (some ⟨g, 0, none⟩) n cap) r ∧ Below w0.heap.size w0 w' := by
 have HO0 := Aside0.mk ho
 have HB0 := Aside0.mk hB
 have hnl := (Kd.R_reads' ho).1
 have H' := Aside0.mk h
 have hwm : wrap64 ((m : Int) - 1) = (m : Int) - 1 := by unfold wrap64; omega
 rw [hwm] at H'
 clear ho hB h hwm
 go_enter Try.func43, Try.ntmps43
 go_wp2
 go_loopg [2, 3] k (fun kq v2 v3 w' => ∃ (xs : List Int) (x2 : Int) (x3 : Int), v2 = .int .i64 x2 ∧ v3 = .int .i64 x3 ∧ Aside0 (tour_rev.l0 a m kq xs x2 x3 = some r) ∧ Aside0 (kq ≤ k) ∧ Aside0 (-100000 ≤ x3) ∧ Aside0 (Kd.R (Kd.int .i64) 3 w' w0.heap.size (fun _ => True) (.slice (some ⟨g, 0, none⟩) n cap) xs) ∧ Aside0 (Below w0.heap.size w0 w'))
 case atStart => exact ⟨l, 0, (m : Int) - 1, rfl, (by first | rfl | (simp; done)), H', ⟨Nat.le_refl _⟩, ⟨by omega⟩, HO0, HB0⟩
 case round =>
  clear H' HO0 HB0
  obtain ⟨xs, x2, x3, rfl, rfl, HA, HK1, HX3, HO, HB⟩ := hrel
  have hl1 := (Kd.R_reads' HO.out).1
  cases gk with
  | zero => exact absurd HA.out (by simp [tour_rev.l0])
  | succ k1 =>
   have H := HA.out
   clear HA
   simp only [tour_rev.l0] at H
   by_cases c3 : x2 < x3
   ·rw [if_pos c3] at H
    have c3b0 : decide (x2 < x3) = true := decide_eq_true c3
    by_cases c4 : 0 ≤ x2
    ·rw [if_pos c4] at H
     by_cases c5 : x3 < (m : Int)
     ·rw [if_pos c5] at H; have H' := Aside0.mk H; clear H
      have Hw2 := Aside0.mk (show wrap64 (x2 + 1) = x2 + 1 by unfold wrap64; omega)
      have Hw3 := Aside0.mk (show wrap64 (x3 - 1) = x3 - 1 by unfold wrap64; omega)
      have e2 : ((a : Int) + x2).toNat = a + x2.toNat := by omega
      have e3 : ((a : Int) + x3).toNat = a + x3.toNat := by omega
      rw [e2, e3] at H'
      have HO' := Aside0.mk (Kd.R_drew HO.out)
      have HB' := Aside0.mk (below_drew1 HB.out)
      clear HO HB; have HO := HO'; have HB := HB'; clear HO' HB'
      obtain ⟨hx3, hf3⟩ := Kd.R_celln 0 HO.out ((a : Int) + x3) (by omega) (by omega)
      obtain ⟨hx2, hf2⟩ := Kd.R_celln 0 HO.out ((a : Int) + x2) (by omega) (by omega)
      have hq1 := Kd.R_putn HO.out ((a : Int) + x2) (rd xs ((a : Int) + x3))
      have hq2 := Kd.R_putn hq1 ((a : Int) + x3) (rd xs ((a : Int) + x2))
      rw [e2] at hx2 hf2 hq1 hq2
      rw [e3] at hx3 hf3 hq2
      have HQ1 := Aside0.mk hq1; have HQ2 := Aside0.mk hq2
      have HG := Aside0.mk (Kd.R_bound HO.out)
      have HGg := Aside0.mk (show w0.heap.size ≤ g from (HG.out.1 g rfl).2.1)
      clear hq1 hq2 e2 e3 HG
      have p2 := eq_true c4
      have q2 := eq_true (show x2 < (m : Int) by omega)
      have p3 := eq_true (show 0 ≤ x3 by omega)
      have q3 := eq_true c5
      go_upto_region 3 with fail
      refine start_ (n := 16) (S := fun w' => w'.cell? ⟨g, a + x3.toNat, none⟩ = some (.int .i64 (rd xs ((a : Int) + x3))) ∧ w'.cell? ⟨g, a + x2.toNat, none⟩ = some (.int .i64 (rd xs ((a : Int) + x2)))) (ds := [13, 15]) #[false, false, false, false, false, false, false, false, false, false, false, false, false, false, false, false] (by kernel_rfl) rfl rfl ⟨hx3, hx2⟩ (fun hHeld => ?_)
      generalize wr.drew = wd at HO HB HQ1 HQ2 hf2 hf3 hx2 hx3 hHeld ⊢
      refine pure_ (i := 0) (N := some 14) (v := ?_) (a' := ?_) #[true, false, false, false, false, false, false, false, false, false, false, false, false, false, false, false] rfl rfl (by kernel_rfl) (fun _ _ _ h => h) (Or.inl ⟨by rfl, ?_⟩) ?_ ?_
      rotate_left; ·intro w'; go_simp; with_reducible rfl
      rotate_left; ·simp only [Act.put, sA_, sZ_, sS_, i64_w, i32_w]; rfl
      refine pure_ (i := 1) (N := some 15) (v := ?_) (a' := ?_) #[true, true, false, false, false, false, false, false, false, false, false, false, false, false, false, false] rfl rfl (by kernel_rfl) (fun _ _ _ h => h) (Or.inl ⟨by rfl, ?_⟩) ?_ ?_
      rotate_left; ·intro w'; go_simp; with_reducible rfl
      rotate_left; ·simp only [Act.put, sA_, sZ_, sS_, i64_w, i32_w]; rfl
      refine pure_ (i := 2) (N := some 16) (v := ?_) (a' := ?_) #[true, true, true, false, false, false, false, false, false, false, false, false, false, false, false, false] rfl rfl (by kernel_rfl) (fun _ _ _ h => h) (Or.inl ⟨by rfl, ?_⟩) ?_ ?_
      rotate_left; ·intro w'; go_simp; with_reducible rfl
      rotate_left; ·simp only [Act.put, sA_, sZ_, sS_, i64_w, i32_w]; rfl
      refine pure_ (i := 3) (N := some 17) (v := ?_) (a' := ?_) #[true, true, true, true, false, false, false, false, false, false, false, false, false, false, false, false] rfl rfl (by kernel_rfl) (fun _ _ _ h => h) (Or.inl ⟨by rfl, ?_⟩) ?_ ?_
      rotate_left; ·intro w'; go_simp; with_reducible rfl
      rotate_left; ·simp only [Act.put, sA_, sZ_, sS_, i64_w, i32_w]; rfl
      refine pure_ (i := 4) (N := some 18) (v := ?_) (a' := ?_) #[true, true, true, true, true, false, false, false, false, false, false, false, false, false, false, false] rfl rfl (by kernel_rfl) (fun _ _ _ h => h) (Or.inl ⟨by rfl, ?_⟩) ?_ ?_
      rotate_left; ·intro w'; go_simp; with_reducible rfl
      rotate_left; ·simp only [Act.put, sA_, sZ_, sS_, i64_w, i32_w]; rfl
      refine pure_ (i := 5) (N := some 19) (v := ?_) (a' := ?_) #[true, true, true, true, true, true, false, false, false, false, false, false, false, false, false, false] rfl rfl (by kernel_rfl) (fun _ _ _ h => h) (Or.inl ⟨by rfl, ?_⟩) ?_ ?_
      rotate_left; ·intro w'; go_simp; with_reducible rfl
      rotate_left; ·simp only [Act.put, sA_, sZ_, sS_, i64_w, i32_w]; rfl
      refine pure_ (i := 6) (N := some 20) (v := ?_) (a' := ?_) #[true, true, true, true, true, true, true, false, false, false, false, false, false, false, false, false] rfl rfl (by kernel_rfl) (fun _ _ _ h => h) (Or.inl ⟨by rfl, ?_⟩) ?_ ?_
      rotate_left; ·intro w'; go_simp; with_reducible rfl
      rotate_left; ·simp only [Act.put, sA_, sZ_, sS_, i64_w, i32_w]; rfl
      refine pure_ (i := 8) (N := some 22) (v := ?_) (a' := ?_) #[true, true, true, true, true, true, true, false, true, false, false, false, false, false, false, false] rfl rfl (by kernel_rfl) (fun _ _ _ h => h) (Or.inl ⟨by rfl, ?_⟩) ?_ ?_
      rotate_left; ·intro w'; go_simp; with_reducible rfl
      rotate_left; ·simp only [Act.put, sA_, sZ_, sS_, i64_w, i32_w]; rfl
      refine pure_ (i := 9) (N := some 23) (v := ?_) (a' := ?_) #[true, true, true, true, true, true, true, false, true, true, false, false, false, false, false, false] rfl rfl (by kernel_rfl) (fun _ _ _ h => h) (Or.inl ⟨by rfl, ?_⟩) ?_ ?_
      rotate_left; ·intro w'; go_simp; with_reducible rfl
      rotate_left; ·simp only [Act.put, sA_, sZ_, sS_, i64_w, i32_w]; rfl
      refine pure_ (i := 10) (N := some 24) (v := ?_) (a' := ?_) #[true, true, true, true, true, true, true, false, true, true, true, false, false, false, false, false] rfl rfl (by kernel_rfl) (fun _ _ _ h => h) (Or.inl ⟨by rfl, ?_⟩) ?_ ?_
      rotate_left; ·intro w'; go_simp; with_reducible rfl
      rotate_left; ·simp only [Act.put, sA_, sZ_, sS_, i64_w, i32_w]; rfl
      refine take_ (i := 7) (N := some 21) (v := ?_) (a' := ?_) #[true, true, true, true, true, true, true, true, true, true, true, false, false, false, false, false] rfl rfl (by kernel_rfl) (fun _ _ _ h => h) (Or.inl ⟨by rfl, ?_⟩) hHeld ?_ ?_
      rotate_left
      ·rintro w' ⟨s0, s1⟩; go_simp; with_reducible rfl
      rotate_left; ·simp only [Act.put, sA_, sZ_, sS_, i64_w, i32_w]; rfl
      refine take_ (i := 11) (N := some 25) (v := ?_) (a' := ?_) #[true, true, true, true, true, true, true, true, true, true, true, true, false, false, false, false] rfl rfl (by kernel_rfl) (fun _ _ _ h => h) (Or.inl ⟨by rfl, ?_⟩) hHeld ?_ ?_
      rotate_left
      ·rintro w' ⟨s0, s1⟩; go_simp; with_reducible rfl
      rotate_left; ·simp only [Act.put, sA_, sZ_, sS_, i64_w, i32_w]; rfl
      refine pure_ (i := 12) (N := some 26) (v := ?_) (a' := ?_) #[true, true, true, true, true, true, true, true, true, true, true, true, true, false, false, false] rfl rfl (by kernel_rfl) (fun _ _ _ h => h) (Or.inl ⟨by rfl, ?_⟩) ?_ ?_
      rotate_left; ·intro w'; go_simp; with_reducible rfl
      rotate_left; ·simp only [Act.put, sA_, sZ_, sS_, i64_w, i32_w]; rfl
      refine last_ (i := 13) (N := none) #[true, true, true, true, true, true, true, true, true, true, true, true, true, true, false, false] rfl rfl (by kernel_rfl) (by decide) (fun K hK => ?_)
      refine skip_ (w1 := ?_) (by rfl) rfl ?_ ?_
      rotate_left; ·go_simp; rfl
      refine hK.out _ _ ?_
      clear hK K
      refine pure_ (i := 14) (N := some 27) (v := ?_) (a' := ?_) #[true, true, true, true, true, true, true, true, true, true, true, true, true, true, true, false] rfl rfl (by kernel_rfl) (fun _ _ _ h => h) (Or.inl ⟨by rfl, ?_⟩) ?_ ?_
      rotate_left; ·intro w'; go_simp; with_reducible rfl
      rotate_left; ·simp only [Act.put, sA_, sZ_, sS_, i64_w, i32_w]; rfl
      refine last_ (i := 15) (N := none) #[true, true, true, true, true, true, true, true, true, true, true, true, true, true, true, true] rfl rfl (by kernel_rfl) (by decide) (fun K hK => ?_)
      refine skip_ (w1 := ?_) (by rfl) rfl ?_ ?_
      rotate_left; ·go_simp; rfl
      refine hK.out _ _ ?_
      clear hK K
      refine done_ (by kernel_rfl) ?_
      go_wp2
      go_roundg k1
      case measure => have := HK1.out; omega
      case rel => exact ⟨_, wrap64 (x2 + 1), wrap64 (x3 - 1), (by rw [Hw2.out]), (by rw [Hw3.out]), H', ⟨by have := HK1.out; omega⟩, ⟨by rw [Hw3.out]; omega⟩, HQ2, ⟨below_set (below_set HB.out HGg.out) HGg.out⟩⟩
     ·rw [if_neg c5] at H; cases H
    ·rw [if_neg c4] at H; cases H
   ·rw [if_neg c3] at H
    have c3b0 : decide (x2 < x3) = false := decide_eq_false c3
    obtain rfl := Option.some.inj H; clear H; go_wp2
    first | go_end0 | ((try simp only [Exit.inBlock, Exit.then]); refine bodyPost_ret (results_none rfl _ _ _) rfl ?_)
    exact ⟨rfl, by first | exact HO.out | (have h_ := HO.out; rw [hnl] at h_; exact h_), HB.out⟩
end Go.Proofs.Ytohjocajaanhaaa.P

/- The contract of swarf/tour.Improve (function 26), by hand: it reverses parts of a slice that it made. -/

namespace Go.Proofs.Ytohjocajaanhaaa.P
open Go.RowKit Go.Proofs.YtohjocajaanhaaaW.PrintWords Go.Proofs.YtohjocajaanhaaaW.PrintLast Go.Proofs.YtohjocajaanhaaaW.PrintMore
set_option linter.unusedVariables false
set_option linter.unusedSimpArgs false
mutual
def tour_imp.l0 : Nat → List S31 → List Int → Bool → Option (List Int)
 | 0, _, _, _ => none
 | k + 1, l, o, ag => if ag = true then tour_imp.l1 k l o false 1 else some o
def tour_imp.l1 : Nat → List S31 → List Int → Bool → Int → Option (List Int)
 | 0, _, _, _, _ => none
 | k + 1, l, o, ag, i => if i < (o.length : Int) then (if 0 ≤ i then tour_imp.l2 k l o ag i (wrap64 (i + 1)) else none) else tour_imp.l0 k l o ag
def tour_imp.l2 : Nat → List S31 → List Int → Bool → Int → Int → Option (List Int)
 | 0, _, _, _, _, _ => none
 | k + 1, l, o, ag, i, j => if j < (o.length : Int) then ((tour_gain.f l o i j).bind fun g => (if g > 0 then (if 0 ≤ i then (if i ≤ j then ((tour_rev.l0 i.toNat (j + 1 - i).toNat k o 0 (wrap64 (((j + 1 - i).toNat : Int) - 1))).bind fun o2 => tour_imp.l2 k l o2 true i (wrap64 (j + 1))) else none) else none) else tour_imp.l2 k l o ag i (wrap64 (j + 1)))) else tour_imp.l1 k l o ag (wrap64 (i + 1))
end
theorem tour_imp.mono_l : ∀ k, (∀ y0 y1 y2, LeO (tour_imp.l0 k y0 y1 y2) (tour_imp.l0 (k + 1) y0 y1 y2)) ∧ (∀ y0 y1 y2 y3, LeO (tour_imp.l1 k y0 y1 y2 y3) (tour_imp.l1 (k + 1) y0 y1 y2 y3)) ∧ (∀ y0 y1 y2 y3 y4, LeO (tour_imp.l2 k y0 y1 y2 y3 y4) (tour_imp.l2 (k + 1) y0 y1 y2 y3 y4))
 | 0 => ⟨fun _ _ _ r h => by simp [tour_imp.l0] at h, fun _ _ _ _ r h => by simp [tour_imp.l1] at h, fun _ _ _ _ _ r h => by simp [tour_imp.l2] at h⟩
 | k + 1 => by
  obtain ⟨ih0, ih1, ih2⟩ := tour_imp.mono_l k
  refine ⟨fun y0 y1 y2 => ?_, fun y0 y1 y2 y3 => ?_, fun y0 y1 y2 y3 y4 => ?_⟩
  ·unfold tour_imp.l0
   exact LeO.ite (ih1 _ _ _ _) (LeO.refl _)
  ·unfold tour_imp.l1
   exact LeO.ite (LeO.ite (ih2 _ _ _ _ _) (LeO.none _)) (ih0 _ _ _)
  ·unfold tour_imp.l2
   exact LeO.ite (LeO.bind (LeO.refl _) (fun _ => LeO.ite (LeO.ite (LeO.ite (LeO.bind (tour_rev.mono _ _ _ _ _ _) (fun _ => ih2 _ _ _ _ _)) (LeO.none _)) (LeO.none _)) (ih2 _ _ _ _ _))) (ih1 _ _ _ _)
def tour_Improve.f (k : Nat) (l : List S31) (o : List Int) : Option (List Int × Int) :=
 (tour_check.f k l 200).bind fun e => if e = 0 then ((tour_isOrder.f k o (l.length : Int)).bind fun b => if b = true then (if o.length < 1000 then ((tour_imp.l0 k l o true).bind fun r => some (r, 0)) else none) else some (([] : List Int), 1)) else some (([] : List Int), e)
theorem tour_Improve.mono : ∀ a0 a1 k, LeO (tour_Improve.f k a0 a1) (tour_Improve.f (k + 1) a0 a1) := by
 intro a0 a1 k
 unfold tour_Improve.f
 exact LeO.bind (tour_check.mono _ _ _) (fun _ => LeO.ite (LeO.bind (tour_isOrder.mono _ _ _) (fun _ => LeO.ite (LeO.ite (LeO.bind ((tour_imp.mono_l k).1 _ _ _) (fun _ => LeO.refl _)) (LeO.none _)) (LeO.refl _))) (LeO.refl _))
theorem run_part (g n c : Nat) (i j : Int) (h0 : 0 ≤ i) (h1 : i ≤ j) (h2 : j < (c : Int)) (W : World) :
  (Instr.slice 23 (.slice (some ⟨g, 0, none⟩) n c) (some (.int .i64 i)) (some (.int .i64 (j + 1))) none).run Try.prog W = .ok (.slice (some ⟨g, i.toNat, none⟩) (j + 1 - i).toNat (c - i.toNat)) W := by
 obtain ⟨i0, hi, _, hsz, _⟩ := info_parts info3
 have hel : Try.prog.elem 23 = 3 := by simp [Program.elem, Try.underlying23]
 have hu : Try.prog.underlying 23 = some (.slice (Try.prog.elem 23)) := by rw [hel]; exact Try.underlying23
 have hne : ¬ c = i.toNat := by omega
 have hm : (j + 1).toNat - i.toNat = (j + 1 - i).toNat := by omega
 rw [run_slice_lh W 23 (some ⟨g, 0, none⟩) n c hu .i64 .i64 i (j + 1) h0 (by omega) (by omega), hel]
 simp [sizeOf, typeInfo, hi, hsz, sliced, Result.andThen, hne, hm, Addr.add]
 intro _
 omega
theorem tour_gain.calls_n (A0 : Option Addr) (c0 : Nat) (l0 : List S31) (A1 : Option Addr) (n c1 : Nat) (l1 : List Int) (a2 a3 r : Int) (w : World) (hn : n = l1.length) (hr0 : Kd.C k31 w A0 l0.length l0) (hc0 : l0.length ≤ c0) (hr1 : Kd.C (Kd.int .i64) w A1 l1.length l1) (hc1 : l1.length ≤ c1) (h : tour_gain.f l0 l1 a2 a3 = some r) :
  Calls Try.prog 42 #[.slice A0 l0.length c0, .slice A1 n c1, .int .i64 a2, .int .i64 a3] w fun e w' => e = .returned (.int .i64 r) ∧ Below w.heap.size w w' := by
 subst hn
 exact tour_gain.calls A0 c0 l0 A1 c1 l1 a2 a3 r w hr0 hc0 hr1 hc1 h
set_option maxHeartbeats 8000000 in
set_option maxRecDepth 100000 in
theorem tour_Improve.calls (k : Nat) (A0 : Option Addr) (c0 : Nat) (l0 : List S31) (A1 : Option Addr) (c1 : Nat) (l1 : List Int) (r1 : List Int) (r2 : Int) (w : World) (hr0 : Kd.C k31 w A0 l0.length l0) (hc0 : l0.length ≤ c0) (hr1 : Kd.C (Kd.int .i64) w A1 l1.length l1) (hc1 : l1.length ≤ c1) (h : tour_Improve.f k l0 l1 = some (r1, r2)) :
  Calls Try.prog 26 #[.slice A0 l0.length c0, .slice A1 l1.length c1] w fun e w' => ∃ v0_ : Value, e = .returned (.tuple #[v0_, .int .i64 r2]) ∧ Kd.R (Kd.int .i64) 3 w' w.heap.size (fun _ => True) v0_ r1 ∧ Below w.heap.size w w' := by
 have HR0 := Aside0.mk hr0
 have HC0 := Aside0.mk hc0
 have HR1 := Aside0.mk hr1
 have HC1 := Aside0.mk hc1
 clear hr0 hc0 hr1 hc1
 unfold tour_Improve.f at h
 replace h := Option.bind_eq_some_iff.mp h
 obtain ⟨e0, AC0, h⟩ := h
 have AC := Aside0.mk AC0
 clear AC0
 by_cases c0' : e0 = 0
 ·rw [if_pos c0'] at h
  have c0b : (e0 != 0) = false := bne_eq_false_iff_eq.mpr c0'
  replace h := Option.bind_eq_some_iff.mp h
  obtain ⟨b, AO0, h⟩ := h
  have AO := Aside0.mk AO0; clear AO0 c0'
  by_cases hb : b = true
  ·subst hb; rw [if_pos rfl] at h
   by_cases hn : l1.length < 1000
   ·rw [if_pos hn] at h
    replace h := Option.bind_eq_some_iff.mp h
    obtain ⟨r, AI0, h⟩ := h
    have H' := Aside0.mk AI0
    simp only [Option.some.injEq, Prod.mk.injEq] at h
    obtain ⟨rfl, rfl⟩ := h
    clear AI0
    go_enter Try.func26, Try.ntmps26
    go_wp2_with (first | (go_at_call 28; go_must (refine (tour_check.calls k _ _ l0 200 e0 _ HR0.out HC0.out AC.out).mono ?_; rintro e w1 ⟨rfl, hb⟩; have HB := Aside0.mk hb; clear hb)) | (go_at_call 29; go_must (refine (tour_isOrder.calls k _ _ l1 (l0.length : Int) true _ (Kd.C_below HR1.out HB.out) HC1.out AO.out).mono ?_; rintro e w2 ⟨rfl, hb⟩; have HB' := Aside0.mk (below_step HB.out hb); clear HB hb; have HB := HB'; clear HB')) | (go_at_call 41; go_must (refine (slices_Clone_int_int.calls_of _ _ l1 _ (Kd.C_below HR1.out HB.out) (by omega)).mono ?_; rintro e w3 ⟨v7, rfl, ho, hb⟩; have HO := Aside0.mk (Kd.R_lower ho HB.out.size); have HB' := Aside0.mk (below_step HB.out hb); clear HB hb ho; have HB := HB'; clear HB'; obtain ⟨A7, c7, e7⟩ := Kd.R_slice HO.out; subst e7)))
    go_loopg [8] k (fun kq v8 w' => ∃ (o : List Int) (ag : Bool), v8 = .bool ag ∧ Aside0 (tour_imp.l0 kq l0 o ag = some r) ∧ Aside0 (kq ≤ k) ∧ Aside0 (Kd.R (Kd.int .i64) 3 w' w.heap.size (fun _ => True) (.slice A7 l1.length c7) o) ∧ Aside0 (Below w.heap.size w w'))
    case atStart => exact ⟨l1, true, rfl, H', ⟨Nat.le_refl _⟩, HO, HB⟩
    case round =>
     clear H' HO HB
     obtain ⟨o, ag, rfl, HA, HK1, HO, HB⟩ := hrel
     have Hol := Aside0.mk (Kd.R_reads' HO.out).1
     cases gk with
     | zero => exact absurd HA.out (by simp [tour_imp.l0])
     | succ k1 =>
      have H := HA.out
      clear HA
      simp only [tour_imp.l0] at H
      by_cases hag : ag = true
      ·subst hag; rw [if_pos rfl] at H; have H' := Aside0.mk H; clear H
       go_wp2_with fail
       go_loopg [8, 9] k1 (fun kq v8 v9 w' => ∃ (o : List Int) (ag : Bool) (i : Int), v8 = .bool ag ∧ v9 = .int .i64 i ∧ Aside0 (tour_imp.l1 kq l0 o ag i = some r) ∧ Aside0 (kq ≤ k1) ∧ Aside0 (Kd.R (Kd.int .i64) 3 w' w.heap.size (fun _ => True) (.slice A7 l1.length c7) o) ∧ Aside0 (Below w.heap.size w w'))
       case atStart => exact ⟨o, false, 1, rfl, rfl, H', ⟨Nat.le_refl _⟩, HO, HB⟩
       case round =>
        clear H' HO HB Hol
        obtain ⟨o, ag, i, rfl, rfl, HA, HK2, HO, HB⟩ := hrel
        have Hol := Aside0.mk (Kd.R_reads' HO.out).1
        cases gk with
        | zero => exact absurd HA.out (by simp [tour_imp.l1])
        | succ k2 =>
         have H := HA.out
         clear HA
         simp only [tour_imp.l1] at H
         by_cases ci : i < (o.length : Int)
         ·rw [if_pos ci] at H
          have cib : decide (i < (l1.length : Int)) = true := decide_eq_true (by rw [Hol.out]; exact ci)
          by_cases ci0 : 0 ≤ i
          ·rw [if_pos ci0] at H
           have Hwi := Aside0.mk (show wrap64 (i + 1) = i + 1 by have := Hol.out; unfold wrap64; omega)
           have hi1 : i < 1000 := by have := Hol.out; omega
           have H' := Aside0.mk H; clear H ci
           go_wp2_with fail
           go_loopg [8, 10] k2 (fun kq v8 v10 w' => ∃ (o : List Int) (ag : Bool) (j : Int), v8 = .bool ag ∧ v10 = .int .i64 j ∧ Aside0 (tour_imp.l2 kq l0 o ag i j = some r) ∧ Aside0 (kq ≤ k2) ∧ Aside0 (0 ≤ j) ∧ Aside0 (Kd.R (Kd.int .i64) 3 w' w.heap.size (fun _ => True) (.slice A7 l1.length c7) o) ∧ Aside0 (Below w.heap.size w w'))
           case atStart => exact ⟨o, ag, wrap64 (i + 1), rfl, (by rw [Hwi.out]), H', ⟨Nat.le_refl _⟩, ⟨by rw [Hwi.out]; omega⟩, HO, HB⟩
           case round =>
            clear H' HO HB Hol cib
            obtain ⟨o, ag, j, rfl, rfl, HA, HK3, HJ0, HO, HB⟩ := hrel
            have Hol := Aside0.mk (Kd.R_reads' HO.out).1
            cases gk with
            | zero => exact absurd HA.out (by simp [tour_imp.l2])
            | succ k3 =>
             have H := HA.out
             clear HA
             simp only [tour_imp.l2] at H
             by_cases cj : j < (o.length : Int)
             ·rw [if_pos cj] at H
              have cjb : decide (j < (l1.length : Int)) = true := decide_eq_true (by rw [Hol.out]; exact cj)
              have j0 : 0 ≤ j := HJ0.out
              have hj1 : j < 1000 := by have := Hol.out; omega
              have Hwj := Aside0.mk (show wrap64 (j + 1) = j + 1 by unfold wrap64; omega)
              replace H := Option.bind_eq_some_iff.mp H
              obtain ⟨gn, AG0, H⟩ := H
              have AG := Aside0.mk AG0; clear AG0
              by_cases cg : gn > 0
              ·rw [if_pos cg] at H
               have cgb : decide (0 < gn) = true := decide_eq_true cg
               rw [if_pos ci0] at H
               by_cases cij : i ≤ j
               ·rw [if_pos cij] at H; replace H := Option.bind_eq_some_iff.mp H
                obtain ⟨o2, AR0, H⟩ := H
                have AR := Aside0.mk AR0; have H' := Aside0.mk H; clear AR0 H cg
                obtain ⟨g7, co7, eo7, gb7, gl7, cl7, HG7⟩ := Kd.R_form HO.out (by have := Hol.out; omega)
                obtain ⟨rfl, hc7⟩ : A7 = some ⟨g7, 0, none⟩ ∧ c7 = co7 := by injection eo7 with e1 e2 e3; exact ⟨e1, e3⟩
                have hcap : l1.length ≤ c7 := (Kd.R_reads' HO.out).2.1
                have hq := run_part g7 l1.length c7 i j ci0 cij (by have := Hol.out; omega)
                clear eo7 gb7 gl7 cl7 HG7 hc7; have Hcj := Aside0.mk cj; have Hcap := Aside0.mk hcap; have Hcij := Aside0.mk cij; clear cj hcap cij
                go_wp2_with (first | (go_at_call 42; go_must (refine (tour_gain.calls_n A0 c0 l0 _ _ c7 o i j gn _ Hol.out (Kd.C_below HR0.out HB.out) HC0.out (Kd.R_reads' HO.out).2.2 (by rw [← Hol.out]; exact Hcap.out) AG.out).mono ?_; rintro e w1 ⟨rfl, hb⟩; have HO' := Aside0.mk (Kd.R_below HO.out hb); have HB' := Aside0.mk (below_step HB.out hb); clear HO HB hb; have HO := HO'; have HB := HB'; clear HO' HB')) | (go_at_call 43; go_must (refine (tour_rev.calls k3 i.toNat (j + 1 - i).toNat g7 l1.length c7 _ o o2 w _ HB.out HO.out (by have := Hcj.out; have := Hcij.out; omega) (by omega) AR.out).mono ?_; rintro e w2 ⟨rfl, ho, hb⟩; have HO' := Aside0.mk ho; have HB' := Aside0.mk hb; clear HO HB ho hb; have HO := HO'; have HB := HB'; clear HO' HB')))
                go_roundg k3
                case measure => have := HK1.out; have := HK2.out; have := HK3.out; omega
                case rel => exact ⟨o2, true, wrap64 (j + 1), rfl, (by rw [Hwj.out]), H', ⟨by have := HK3.out; omega⟩, ⟨by rw [Hwj.out]; omega⟩, HO, HB⟩
               ·rw [if_neg cij] at H; cases H
              ·rw [if_neg cg] at H
               have cgb : decide (0 < gn) = false := decide_eq_false cg
               have H' := Aside0.mk H
               have hcap : l1.length ≤ c7 := (Kd.R_reads' HO.out).2.1
               have Hcap := Aside0.mk hcap; clear H cg cj hcap
               go_wp2_with (go_at_call 42; go_must (refine (tour_gain.calls_n A0 c0 l0 _ _ c7 o i j gn _ Hol.out (Kd.C_below HR0.out HB.out) HC0.out (Kd.R_reads' HO.out).2.2 (by rw [← Hol.out]; exact Hcap.out) AG.out).mono ?_; rintro e w1 ⟨rfl, hb⟩; have HO' := Aside0.mk (Kd.R_below HO.out hb); have HB' := Aside0.mk (below_step HB.out hb); clear HO HB hb; have HO := HO'; have HB := HB'; clear HO' HB'))
               go_roundg k3
               case measure => have := HK1.out; have := HK2.out; have := HK3.out; omega
               case rel => exact ⟨o, ag, wrap64 (j + 1), rfl, (by rw [Hwj.out]), H', ⟨by have := HK3.out; omega⟩, ⟨by rw [Hwj.out]; omega⟩, HO, HB⟩
             ·rw [if_neg cj] at H
              have cjb : decide (j < (l1.length : Int)) = false := decide_eq_false (by rw [Hol.out]; exact cj)
              have H' := Aside0.mk H; clear H cj
              go_wp2_with fail
              go_roundg k3
              case measure => have := HK1.out; have := HK2.out; have := HK3.out; omega
              case rel => exact ⟨o, ag, wrap64 (i + 1), rfl, (by rw [Hwi.out]), H', ⟨by have := HK2.out; have := HK3.out; omega⟩, HO, HB⟩
          ·rw [if_neg ci0] at H; cases H
         ·rw [if_neg ci] at H
          have cib : decide (i < (l1.length : Int)) = false := decide_eq_false (by rw [Hol.out]; exact ci)
          have H' := Aside0.mk H; clear H ci
          go_wp2_with fail
          go_roundg k2
          case measure => have := HK1.out; have := HK2.out; omega
          case rel => exact ⟨o, ag, rfl, H', ⟨by have := HK1.out; have := HK2.out; omega⟩, HO, HB⟩
      ·rw [if_neg hag] at H
       replace hag := Bool.eq_false_iff.mpr hag
       subst hag; obtain rfl := Option.some.inj H; clear H
       go_wp2_with fail
       go_ret2
       exact ⟨_, rfl, HO.out, HB.out⟩
   ·rw [if_neg hn] at h; cases h
  ·replace hb := Bool.eq_false_iff.mpr hb
   subst hb; rw [if_neg (by decide)] at h
   simp only [Option.some.injEq, Prod.mk.injEq] at h
   obtain ⟨rfl, rfl⟩ := h
   go_enter Try.func26, Try.ntmps26
   go_wp2_with (first | (go_at_call 28; go_must (refine (tour_check.calls k _ _ l0 200 e0 _ HR0.out HC0.out AC.out).mono ?_; rintro e w1 ⟨rfl, hb⟩; have HB := Aside0.mk hb; clear hb)) | (go_at_call 29; go_must (refine (tour_isOrder.calls k _ _ l1 (l0.length : Int) false _ (Kd.C_below HR1.out HB.out) HC1.out AO.out).mono ?_; rintro e w2 ⟨rfl, hb⟩; have HB' := Aside0.mk (below_step HB.out hb); clear HB hb; have HB := HB'; clear HB')))
   go_ret2
   exact ⟨_, rfl, Kd.R_nil _ _ _ _ _, HB.out⟩
 ·rw [if_neg c0'] at h
  have c0b : (e0 != 0) = true := bne_iff_ne.mpr c0'
  simp only [Option.some.injEq, Prod.mk.injEq] at h
  obtain ⟨rfl, rfl⟩ := h
  clear c0'
  go_enter Try.func26, Try.ntmps26
  go_wp2_with (go_at_call 28; go_must (refine (tour_check.calls k _ _ l0 200 e0 _ HR0.out HC0.out AC.out).mono ?_; rintro e w1 ⟨rfl, hb⟩; have HB := Aside0.mk hb; clear hb))
  go_ret2
  exact ⟨_, rfl, Kd.R_nil _ _ _ _ _, HB.out⟩
end Go.Proofs.Ytohjocajaanhaaa.P
