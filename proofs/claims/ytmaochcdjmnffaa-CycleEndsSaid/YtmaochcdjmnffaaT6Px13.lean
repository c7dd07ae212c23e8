-- PRINTED by print.py (a twelfth state) out of the translation. Not trusted: Lean checks it.
import Derived.Test.YtmaochcdjmnffaaT6Px0
import Derived.Test.YtmaochcdjmnffaaT6Px12
namespace Go.Proofs.Ytmaochcdjmnffaa.P
open Go.RowKit Go.Proofs.YtmaochcdjmnffaaW.PrintWords Go.Proofs.YtmaochcdjmnffaaW.PrintLast Go.Proofs.YtmaochcdjmnffaaW.PrintMore
attribute [local go_sem] max2_int min2_int max_two min_two max_three min_three max_four min_four   -- for this text's walks alone
set_option linter.unusedVariables false
set_option linter.unusedSimpArgs false

/-! ### swarfref41_Text: function 40 -/
mutual
def swarfref41_Text.j0 : Nat → ByteArray → Int → Option (ByteArray)
  | 0, _, _ => none
  | k + 1, x3, x4 => (swarfref41_digits.f k (IntKind.u64.wrap (Int.tdiv x4 1000))).bind fun t153 => (if x3.size + t153.size ≤ 9223372036854775807 then (if (Int.tmod x4 1000) > 0 then ((swarfref41_digits.f k (IntKind.u64.wrap (1000 + (Int.tmod x4 1000)))).bind fun t154 => (if 1 ≤ (t154.size : Int) then (swarfref41_Text.l0 k (x3 ++ t153) (t154.extract 1 t154.size)) else (none))) else (some (x3 ++ t153))) else (none))
def swarfref41_Text.l0 : Nat → ByteArray → ByteArray → Option (ByteArray)
  | 0, _, _ => none
  | k + 1, x5, x7 => if 0 ≤ (wrap64 ((x7.size : Int) - 1)) then (if (wrap64 ((x7.size : Int) - 1)) < (x7.size : Int) then (if (bt x7 (wrap64 ((x7.size : Int) - 1))) = 48 then (if (wrap64 ((x7.size : Int) - 1)) ≤ (x7.size : Int) then (swarfref41_Text.l0 k x5 (x7.extract 0 ((wrap64 ((x7.size : Int) - 1)) : Int).toNat)) else (none)) else (if x5.size + 1 ≤ 9223372036854775807 then (if (x5 ++ (⟨#[46]⟩ : ByteArray)).size + x7.size ≤ 9223372036854775807 then (some ((x5 ++ (⟨#[46]⟩ : ByteArray)) ++ x7)) else (none)) else (none))) else (none)) else (none)
end
def swarfref41_Text.f (k : Nat) (a0 : Int) : Option (ByteArray) := if a0 < 0 then (swarfref41_Text.j0 k (⟨#[45]⟩ : ByteArray) (IntKind.u64.wrap (-(IntKind.u64.wrap (a0))))) else (swarfref41_Text.j0 k (⟨#[]⟩ : ByteArray) (IntKind.u64.wrap (a0)))
theorem swarfref41_Text.mono_l : ∀ k, (∀ y0 y1, LeO (swarfref41_Text.j0 k y0 y1) (swarfref41_Text.j0 (k + 1) y0 y1)) ∧ (∀ y0 y1, LeO (swarfref41_Text.l0 k y0 y1) (swarfref41_Text.l0 (k + 1) y0 y1))
  | 0 => ⟨fun _ _ r h => by simp [swarfref41_Text.j0] at h, fun _ _ r h => by simp [swarfref41_Text.l0] at h⟩
  | k + 1 => by
    obtain ⟨ih0, ih1⟩ := swarfref41_Text.mono_l k
    refine ⟨?_, ?_⟩
    · intro y0 y1
      unfold swarfref41_Text.j0
      repeat' first
      | (with_reducible exact ih0 _ _)
      | (with_reducible exact ih1 _ _)
      | (with_reducible exact swarfref41_digits.mono _ _)
      | (with_reducible exact LeO.refl _)
      | (with_reducible exact LeO.none _)
      | (with_reducible refine LeO.ite ?_ ?_)
      | (with_reducible refine LeO.bind ?_ (fun _ => ?_))
      | exact ih0 _ _
      | exact ih1 _ _
      | exact swarfref41_digits.mono _ _
      | exact LeO.none _
      | refine LeO.ite ?_ ?_
      | refine LeO.bind ?_ (fun _ => ?_)
    · intro y0 y1
      unfold swarfref41_Text.l0
      repeat' first
      | (with_reducible exact ih0 _ _)
      | (with_reducible exact ih1 _ _)
      | (with_reducible exact swarfref41_digits.mono _ _)
      | (with_reducible exact LeO.refl _)
      | (with_reducible exact LeO.none _)
      | (with_reducible refine LeO.ite ?_ ?_)
      | (with_reducible refine LeO.bind ?_ (fun _ => ?_))
      | exact ih0 _ _
      | exact ih1 _ _
      | exact swarfref41_digits.mono _ _
      | exact LeO.none _
      | refine LeO.ite ?_ ?_
      | refine LeO.bind ?_ (fun _ => ?_)
theorem swarfref41_Text.mono : ∀ a0 k, LeO (swarfref41_Text.f k a0) (swarfref41_Text.f (k + 1) a0) := by
  intro a0 k
  obtain ⟨ih0, ih1⟩ := swarfref41_Text.mono_l k
  unfold swarfref41_Text.f
  repeat' first
      | (with_reducible exact ih0 _ _)
      | (with_reducible exact ih1 _ _)
      | (with_reducible exact swarfref41_digits.mono _ _)
      | (with_reducible exact LeO.refl _)
      | (with_reducible exact LeO.none _)
      | (with_reducible refine LeO.ite ?_ ?_)
      | (with_reducible refine LeO.bind ?_ (fun _ => ?_))
      | exact ih0 _ _
      | exact ih1 _ _
      | exact swarfref41_digits.mono _ _
      | exact LeO.none _
      | refine LeO.ite ?_ ?_
      | refine LeO.bind ?_ (fun _ => ?_)
set_option maxHeartbeats 8000000 in
set_option maxRecDepth 100000 in
theorem swarfref41_Text.calls (k : Nat) (a0 : Int) (r : ByteArray) (w : World) (h : swarfref41_Text.f k a0 = some r) :
    Calls Try.prog 40 #[.int .i64 a0] w fun e w' => e = .returned (.string r) ∧ Drawn0 w w' := by
  have H : (if a0 < 0 then (swarfref41_Text.j0 k (⟨#[45]⟩ : ByteArray) (IntKind.u64.wrap (-(IntKind.u64.wrap (a0))))) else (swarfref41_Text.j0 k (⟨#[]⟩ : ByteArray) (IntKind.u64.wrap (a0)))) = some r := h
  clear h
  have HC2 := Aside0.mk H
  clear H
  go_enter Try.func40, Try.ntmps40
  go_upto_if 11 with (fail)
  go_cut [3, 4] (fun v3 v4 wc => ∃ (kq : Nat) (x3_1 : ByteArray) (x4_1 : Int), v3 = .string x3_1 ∧ v4 = .int .u64 x4_1 ∧ Aside0 (swarfref41_Text.j0 kq x3_1 x4_1 = some r) ∧ Aside0 (kq ≤ k) ∧ Drawn0 w wc)
  case first =>
    have H := HC2.out
    clear HC2
    by_cases c3 : a0 < 0
    · rw [if_pos c3] at H
      have c3b0 : decide (a0 < 0) = true := decide_eq_true c3
      clear c3
      (first | rw [c3b0] | (simp only [i64_w, i32_w]; rw [c3b0]) | skip)
      have H' := Aside0.mk H
      clear H
      go_wp2
      go_meet
      case rel => exact ⟨_, ((⟨#[45]⟩ : ByteArray)), (IntKind.u64.wrap (-(IntKind.u64.wrap (a0)))), (by first | rfl | (simp; done) | (simp [*]; done)), (by first | rfl | (simp; done) | (simp [*]; done)), H', ⟨by first | omega | exact Nat.le_refl _⟩, by repeat (first | exact Drawn0.refl _ | apply Drawn0.step)⟩
    · rw [if_neg c3] at H
      have c3b0 : decide (a0 < 0) = false := decide_eq_false c3
      clear c3
      (first | rw [c3b0] | (simp only [i64_w, i32_w]; rw [c3b0]) | skip)
      have H' := Aside0.mk H
      clear H
      go_wp2
      go_meet
      case rel => exact ⟨_, ((⟨#[]⟩ : ByteArray)), (IntKind.u64.wrap (a0)), (by first | rfl | (simp; done) | (simp [*]; done)), (by first | rfl | (simp; done) | (simp [*]; done)), H', ⟨by first | omega | exact Nat.le_refl _⟩, by repeat (first | exact Drawn0.refl _ | apply Drawn0.step)⟩
  case rest =>
    clear HC2
    try clear p2
    try clear c3
    try clear c3b0
    obtain ⟨kq, x3_1, x4_1, rfl, rfl, HA, HJ1, ⟨mc1, rfl⟩⟩ := hcut
    cases kq with
    | zero => exact absurd HA.out (by simp [swarfref41_Text.j0])
    | succ kj1 =>
      have H := HA.out
      clear HA
      simp only [swarfref41_Text.j0] at H
      replace H := Option.bind_eq_some_iff.mp H
      obtain ⟨t153, A40, H⟩ := H
      replace H : (if x3_1.size + t153.size ≤ 9223372036854775807 then (if (Int.tmod x4_1 1000) > 0 then ((swarfref41_digits.f kj1 (IntKind.u64.wrap (1000 + (Int.tmod x4_1 1000)))).bind fun t154 => (if 1 ≤ (t154.size : Int) then (swarfref41_Text.l0 kj1 (x3_1 ++ t153) (t154.extract 1 t154.size)) else (none))) else (some (x3_1 ++ t153))) else (none)) = some r := H
      have A4 := Aside0.mk A40
      clear A40
      by_cases c5 : x3_1.size + t153.size ≤ 9223372036854775807
      · rw [if_pos c5] at H
        have c5b0 := eq_true c5
        have c5b1 : decide (x3_1.size + t153.size ≤ 9223372036854775807) = true := decide_eq_true c5
        try have c5b2 : (9223372036854775807 < x3_1.size + t153.size) = False := eq_false (Nat.not_lt.2 c5)
        (try (have c5b3 := Nat.not_lt.2 c5; simp [Go.ByteArray.size_append', Go.ByteArray.size_mk'] at c5b3; have c5b4 := eq_false (Nat.not_lt.2 c5b3)))
        by_cases c6 : (Int.tmod x4_1 1000) > 0
        · rw [if_pos c6] at H
          have c6b0 : decide (0 < (Int.tmod x4_1 1000)) = true := decide_eq_true c6
          clear c6
          replace H := Option.bind_eq_some_iff.mp H
          obtain ⟨t154, A70, H⟩ := H
          replace H : (if 1 ≤ (t154.size : Int) then (swarfref41_Text.l0 kj1 (x3_1 ++ t153) (t154.extract 1 t154.size)) else (none)) = some r := H
          have A7 := Aside0.mk A70
          clear A70
          by_cases c8 : 1 ≤ (t154.size : Int)
          · rw [if_pos c8] at H
            have c8b0 := eq_true c8
            have c8b1 : decide (1 ≤ (t154.size : Int)) = true := decide_eq_true c8
            clear c8
            have H' := Aside0.mk H
            clear H
            go_wp2_with (first | ((with_reducible refine gate_callee (f := 42) rfl ?_); refine goesL_ (some 17) rfl rfl Try.func42 (by kernel_rfl) rfl #[.int .u64 (IntKind.u64.wrap (Int.tdiv x4_1 1000))] rfl (by (try simp only [List.map_toArray, List.map_cons, List.map_nil]); first | done | rfl | (simp only [List.length_drop, List.length_take]; rfl)) ?_; (with_reducible refine (swarfref41_digits.calls kj1 (IntKind.u64.wrap (Int.tdiv x4_1 1000)) t153 _ A4.out).mono ?_); rintro e w' ⟨rfl, ⟨nd, rfl⟩⟩; refine ⟨_, rfl, ?_⟩) | ((with_reducible refine gate_callee (f := 42) rfl ?_); refine goesL_ (some 25) rfl rfl Try.func42 (by kernel_rfl) rfl #[.int .u64 (IntKind.u64.wrap (1000 + (Int.tmod x4_1 1000)))] rfl (by (try simp only [List.map_toArray, List.map_cons, List.map_nil]); first | done | rfl | (simp only [List.length_drop, List.length_take]; rfl)) ?_; (with_reducible refine (swarfref41_digits.calls kj1 (IntKind.u64.wrap (1000 + (Int.tmod x4_1 1000))) t154 _ A7.out).mono ?_); rintro e w' ⟨rfl, ⟨nd, rfl⟩⟩; refine ⟨_, rfl, ?_⟩))
            go_loopg [7] kj1 (fun kq v7 w' => ∃ (x7_2 : ByteArray), v7 = .string x7_2 ∧ Aside0 (swarfref41_Text.l0 kq (x3_1 ++ t153) x7_2 = some r) ∧ Aside0 (kq ≤ kj1) ∧ Drawn0 w w')
            case atStart => exact ⟨(t154.extract 1 t154.size), (by first | rfl | (simp; done) | (simp [*]; done)), H', ⟨Nat.le_refl _⟩, by repeat (first | exact Drawn0.refl _ | apply Drawn0.step)⟩
            case round =>
              clear H'
              try clear c1
              try clear p2
              try clear c3
              try clear c3b0
              try clear c4
              try clear c5
              try clear c5b0
              try clear c5b1
              try clear c5b2
              try clear c6
              try clear c6b0
              try clear c8
              try clear c8b0
              try clear c8b1
              try clear p2
              obtain ⟨x7_2, rfl, HA, HK2, ⟨m2, rfl⟩⟩ := hrel
              cases gk with
              | zero => exact absurd HA.out (by simp [swarfref41_Text.l0])
              | succ k2 =>
                have H := HA.out
                clear HA
                simp only [swarfref41_Text.l0] at H
                obtain ⟨ji9, hji9⟩ : ∃ j_ : Int, (wrap64 ((x7_2.size : Int) - 1)) = j_ := ⟨_, rfl⟩
                replace H : (if 0 ≤ (ji9) then (if (ji9) < (x7_2.size : Int) then (if (bt x7_2 (ji9)) = 48 then (if (ji9) ≤ (x7_2.size : Int) then (swarfref41_Text.l0 k2 (x3_1 ++ t153) (x7_2.extract 0 ((ji9) : Int).toNat)) else (none)) else (if (x3_1 ++ t153).size + 1 ≤ 9223372036854775807 then (if ((x3_1 ++ t153) ++ (⟨#[46]⟩ : ByteArray)).size + x7_2.size ≤ 9223372036854775807 then (some (((x3_1 ++ t153) ++ (⟨#[46]⟩ : ByteArray)) ++ x7_2)) else (none)) else (none))) else (none)) else (none)) = some r := by first | (rw [hji9] at H; exact H) | (simp only [hji9] at H ⊢; exact H)
                have hji9w : (IntKind.i64.wrap ((x7_2.size : Int) - 1)) = ji9 := (i64_w _).trans hji9
                by_cases c10 : 0 ≤ (ji9)
                · rw [if_pos c10] at H
                  have c10b0 : decide (0 ≤ (ji9)) = true := decide_eq_true c10
                  clear c10
                  by_cases c11 : (ji9) < (x7_2.size : Int)
                  · rw [if_pos c11] at H
                    have c11b0 : decide ((ji9) < (x7_2.size : Int)) = true := decide_eq_true c11
                    clear c11
                    by_cases c13 : (bt x7_2 (ji9)) = 48
                    · rw [if_pos c13] at H
                      have c13b0 : ((bt x7_2 (ji9)) == 48) = true := beq_iff_eq.mpr c13
                      have c13b1 : ((bt x7_2 (ji9)) != 48) = false := bne_eq_false_iff_eq.mpr c13
                      clear c13
                      have c14b0 := eq_true (of_decide_eq_true (by first | (with_reducible assumption) | assumption) : 0 ≤ (ji9))
                      by_cases c15 : (ji9) ≤ (x7_2.size : Int)
                      · rw [if_pos c15] at H
                        have c15b0 := eq_true c15
                        have c15b1 : decide ((ji9) ≤ (x7_2.size : Int)) = true := decide_eq_true c15
                        clear c15
                        have H' := Aside0.mk H
                        clear H
                        have p12 : 0 ≤ ((ji9) : Int) := of_decide_eq_true (by first | (with_reducible assumption) | assumption)
                        have q12 : (ji9) < (x7_2.size : Int) := of_decide_eq_true (by first | (with_reducible assumption) | assumption)
                        have hx12 := bt_at x7_2 (ji9)
                        replace p12 := eq_true p12
                        replace q12 := eq_true q12
                        go_wp2
                        go_roundg k2
                        case measure => have := HJ1.out; have := HK2.out; omega
                        case rel => exact ⟨(x7_2.extract 0 ((ji9) : Int).toNat), (by first | rfl | (simp; done) | (simp only [← hji9] <;> (first | rfl | simp)) | (simp [*]; done)), H', ⟨by have := HJ1.out; have := HK2.out; omega⟩, by repeat (first | exact Drawn0.refl _ | apply Drawn0.step)⟩
                      · rw [if_neg c15] at H
                        exact absurd H (by simp)
                    · rw [if_neg c13] at H
                      have c13b0 : ((bt x7_2 (ji9)) == 48) = false := beq_eq_false_iff_ne.mpr c13
                      have c13b1 : ((bt x7_2 (ji9)) != 48) = true := bne_iff_ne.mpr c13
                      by_cases c16 : (x3_1 ++ t153).size + 1 ≤ 9223372036854775807
                      · rw [if_pos c16] at H
                        have c16b0 := eq_true c16
                        have c16b1 : decide ((x3_1 ++ t153).size + 1 ≤ 9223372036854775807) = true := decide_eq_true c16
                        try have c16b2 : (9223372036854775807 < (x3_1 ++ t153).size + 1) = False := eq_false (Nat.not_lt.2 c16)
                        (try (have c16b3 := Nat.not_lt.2 c16; simp [Go.ByteArray.size_append', Go.ByteArray.size_mk'] at c16b3; have c16b4 := eq_false (Nat.not_lt.2 c16b3)))
                        by_cases c17 : ((x3_1 ++ t153) ++ (⟨#[46]⟩ : ByteArray)).size + x7_2.size ≤ 9223372036854775807
                        · rw [if_pos c17] at H
                          have c17b0 := eq_true c17
                          have c17b1 : decide (((x3_1 ++ t153) ++ (⟨#[46]⟩ : ByteArray)).size + x7_2.size ≤ 9223372036854775807) = true := decide_eq_true c17
                          try have c17b2 : (9223372036854775807 < ((x3_1 ++ t153) ++ (⟨#[46]⟩ : ByteArray)).size + x7_2.size) = False := eq_false (Nat.not_lt.2 c17)
                          (try (have c17b3 := Nat.not_lt.2 c17; simp [Go.ByteArray.size_append', Go.ByteArray.size_mk'] at c17b3; have c17b4 := eq_false (Nat.not_lt.2 c17b3)))
                          obtain rfl := Option.some.inj H
                          have p12 : 0 ≤ ((ji9) : Int) := of_decide_eq_true (by first | (with_reducible assumption) | assumption)
                          have q12 : (ji9) < (x7_2.size : Int) := of_decide_eq_true (by first | (with_reducible assumption) | assumption)
                          have hx12 := bt_at x7_2 (ji9)
                          replace p12 := eq_true p12
                          replace q12 := eq_true q12
                          go_wp2
                          go_ret
                          exact ⟨by first | rfl | (simp; done) | (simp only [← hji9] <;> (first | rfl | simp)) | (simp [*]; done), by repeat (first | exact Drawn0.refl _ | apply Drawn0.step)⟩
                        · rw [if_neg c17] at H
                          exact absurd H (by simp)
                      · rw [if_neg c16] at H
                        exact absurd H (by simp)
                  · rw [if_neg c11] at H
                    exact absurd H (by simp)
                · rw [if_neg c10] at H
                  exact absurd H (by simp)
          · rw [if_neg c8] at H
            exact absurd H (by simp)
        · rw [if_neg c6] at H
          have c6b0 : decide (0 < (Int.tmod x4_1 1000)) = false := decide_eq_false c6
          clear c6
          obtain rfl := Option.some.inj H
          go_wp2_with (first | ((with_reducible refine gate_callee (f := 42) rfl ?_); refine goesL_ (some 17) rfl rfl Try.func42 (by kernel_rfl) rfl #[.int .u64 (IntKind.u64.wrap (Int.tdiv x4_1 1000))] rfl (by (try simp only [List.map_toArray, List.map_cons, List.map_nil]); first | done | rfl | (simp only [List.length_drop, List.length_take]; rfl)) ?_; (with_reducible refine (swarfref41_digits.calls kj1 (IntKind.u64.wrap (Int.tdiv x4_1 1000)) t153 _ A4.out).mono ?_); rintro e w' ⟨rfl, ⟨nd, rfl⟩⟩; refine ⟨_, rfl, ?_⟩))
          go_ret
          exact ⟨by first | rfl | (simp; done) | (simp [*]; done), by repeat (first | exact Drawn0.refl _ | apply Drawn0.step)⟩
      · rw [if_neg c5] at H
        exact absurd H (by simp)

end Go.Proofs.Ytmaochcdjmnffaa.P
