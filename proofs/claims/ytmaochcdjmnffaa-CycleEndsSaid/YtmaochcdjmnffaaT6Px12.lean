-- PRINTED by print.py (a twelfth state) out of the translation. Not trusted: Lean checks it.
import Derived.Test.YtmaochcdjmnffaaT6Px0
namespace Go.Proofs.Ytmaochcdjmnffaa.P
open Go.RowKit Go.Proofs.YtmaochcdjmnffaaW.PrintWords Go.Proofs.YtmaochcdjmnffaaW.PrintLast Go.Proofs.YtmaochcdjmnffaaW.PrintMore
attribute [local go_sem] max2_int min2_int max_two min_two max_three min_three max_four min_four   -- for this text's walks alone
set_option linter.unusedVariables false
set_option linter.unusedSimpArgs false

/-! ### swarfref41_digits: function 42 -/
def swarfref41_digits.l0 : Nat → Int → ByteArray → Option (ByteArray)
  | 0, _, _ => none
  | k + 1, x0, x3 => if x0 > 0 then (if (Utf8.encode (wrap32 (IntKind.u64.wrap (48 + (Int.tmod x0 10))))).size + x3.size ≤ 9223372036854775807 then (swarfref41_digits.l0 k (IntKind.u64.wrap (Int.tdiv x0 10)) ((Utf8.encode (wrap32 (IntKind.u64.wrap (48 + (Int.tmod x0 10))))) ++ x3)) else (none)) else (if x3.toList = ([] : List UInt8) then (if (Utf8.encode (wrap32 (IntKind.u64.wrap (48 + (Int.tmod x0 10))))).size + x3.size ≤ 9223372036854775807 then (swarfref41_digits.l0 k (IntKind.u64.wrap (Int.tdiv x0 10)) ((Utf8.encode (wrap32 (IntKind.u64.wrap (48 + (Int.tmod x0 10))))) ++ x3)) else (none)) else (some x3))
def swarfref41_digits.f (k : Nat) (a0 : Int) : Option (ByteArray) := swarfref41_digits.l0 k a0 (⟨#[]⟩ : ByteArray)
theorem swarfref41_digits.mono_l : ∀ k, (∀ y0 y1, LeO (swarfref41_digits.l0 k y0 y1) (swarfref41_digits.l0 (k + 1) y0 y1))
  | 0 => fun _ _ r h => by simp [swarfref41_digits.l0] at h
  | k + 1 => by
    have ih0 := swarfref41_digits.mono_l k
    · intro y0 y1
      unfold swarfref41_digits.l0
      repeat' first
      | (with_reducible exact ih0 _ _)
      | (with_reducible exact LeO.refl _)
      | (with_reducible exact LeO.none _)
      | (with_reducible refine LeO.ite ?_ ?_)
      | (with_reducible refine LeO.bind ?_ (fun _ => ?_))
      | exact ih0 _ _
      | exact LeO.none _
      | refine LeO.ite ?_ ?_
      | refine LeO.bind ?_ (fun _ => ?_)
theorem swarfref41_digits.mono : ∀ a0 k, LeO (swarfref41_digits.f k a0) (swarfref41_digits.f (k + 1) a0) := by
  intro a0 k
  have ih0 := swarfref41_digits.mono_l k
  unfold swarfref41_digits.f
  repeat' first
      | (with_reducible exact ih0 _ _)
      | (with_reducible exact LeO.refl _)
      | (with_reducible exact LeO.none _)
      | (with_reducible refine LeO.ite ?_ ?_)
      | (with_reducible refine LeO.bind ?_ (fun _ => ?_))
      | exact ih0 _ _
      | exact LeO.none _
      | refine LeO.ite ?_ ?_
      | refine LeO.bind ?_ (fun _ => ?_)
set_option maxHeartbeats 8000000 in
set_option maxRecDepth 100000 in
theorem swarfref41_digits.calls (k : Nat) (a0 : Int) (r : ByteArray) (w : World) (h : swarfref41_digits.f k a0 = some r) :
    Calls Try.prog 42 #[.int .u64 a0] w fun e w' => e = .returned (.string r) ∧ Drawn0 w w' := by
  have H : (swarfref41_digits.l0 k a0 (⟨#[]⟩ : ByteArray)) = some r := h
  clear h
  have H' := Aside0.mk H
  clear H
  go_enter Try.func42, Try.ntmps42
  go_wp2
  go_loopg [0, 3] k (fun kq v0 v3 w' => ∃ (x0_1 : Int) (x3_1 : ByteArray), v0 = .int .u64 x0_1 ∧ v3 = .string x3_1 ∧ Aside0 (swarfref41_digits.l0 kq x0_1 x3_1 = some r) ∧ Aside0 (kq ≤ k) ∧ Drawn0 w w')
  case atStart => exact ⟨(a0), ((⟨#[]⟩ : ByteArray)), (by first | rfl | (simp; done) | (simp [*]; done)), (by first | rfl | (simp; done) | (simp [*]; done)), H', ⟨Nat.le_refl _⟩, by repeat (first | exact Drawn0.refl _ | apply Drawn0.step)⟩
  case round =>
    clear H'
    obtain ⟨x0_1, x3_1, rfl, rfl, HA, HK1, ⟨m1, rfl⟩⟩ := hrel
    cases gk with
    | zero => exact absurd HA.out (by simp [swarfref41_digits.l0])
    | succ k1 =>
      have H := HA.out
      clear HA
      simp only [swarfref41_digits.l0] at H
      by_cases c2 : x0_1 > 0
      · rw [if_pos c2] at H
        have c2b0 : decide (0 < x0_1) = true := decide_eq_true c2
        clear c2
        by_cases c3 : (Utf8.encode (wrap32 (IntKind.u64.wrap (48 + (Int.tmod x0_1 10))))).size + x3_1.size ≤ 9223372036854775807
        · rw [if_pos c3] at H
          have c3b0 := eq_true c3
          have c3b1 : decide ((Utf8.encode (wrap32 (IntKind.u64.wrap (48 + (Int.tmod x0_1 10))))).size + x3_1.size ≤ 9223372036854775807) = true := decide_eq_true c3
          try have c3b2 : (9223372036854775807 < (Utf8.encode (wrap32 (IntKind.u64.wrap (48 + (Int.tmod x0_1 10))))).size + x3_1.size) = False := eq_false (Nat.not_lt.2 c3)
          (try (have c3b3 := Nat.not_lt.2 c3; simp [Go.ByteArray.size_append', Go.ByteArray.size_mk'] at c3b3; have c3b4 := eq_false (Nat.not_lt.2 c3b3)))
          have H' := Aside0.mk H
          clear H
          go_wp2
          go_roundg k1
          case measure => have := HK1.out; omega
          case rel => exact ⟨(IntKind.u64.wrap (Int.tdiv x0_1 10)), ((Utf8.encode (wrap32 (IntKind.u64.wrap (48 + (Int.tmod x0_1 10))))) ++ x3_1), (by first | rfl | (simp; done) | (simp [*]; done)), (by first | rfl | (simp; done) | (simp [*]; done)), H', ⟨by have := HK1.out; omega⟩, by repeat (first | exact Drawn0.refl _ | apply Drawn0.step)⟩
        · rw [if_neg c3] at H
          exact absurd H (by simp)
      · rw [if_neg c2] at H
        have c2b0 : decide (0 < x0_1) = false := decide_eq_false c2
        clear c2
        by_cases c4 : x3_1.toList = ([] : List UInt8)
        · rw [if_pos c4] at H
          have c4b0 : (x3_1.toList == ([] : List UInt8)) = true := beq_iff_eq.mpr c4
          have c4b1 : (x3_1.toList != ([] : List UInt8)) = false := bne_eq_false_iff_eq.mpr c4
          clear c4
          by_cases c5 : (Utf8.encode (wrap32 (IntKind.u64.wrap (48 + (Int.tmod x0_1 10))))).size + x3_1.size ≤ 9223372036854775807
          · rw [if_pos c5] at H
            have c5b0 := eq_true c5
            have c5b1 : decide ((Utf8.encode (wrap32 (IntKind.u64.wrap (48 + (Int.tmod x0_1 10))))).size + x3_1.size ≤ 9223372036854775807) = true := decide_eq_true c5
            try have c5b2 : (9223372036854775807 < (Utf8.encode (wrap32 (IntKind.u64.wrap (48 + (Int.tmod x0_1 10))))).size + x3_1.size) = False := eq_false (Nat.not_lt.2 c5)
            (try (have c5b3 := Nat.not_lt.2 c5; simp [Go.ByteArray.size_append', Go.ByteArray.size_mk'] at c5b3; have c5b4 := eq_false (Nat.not_lt.2 c5b3)))
            have H' := Aside0.mk H
            clear H
            go_wp2
            go_roundg k1
            case measure => have := HK1.out; omega
            case rel => exact ⟨(IntKind.u64.wrap (Int.tdiv x0_1 10)), ((Utf8.encode (wrap32 (IntKind.u64.wrap (48 + (Int.tmod x0_1 10))))) ++ x3_1), (by first | rfl | (simp; done) | (simp [*]; done)), (by first | rfl | (simp; done) | (simp [*]; done)), H', ⟨by have := HK1.out; omega⟩, by repeat (first | exact Drawn0.refl _ | apply Drawn0.step)⟩
          · rw [if_neg c5] at H
            exact absurd H (by simp)
        · rw [if_neg c4] at H
          have c4b0 : (x3_1.toList == ([] : List UInt8)) = false := beq_eq_false_iff_ne.mpr c4
          have c4b1 : (x3_1.toList != ([] : List UInt8)) = true := bne_iff_ne.mpr c4
          obtain rfl := Option.some.inj H
          go_wp2
          go_ret
          exact ⟨by first | rfl | (simp; done) | (simp [*]; done), by repeat (first | exact Drawn0.refl _ | apply Drawn0.step)⟩

end Go.Proofs.Ytmaochcdjmnffaa.P
