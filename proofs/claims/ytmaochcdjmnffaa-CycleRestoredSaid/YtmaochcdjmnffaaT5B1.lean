/- What the printed functions of cycles come to: the error of a cycle and its depths, in the program and in the reference. Plain lists and numbers. -/
import Derived.Test.YtmaochcdjmnffaaT5Px5
import Derived.Test.YtmaochcdjmnffaaT5Px6
import Derived.Test.YtmaochcdjmnffaaT5Px7
import Derived.Test.YtmaochcdjmnffaaT5Px18
import Derived.Test.YtmaochcdjmnffaaT5Px19
namespace Go.Proofs.Ytmaochcdjmnffaa.B
open Go.RowKit Go.Proofs.Ytmaochcdjmnffaa.P Go.Proofs.YtmaochcdjmnffaaW.PrintWords Go.Proofs.YtmaochcdjmnffaaW.PrintLast
set_option linter.unusedVariables false

def far (x : Int) : Bool := decide (10000000 < x) || decide (x < -10000000)
/-- The first group of conditions. -/
def bad1 (c r z q f i : Int) : Prop := (¬ c = 81000 ∧ ¬ c = 82000 ∧ ¬ c = 83000) ∨ z ≥ r ∨ r > i ∨ f < 1 ∨ f > 1000000000000 ∨ (c = 83000 ∧ q < 1)
/-- The second group. -/
def bad2 (c r z q i : Int) : Prop := far r = true ∨ far z = true ∨ far i = true ∨ (c = 83000 ∧ far q = true)
instance (c r z q f i : Int) : Decidable (bad1 c r z q f i) := by unfold bad1; infer_instance
instance (c r z q i : Int) : Decidable (bad2 c r z q i) := by unfold bad2; infer_instance
/-- The error of a cycle. -/
def vE (c r z q f i : Int) : Int := if bad1 c r z q f i then 1 else if bad2 c r z q i then 11 else if c = 83000 ∧ (r - z - 1) / q > 999 then 3 else 0

theorem wrap_small (x : Int) (h0 : -100000000 ≤ x) (h1 : x ≤ 100000000) : wrap64 x = x := by unfold wrap64; omega
theorem far_eq (x : Int) : cycle_far.f x = some (far x) := by
  unfold cycle_far.f far
  by_cases h : x > 10000000
  · rw [if_pos h]; simp [show (10000000 : Int) < x from h]
  · rw [if_neg h]; simp [show ¬ (10000000 : Int) < x from h]
theorem far_bounds {x : Int} (h : far x = false) : -10000000 ≤ x ∧ x ≤ 10000000 := by
  unfold far at h
  simp only [Bool.or_eq_false_iff, decide_eq_false_iff_not] at h
  omega

/-- What stands behind the first test in the program. -/
theorem j0_eq (k : Nat) (pk b : Bool) (c r z q f i : Int) (h : Bool) (hpk : pk = (c == 83000)) (hq : pk = true → b = false → 1 ≤ q) (hrz : b = false → z < r) :
    cycle_Valid.j0 (k + 2) pk b c r z q f i h = some (if b = true then 1 else if bad2 c r z q i then 11 else if c = 83000 ∧ (r - z - 1) / q > 999 then 3 else 0) := by
  simp only [cycle_Valid.j0, cycle_Valid.j1, far_eq, Option.bind_some]
  cases b with
  | true => simp
  | false =>
    have hz := hrz rfl
    simp only [Bool.false_eq_true, if_false]
    by_cases h1 : far r = true
    · rw [if_pos h1, if_pos (show bad2 c r z q i from .inl h1)]; simp
    · rw [if_neg h1]
      by_cases h2 : far z = true
      · rw [if_pos h2, if_pos (show bad2 c r z q i from .inr (.inl h2))]; simp
      · rw [if_neg h2]
        by_cases h3 : far i = true
        · rw [if_pos h3, if_pos (show bad2 c r z q i from .inr (.inr (.inl h3)))]; simp
        · rw [if_neg h3]
          have b1 := far_bounds (by simpa using h1 : far r = false)
          have b2 := far_bounds (by simpa using h2 : far z = false)
          cases hp : pk with
          | false =>
            have hc : ¬ c = 83000 := by intro e; rw [hpk, e] at hp; simp at hp
            simp only [Bool.false_eq_true, if_false]
            rw [if_neg (show ¬ bad2 c r z q i from fun hb => hb.elim h1 (fun hb => hb.elim h2 (fun hb => hb.elim h3 (fun hb => hc hb.1)))), if_neg (fun hh => hc hh.1)]
          | true =>
            have hc : c = 83000 := by rw [hp] at hpk; simpa using hpk.symm
            have hq1 := hq hp rfl
            simp only [if_true]
            by_cases h4 : far q = true
            · rw [if_pos h4, if_pos (show bad2 c r z q i from .inr (.inr (.inr ⟨hc, h4⟩)))]
            · rw [if_neg h4, if_neg (show ¬ bad2 c r z q i from fun hb => hb.elim h1 (fun hb => hb.elim h2 (fun hb => hb.elim h3 (fun hb => h4 hb.2))))]
              rw [if_neg (by omega), wrap_small (r - z) (by omega) (by omega), wrap_small (r - z - 1) (by omega) (by omega), Int.tdiv_eq_ediv_of_nonneg (by omega)]
              have hd0 : 0 ≤ (r - z - 1) / q := Int.ediv_nonneg (by omega) (by omega)
              have hd1 : (r - z - 1) / q ≤ r - z - 1 := Int.ediv_le_self _ (by omega)
              rw [wrap_small _ (by omega) (by omega)]
              by_cases h5 : (r - z - 1) / q > 999
              · rw [if_pos h5, if_pos ⟨hc, h5⟩]
              · rw [if_neg h5, if_neg (fun hh => h5 hh.2)]
theorem valid_eq (k : Nat) (c r z q f i : Int) (h : Bool) : cycle_Valid.f (k + 2) c r z q f i h = some (vE c r z q f i) := by
  have J := fun b hq hz => j0_eq k (c == 83000) b c r z q f i h rfl hq hz
  have J1 : cycle_Valid.j0 (k + 2) (c == 83000) true c r z q f i h = some 1 := by rw [J true (by simp) (by simp)]; rfl
  unfold cycle_Valid.f vE
  by_cases h1 : c = 83000
  · rw [if_pos h1]
    by_cases h2 : z ≥ r
    · rw [if_pos h2, J1, if_pos (show bad1 c r z q f i from .inr (.inl h2))]
    · rw [if_neg h2]
      by_cases h3 : r > i
      · rw [if_pos h3, J1, if_pos (show bad1 c r z q f i from .inr (.inr (.inl h3)))]
      · rw [if_neg h3]
        by_cases h4 : f < 1
        · rw [if_pos h4, J1, if_pos (show bad1 c r z q f i from .inr (.inr (.inr (.inl h4))))]
        · rw [if_neg h4]
          by_cases h5 : f > 1000000000000
          · rw [if_pos h5, J1, if_pos (show bad1 c r z q f i from .inr (.inr (.inr (.inr (.inl h5)))))]
          · rw [if_neg h5, J (decide (q ≤ 0)) (by simp; omega) (fun _ => by omega)]
            by_cases h6 : q ≤ 0
            · rw [if_pos (show bad1 c r z q f i from .inr (.inr (.inr (.inr (.inr ⟨h1, by omega⟩)))))]; simp [h6]
            · rw [if_neg (show ¬ bad1 c r z q f i by unfold bad1; omega)]; simp [h6]
  · rw [if_neg h1]
    have rest : (if z ≥ r then cycle_Valid.j0 (k + 2) (c == 83000) true c r z q f i h else if r > i then cycle_Valid.j0 (k + 2) (c == 83000) true c r z q f i h else if f < 1 then cycle_Valid.j0 (k + 2) (c == 83000) true c r z q f i h else if f > 1000000000000 then cycle_Valid.j0 (k + 2) (c == 83000) true c r z q f i h else cycle_Valid.j0 (k + 2) (c == 83000) false c r z q f i h) =
        some (if z ≥ r ∨ r > i ∨ f < 1 ∨ f > 1000000000000 then 1 else if bad2 c r z q i then 11 else if c = 83000 ∧ (r - z - 1) / q > 999 then 3 else 0) := by
      by_cases h2 : z ≥ r
      · rw [if_pos h2, J1, if_pos (.inl h2)]
      · rw [if_neg h2]
        by_cases h3 : r > i
        · rw [if_pos h3, J1, if_pos (.inr (.inl h3))]
        · rw [if_neg h3]
          by_cases h4 : f < 1
          · rw [if_pos h4, J1, if_pos (.inr (.inr (.inl h4)))]
          · rw [if_neg h4]
            by_cases h5 : f > 1000000000000
            · rw [if_pos h5, J1, if_pos (.inr (.inr (.inr h5)))]
            · rw [if_neg h5, J false (by simp [h1]) (fun _ => by omega), if_neg (show ¬ (z ≥ r ∨ r > i ∨ f < 1 ∨ f > 1000000000000) by omega), if_neg (show ¬ false = true by decide)]
    by_cases h7 : c = 81000
    · rw [if_pos h7, rest]
      by_cases h8 : z ≥ r ∨ r > i ∨ f < 1 ∨ f > 1000000000000
      · rw [if_pos h8, if_pos (show bad1 c r z q f i by unfold bad1; omega)]
      · rw [if_neg h8, if_neg (show ¬ bad1 c r z q f i by unfold bad1; omega)]
    · rw [if_neg h7]
      by_cases h9 : c = 82000
      · rw [if_pos h9, rest]
        by_cases h8 : z ≥ r ∨ r > i ∨ f < 1 ∨ f > 1000000000000
        · rw [if_pos h8, if_pos (show bad1 c r z q f i by unfold bad1; omega)]
        · rw [if_neg h8, if_neg (show ¬ bad1 c r z q f i by unfold bad1; omega)]
      · rw [if_neg h9, J1, if_pos (show bad1 c r z q f i from .inl ⟨h7, h9, h1⟩)]
/-! ### The reference's error -/
/-! ### The depths -/
end Go.Proofs.Ytmaochcdjmnffaa.B
