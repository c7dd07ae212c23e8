/- What the printed functions of cycles come to: the error of a cycle and its depths, in the program and in the reference. Plain lists and numbers. -/
import Derived.Test.YtmaochcdjmnffaaT6Px5
import Derived.Test.YtmaochcdjmnffaaT6Px6
import Derived.Test.YtmaochcdjmnffaaT6Px7
import Derived.Test.YtmaochcdjmnffaaT6Px18
import Derived.Test.YtmaochcdjmnffaaT6Px19
namespace Go.Proofs.Ytmaochcdjmnffaa.B
open Go.RowKit Go.Proofs.Ytmaochcdjmnffaa.P Go.Proofs.YtmaochcdjmnffaaW.PrintWords Go.Proofs.YtmaochcdjmnffaaW.PrintLast
set_option linter.unusedVariables false

def far (x : Int) : Bool := decide (10000000 < x) || decide (x < -10000000)
/-- The first group of conditions. -/
def bad1 (c r z q f i : Int) : Prop := (¬ c = 81000 ∧ ¬ c = 82000 ∧ ¬ c = 83000) ∨ z ≥ r ∨ r > i ∨ f < 1 ∨ f > 1000000000000 ∨ (c = 83000 ∧ q < 1)
/-- The second group. -/
def bad2 (c r z q i : Int) : Prop := far r = true ∨ far z = true ∨ far i = true ∨ (c = 83000 ∧ far q = true)
instance (c r z q f i : Int) : Decidable (bad1 c r z q f i) := by unfold bad1; infer_instance
instance (c r z q i : Int) : Decidable (bad2 c r z q i) := by unfold bad2; infer_instance
/-- The error of a cycle. -/
def vE (c r z q f i : Int) : Int := if bad1 c r z q f i then 1 else if bad2 c r z q i then 11 else if c = 83000 ∧ (r - z - 1) / q > 999 then 3 else 0

theorem wrap_small (x : Int) (h0 : -100000000 ≤ x) (h1 : x ≤ 100000000) : wrap64 x = x := by unfold wrap64; omega
theorem far_eq (x : Int) : cycle_far.f x = some (far x) := by
  unfold cycle_far.f far
  by_cases h : x > 10000000
  · rw [if_pos h]; simp [show (10000000 : Int) < x from h]
  · rw [if_neg h]; simp [show ¬ (10000000 : Int) < x from h]
theorem in_eq (x : Int) : swarfref44_in.f x = some (!far x) := by
  unfold swarfref44_in.f far
  by_cases h : x ≥ -10000000
  · rw [if_pos h]
    by_cases h2 : x ≤ 10000000
    · simp [h2, show ¬ (10000000 : Int) < x by omega, show ¬ x < -10000000 by omega]
    · simp [h2, show (10000000 : Int) < x by omega]
  · rw [if_neg h]; simp [show x < -10000000 by omega]
theorem far_bounds {x : Int} (h : far x = false) : -10000000 ≤ x ∧ x ≤ 10000000 := by
  unfold far at h
  simp only [Bool.or_eq_false_iff, decide_eq_false_iff_not] at h
  omega

/-- What stands behind the first test in the program. -/
theorem j0_eq (k : Nat) (pk b : Bool) (c r z q f i : Int) (h : Bool) (hpk : pk = (c == 83000)) (hq : pk = true → b = false → 1 ≤ q) (hrz : b = false → z < r) :
    cycle_Valid.j0 (k + 2) pk b c r z q f i h = some (if b = true then 1 else if bad2 c r z q i then 11 else if c = 83000 ∧ (r - z - 1) / q > 999 then 3 else 0) := by
  simp only [cycle_Valid.j0, cycle_Valid.j1, far_eq, Option.bind_some]
  cases b with
  | true => simp
  | false =>
    have hz := hrz rfl
    simp only [Bool.false_eq_true, if_false]
    by_cases h1 : far r = true
    · rw [if_pos h1, if_pos (show bad2 c r z q i from .inl h1)]; simp
    · rw [if_neg h1]
      by_cases h2 : far z = true
      · rw [if_pos h2, if_pos (show bad2 c r z q i from .inr (.inl h2))]; simp
      · rw [if_neg h2]
        by_cases h3 : far i = true
        · rw [if_pos h3, if_pos (show bad2 c r z q i from .inr (.inr (.inl h3)))]; simp
        · rw [if_neg h3]
          have b1 := far_bounds (by simpa using h1 : far r = false)
          have b2 := far_bounds (by simpa using h2 : far z = false)
          cases hp : pk with
          | false =>
            have hc : ¬ c = 83000 := by intro e; rw [hpk, e] at hp; simp at hp
            simp only [Bool.false_eq_true, if_false]
            rw [if_neg (show ¬ bad2 c r z q i from fun hb => hb.elim h1 (fun hb => hb.elim h2 (fun hb => hb.elim h3 (fun hb => hc hb.1)))), if_neg (fun hh => hc hh.1)]
          | true =>
            have hc : c = 83000 := by rw [hp] at hpk; simpa using hpk.symm
            have hq1 := hq hp rfl
            simp only [if_true]
            by_cases h4 : far q = true
            · rw [if_pos h4, if_pos (show bad2 c r z q i from .inr (.inr (.inr ⟨hc, h4⟩)))]
            · rw [if_neg h4, if_neg (show ¬ bad2 c r z q i from fun hb => hb.elim h1 (fun hb => hb.elim h2 (fun hb => hb.elim h3 (fun hb => h4 hb.2))))]
              rw [if_neg (by omega), wrap_small (r - z) (by omega) (by omega), wrap_small (r - z - 1) (by omega) (by omega), Int.tdiv_eq_ediv_of_nonneg (by omega)]
              have hd0 : 0 ≤ (r - z - 1) / q := Int.ediv_nonneg (by omega) (by omega)
              have hd1 : (r - z - 1) / q ≤ r - z - 1 := Int.ediv_le_self _ (by omega)
              rw [wrap_small _ (by omega) (by omega)]
              by_cases h5 : (r - z - 1) / q > 999
              · rw [if_pos h5, if_pos ⟨hc, h5⟩]
              · rw [if_neg h5, if_neg (fun hh => h5 hh.2)]
theorem valid_eq (k : Nat) (c r z q f i : Int) (h : Bool) : cycle_Valid.f (k + 2) c r z q f i h = some (vE c r z q f i) := by
  have J := fun b hq hz => j0_eq k (c == 83000) b c r z q f i h rfl hq hz
  have J1 : cycle_Valid.j0 (k + 2) (c == 83000) true c r z q f i h = some 1 := by rw [J true (by simp) (by simp)]; rfl
  unfold cycle_Valid.f vE
  by_cases h1 : c = 83000
  · rw [if_pos h1]
    by_cases h2 : z ≥ r
    · rw [if_pos h2, J1, if_pos (show bad1 c r z q f i from .inr (.inl h2))]
    · rw [if_neg h2]
      by_cases h3 : r > i
      · rw [if_pos h3, J1, if_pos (show bad1 c r z q f i from .inr (.inr (.inl h3)))]
      · rw [if_neg h3]
        by_cases h4 : f < 1
        · rw [if_pos h4, J1, if_pos (show bad1 c r z q f i from .inr (.inr (.inr (.inl h4))))]
        · rw [if_neg h4]
          by_cases h5 : f > 1000000000000
          · rw [if_pos h5, J1, if_pos (show bad1 c r z q f i from .inr (.inr (.inr (.inr (.inl h5)))))]
          · rw [if_neg h5, J (decide (q ≤ 0)) (by simp; omega) (fun _ => by omega)]
            by_cases h6 : q ≤ 0
            · rw [if_pos (show bad1 c r z q f i from .inr (.inr (.inr (.inr (.inr ⟨h1, by omega⟩)))))]; simp [h6]
            · rw [if_neg (show ¬ bad1 c r z q f i by unfold bad1; omega)]; simp [h6]
  · rw [if_neg h1]
    have rest : (if z ≥ r then cycle_Valid.j0 (k + 2) (c == 83000) true c r z q f i h else if r > i then cycle_Valid.j0 (k + 2) (c == 83000) true c r z q f i h else if f < 1 then cycle_Valid.j0 (k + 2) (c == 83000) true c r z q f i h else if f > 1000000000000 then cycle_Valid.j0 (k + 2) (c == 83000) true c r z q f i h else cycle_Valid.j0 (k + 2) (c == 83000) false c r z q f i h) =
        some (if z ≥ r ∨ r > i ∨ f < 1 ∨ f > 1000000000000 then 1 else if bad2 c r z q i then 11 else if c = 83000 ∧ (r - z - 1) / q > 999 then 3 else 0) := by
      by_cases h2 : z ≥ r
      · rw [if_pos h2, J1, if_pos (.inl h2)]
      · rw [if_neg h2]
        by_cases h3 : r > i
        · rw [if_pos h3, J1, if_pos (.inr (.inl h3))]
        · rw [if_neg h3]
          by_cases h4 : f < 1
          · rw [if_pos h4, J1, if_pos (.inr (.inr (.inl h4)))]
          · rw [if_neg h4]
            by_cases h5 : f > 1000000000000
            · rw [if_pos h5, J1, if_pos (.inr (.inr (.inr h5)))]
            · rw [if_neg h5, J false (by simp [h1]) (fun _ => by omega), if_neg (show ¬ (z ≥ r ∨ r > i ∨ f < 1 ∨ f > 1000000000000) by omega), if_neg (show ¬ false = true by decide)]
    by_cases h7 : c = 81000
    · rw [if_pos h7, rest]
      by_cases h8 : z ≥ r ∨ r > i ∨ f < 1 ∨ f > 1000000000000
      · rw [if_pos h8, if_pos (show bad1 c r z q f i by unfold bad1; omega)]
      · rw [if_neg h8, if_neg (show ¬ bad1 c r z q f i by unfold bad1; omega)]
    · rw [if_neg h7]
      by_cases h9 : c = 82000
      · rw [if_pos h9, rest]
        by_cases h8 : z ≥ r ∨ r > i ∨ f < 1 ∨ f > 1000000000000
        · rw [if_pos h8, if_pos (show bad1 c r z q f i by unfold bad1; omega)]
        · rw [if_neg h8, if_neg (show ¬ bad1 c r z q f i by unfold bad1; omega)]
      · rw [if_neg h9, J1, if_pos (show bad1 c r z q f i from .inl ⟨h7, h9, h1⟩)]
/-! ### The reference's error -/
/-- The reference counts: m rounds are left. -/
theorem ref_l0 (m : Nat) : ∀ (k : Nat) (n h c r z q f i : Int) (b : Bool), m ≤ k → 0 ≤ n → n ≤ 999 → 1 ≤ q → q ≤ 10000000 → -10000000 ≤ z → z ≤ 10000000 → -20000000 ≤ h → h ≤ 20000000 → h ≤ z + m * q → (m = 0 ∨ z + (m - 1) * q < h) →
    swarfref44_Valid.l0 (k + 1) n h c r z q f i b = some (if n + m > 999 then 3 else 0) := by
  induction m with
  | zero =>
    intro k n h c r z q f i b hk hn0 hn1 hq hq2 hz0 hz1 hh0 hh1 hm _
    simp only [swarfref44_Valid.l0]
    rw [if_neg (by omega), if_neg (by omega)]
  | succ m ih =>
    intro k n h c r z q f i b hk hn0 hn1 hq hq2 hz0 hz1 hh0 hh1 hm hm2
    obtain ⟨k, rfl⟩ : ∃ j, k = j + 1 := ⟨k - 1, by omega⟩
    have e1 : ((m + 1 : Nat) : Int) * q = (m : Int) * q + q := by rw [Int.natCast_add, Int.add_mul]; simp
    have e2 : (((m + 1 : Nat) : Int) - 1) * q = (m : Int) * q := by congr 1; omega
    have e3 : ((m : Int) - 1) * q = (m : Int) * q - q := by rw [Int.sub_mul]; simp
    have e4 : 0 ≤ (m : Int) * q := Int.mul_nonneg (by omega) (by omega)
    rw [e1] at hm
    rw [e2] at hm2
    have hgt : h > z := by omega
    rw [swarfref44_Valid.l0, if_pos hgt, wrap_small (n + 1) (by omega) (by omega)]
    by_cases hb : n + 1 > 999
    · rw [if_pos hb, if_pos (by omega)]
    · rw [if_neg hb, wrap_small (h - q) (by omega) (by omega), ih k (n + 1) (h - q) c r z q f i b (by omega) (by omega) (by omega) hq hq2 hz0 hz1 (by omega) (by omega) (by omega) (by rw [e3]; rcases Nat.eq_zero_or_pos m with h0 | h0; exact .inl h0; right; omega)]
      have : n + 1 + (m : Int) = n + ((m + 1 : Nat) : Int) := by omega
      rw [this]
theorem rounds_of (r z q : Int) (hq : 1 ≤ q) (hz : z < r) : ∃ m : Nat, (m : Int) = (r - z - 1) / q ∧ r - q ≤ z + m * q ∧ (m = 0 ∨ z + (m - 1) * q < r - q) := by
  have h0 : 0 ≤ (r - z - 1) / q := Int.ediv_nonneg (by omega) (by omega)
  refine ⟨((r - z - 1) / q).toNat, by omega, ?_, ?_⟩
  · have h1 := Int.lt_ediv_add_one_mul_self (r - z - 1) (show 0 < q by omega)
    rw [Int.add_mul] at h1
    have : (((r - z - 1) / q).toNat : Int) = (r - z - 1) / q := by omega
    rw [this]; omega
  · right
    have h1 := Int.ediv_mul_le (r - z - 1) (show q ≠ 0 by omega)
    have : (((r - z - 1) / q).toNat : Int) = (r - z - 1) / q := by omega
    rw [this, Int.sub_mul]; omega
theorem ref_j0 (k : Nat) (hk : 10000000 * 2 + 5 ≤ k) (pk b : Bool) (c r z q f i : Int) (h : Bool) (hpk : pk = (c == 83000)) (hq : pk = true → b = false → 1 ≤ q) (hrz : b = false → z < r) :
    swarfref44_Valid.j0 (k + 2) pk b c r z q f i h = some (if b = true then 1 else if bad2 c r z q i then 11 else if c = 83000 ∧ (r - z - 1) / q > 999 then 3 else 0) := by
  simp only [swarfref44_Valid.j0, swarfref44_Valid.j1, in_eq, Option.bind_some]
  cases b with
  | true => simp
  | false =>
    have hz := hrz rfl
    simp only [Bool.false_eq_true, if_false]
    by_cases h1 : far r = true
    · rw [if_neg (by simp [h1]), if_pos (show bad2 c r z q i from .inl h1)]; simp
    · rw [if_pos (by simpa using h1)]
      by_cases h2 : far z = true
      · rw [if_neg (by simp [h2]), if_pos (show bad2 c r z q i from .inr (.inl h2))]; simp
      · rw [if_pos (by simpa using h2)]
        by_cases h3 : far i = true
        · rw [if_neg (by simp [h3]), if_pos (show bad2 c r z q i from .inr (.inr (.inl h3)))]; simp
        · rw [if_pos (by simpa using h3)]
          have b1 := far_bounds (by simpa using h1 : far r = false)
          have b2 := far_bounds (by simpa using h2 : far z = false)
          cases hp : pk with
          | false =>
            have hc : ¬ c = 83000 := by intro e; rw [hpk, e] at hp; simp at hp
            simp only [Bool.false_eq_true, if_false]
            rw [if_neg (show ¬ bad2 c r z q i from fun hb => hb.elim h1 (fun hb => hb.elim h2 (fun hb => hb.elim h3 (fun hb => hc hb.1)))), if_neg (fun hh => hc hh.1)]
          | true =>
            have hc : c = 83000 := by rw [hp] at hpk; simpa using hpk.symm
            have hq1 := hq hp rfl
            simp only [if_true]
            by_cases h4 : far q = true
            · rw [if_pos (by simp [h4]), if_pos (show bad2 c r z q i from .inr (.inr (.inr ⟨hc, h4⟩)))]
            · rw [if_neg (by simp [h4]), if_neg (show ¬ bad2 c r z q i from fun hb => hb.elim h1 (fun hb => hb.elim h2 (fun hb => hb.elim h3 (fun hb => h4 hb.2))))]
              have b4 := far_bounds (by simpa using h4 : far q = false)
              obtain ⟨m, hm0, hm1, hm2⟩ := rounds_of r z q hq1 hz
              have hd1 : (r - z - 1) / q ≤ r - z - 1 := Int.ediv_le_self _ (by omega)
              obtain ⟨k, rfl⟩ : ∃ j, k = j + 1 := ⟨k - 1, by omega⟩
              rw [wrap_small (r - q) (by omega) (by omega), ref_l0 m k 0 (r - q) c r z q f i h (by omega) (by omega) (by omega) hq1 (by omega) (by omega) (by omega) (by omega) (by omega) hm1 hm2]
              rw [hm0, Int.zero_add]
              by_cases h5 : (r - z - 1) / q > 999
              · rw [if_pos h5, if_pos ⟨hc, h5⟩]
              · rw [if_neg h5, if_neg (fun hh => h5 hh.2)]
theorem ref_valid_eq (k : Nat) (hk : 20000005 ≤ k) (c r z q f i : Int) (h : Bool) : swarfref44_Valid.f (k + 2) c r z q f i h = some (vE c r z q f i) := by
  have J := fun b hq hz => ref_j0 k (by omega) (c == 83000) b c r z q f i h rfl hq hz
  have J1 : swarfref44_Valid.j0 (k + 2) (c == 83000) true c r z q f i h = some 1 := by rw [J true (by simp) (by simp)]; rfl
  unfold swarfref44_Valid.f vE
  have rest : ¬ c = 83000 → (if z ≥ r then swarfref44_Valid.j0 (k + 2) (c == 83000) true c r z q f i h else if r > i then swarfref44_Valid.j0 (k + 2) (c == 83000) true c r z q f i h else if f < 1 then swarfref44_Valid.j0 (k + 2) (c == 83000) true c r z q f i h else if f > 1000000000000 then swarfref44_Valid.j0 (k + 2) (c == 83000) true c r z q f i h else if c = 83000 then swarfref44_Valid.j0 (k + 2) (c == 83000) (decide (q < 1)) c r z q f i h else swarfref44_Valid.j0 (k + 2) (c == 83000) false c r z q f i h) =
      some (if z ≥ r ∨ r > i ∨ f < 1 ∨ f > 1000000000000 then 1 else if bad2 c r z q i then 11 else if c = 83000 ∧ (r - z - 1) / q > 999 then 3 else 0) := by
    intro h1
    by_cases h2 : z ≥ r
    · rw [if_pos h2, J1, if_pos (.inl h2)]
    · rw [if_neg h2]
      by_cases h3 : r > i
      · rw [if_pos h3, J1, if_pos (.inr (.inl h3))]
      · rw [if_neg h3]
        by_cases h4 : f < 1
        · rw [if_pos h4, J1, if_pos (.inr (.inr (.inl h4)))]
        · rw [if_neg h4]
          by_cases h5 : f > 1000000000000
          · rw [if_pos h5, J1, if_pos (.inr (.inr (.inr h5)))]
          · rw [if_neg h5, if_neg h1, J false (by simp [h1]) (fun _ => by omega), if_neg (show ¬ (z ≥ r ∨ r > i ∨ f < 1 ∨ f > 1000000000000) by omega), if_neg (show ¬ false = true by decide)]
  by_cases h7 : c = 81000
  · rw [if_pos h7, rest (by omega)]
    by_cases h8 : z ≥ r ∨ r > i ∨ f < 1 ∨ f > 1000000000000
    · rw [if_pos h8, if_pos (show bad1 c r z q f i by unfold bad1; omega)]
    · rw [if_neg h8, if_neg (show ¬ bad1 c r z q f i by unfold bad1; omega)]
  · rw [if_neg h7]
    by_cases h9 : c = 82000
    · rw [if_pos h9, rest (by omega)]
      by_cases h8 : z ≥ r ∨ r > i ∨ f < 1 ∨ f > 1000000000000
      · rw [if_pos h8, if_pos (show bad1 c r z q f i by unfold bad1; omega)]
      · rw [if_neg h8, if_neg (show ¬ bad1 c r z q f i by unfold bad1; omega)]
    · rw [if_neg h9]
      by_cases h1 : c = 83000
      · rw [if_pos h1]
        by_cases h2 : z ≥ r
        · rw [if_pos h2, J1, if_pos (show bad1 c r z q f i from .inr (.inl h2))]
        · rw [if_neg h2]
          by_cases h3 : r > i
          · rw [if_pos h3, J1, if_pos (show bad1 c r z q f i from .inr (.inr (.inl h3)))]
          · rw [if_neg h3]
            by_cases h4 : f < 1
            · rw [if_pos h4, J1, if_pos (show bad1 c r z q f i from .inr (.inr (.inr (.inl h4))))]
            · rw [if_neg h4]
              by_cases h5 : f > 1000000000000
              · rw [if_pos h5, J1, if_pos (show bad1 c r z q f i from .inr (.inr (.inr (.inr (.inl h5)))))]
              · rw [if_neg h5, J (decide (q < 1)) (by simp) (fun _ => by omega)]
                by_cases h6 : q < 1
                · rw [if_pos (show bad1 c r z q f i from .inr (.inr (.inr (.inr (.inr ⟨h1, by omega⟩)))))]; simp [h6]
                · rw [if_neg (show ¬ bad1 c r z q f i by unfold bad1; omega)]; simp [h6]
      · rw [if_neg h1, J1, if_pos (show bad1 c r z q f i from .inl ⟨h7, h9, h1⟩)]

/-! ### The depths -/
/-- The heights of m further rounds, from h on. -/
def downs (q : Int) : Nat → Int → List Int
  | 0, _ => []
  | m + 1, h => h :: downs q m (h - q)
theorem downs_len (q : Int) (m : Nat) : ∀ h, (downs q m h).length = m := by
  induction m with
  | zero => intro h; rfl
  | succ m ih => intro h; simp [downs, ih]
theorem dep_l0 (m : Nat) : ∀ (k : Nat) (xs : List Int) (h c r z q f i : Int) (b : Bool), m ≤ k → xs.length + m < 1000000 → 1 ≤ q → q ≤ 10000000 → -10000000 ≤ z → z ≤ 10000000 → -20000000 ≤ h → h ≤ 20000000 → h ≤ z + m * q → (m = 0 ∨ z + (m - 1) * q < h) →
    cycle_Depths.l0 (k + 1) xs h c r z q f i b = some (xs ++ downs q m h ++ [z], 0) ∧ swarfref44_Depths.l0 (k + 1) xs h c r z q f i b = some (xs ++ downs q m h ++ [z], 0) := by
  induction m with
  | zero =>
    intro k xs h c r z q f i b hk hx hq hq2 hz0 hz1 hh0 hh1 hm _
    simp only [cycle_Depths.l0, swarfref44_Depths.l0]
    have hn : ¬ h > z := by simp at hm; omega
    have hp : xs.length < 17592186044416 := by omega
    rw [if_neg hn, if_neg hn, if_pos hp]
    simp [downs]
  | succ m ih =>
    intro k xs h c r z q f i b hk hx hq hq2 hz0 hz1 hh0 hh1 hm hm2
    obtain ⟨k, rfl⟩ : ∃ j, k = j + 1 := ⟨k - 1, by omega⟩
    have e1 : ((m + 1 : Nat) : Int) * q = (m : Int) * q + q := by rw [Int.natCast_add, Int.add_mul]; simp
    have e2 : (((m + 1 : Nat) : Int) - 1) * q = (m : Int) * q := by congr 1; omega
    have e3 : ((m : Int) - 1) * q = (m : Int) * q - q := by rw [Int.sub_mul]; simp
    have e4 : 0 ≤ (m : Int) * q := Int.mul_nonneg (by omega) (by omega)
    rw [e1] at hm
    rw [e2] at hm2
    have hgt : h > z := by omega
    have := ih k (xs ++ [h]) (h - q) c r z q f i b (by omega) (by simp; omega) hq hq2 hz0 hz1 (by omega) (by omega) (by omega) (by rw [e3]; rcases Nat.eq_zero_or_pos m with h0 | h0; exact .inl h0; right; omega)
    rw [cycle_Depths.l0, if_pos hgt, if_pos (by omega), wrap_small (h - q) (by omega) (by omega), this.1, swarfref44_Depths.l0, if_pos hgt, if_pos (by omega), wrap_small (h - q) (by omega) (by omega), this.2]
    simp [downs]
/-- How many rounds. -/
def rnd (c r z q : Int) : Nat := if c = 83000 then ((r - z - 1) / q).toNat else 0
def depthsOf (c r z q : Int) : List Int := downs q (rnd c r z q) (r - q) ++ [z]
theorem rnd_le {c r z q f i : Int} (h : vE c r z q f i = 0) : rnd c r z q ≤ 999 := by
  unfold vE at h
  unfold rnd
  split at h
  · omega
  · split at h
    · omega
    · split at h
      · omega
      · rename_i h3
        split
        · rename_i hc
          have : ¬ (r - z - 1) / q > 999 := fun hh => h3 ⟨hc, hh⟩
          omega
        · omega
/-- What a valid cycle meets. -/
theorem vE_zero {c r z q f i : Int} (h : vE c r z q f i = 0) : ((c = 81000 ∨ c = 82000 ∨ c = 83000) ∧ z < r ∧ r ≤ i ∧ 1 ≤ f ∧ f ≤ 1000000000000 ∧ (c = 83000 → 1 ≤ q)) ∧ (-10000000 ≤ r ∧ r ≤ 10000000) ∧ (-10000000 ≤ z ∧ z ≤ 10000000) ∧ (-10000000 ≤ i ∧ i ≤ 10000000) ∧ (c = 83000 → -10000000 ≤ q ∧ q ≤ 10000000) := by
  unfold vE at h
  split at h
  · omega
  · rename_i h1
    split at h
    · omega
    · rename_i h2
      unfold bad1 at h1
      have f1 : far r = false := by cases e : far r; rfl; exact absurd (Or.inl e) h2
      have f2 : far z = false := by cases e : far z; rfl; exact absurd (Or.inr (Or.inl e)) h2
      have f3 : far i = false := by cases e : far i; rfl; exact absurd (Or.inr (Or.inr (Or.inl e))) h2
      refine ⟨⟨by omega, by omega, by omega, by omega, by omega, fun hc => by omega⟩, far_bounds f1, far_bounds f2, far_bounds f3, fun hc => far_bounds ?_⟩
      cases e : far q; rfl; exact absurd (Or.inr (Or.inr (Or.inr ⟨hc, e⟩))) h2
theorem depths_len {c r z q f i : Int} (h : vE c r z q f i = 0) : (depthsOf c r z q).length ≤ 1000 := by
  unfold depthsOf
  rw [List.length_append, downs_len]
  have := rnd_le h
  simp; omega
def dE (c r z q f i : Int) : List Int × Int := if vE c r z q f i = 0 then (depthsOf c r z q, 0) else ([], vE c r z q f i)
theorem depths_eq (k : Nat) (hk : 20000010 ≤ k) (c r z q f i : Int) (h : Bool) : cycle_Depths.f k c r z q f i h = some (dE c r z q f i) ∧ swarfref44_Depths.f k c r z q f i h = some (dE c r z q f i) := by
  obtain ⟨k, rfl⟩ : ∃ j, k = j + 2 := ⟨k - 2, by omega⟩
  unfold cycle_Depths.f swarfref44_Depths.f dE
  rw [valid_eq, ref_valid_eq k (by omega)]
  simp only [Option.bind_some]
  by_cases he : vE c r z q f i = 0
  · rw [if_pos he, if_pos he]
    obtain ⟨⟨h1, h2, h3, h4, h5, h6⟩, h7, h8, h9, h10⟩ := vE_zero he
    by_cases hc : c = 83000
    · rw [if_pos hc, if_pos hc]
      have hq := h6 hc
      have hq2 := h10 hc
      obtain ⟨m, hm0, hm1, hm2⟩ := rounds_of r z q hq h2
      have hr : rnd c r z q = m := by unfold rnd; rw [if_pos hc]; omega
      have hle := rnd_le he
      rw [hr] at hle
      obtain ⟨e1, e2⟩ := dep_l0 m (k + 1) [] (r - q) c r z q f i h (by omega) (by simp; omega) hq (by omega) (by omega) (by omega) (by omega) (by omega) hm1 hm2
      rw [wrap_small (r - q) (by omega) (by omega), show k + 2 = k + 1 + 1 from rfl, e1, e2]
      unfold depthsOf
      rw [hr]
      simp [he]
    · rw [if_neg hc, if_neg hc]
      unfold depthsOf rnd
      rw [if_neg hc]
      simp [downs, he]
  · rw [if_neg he, if_neg he]
    simp [he]
theorem dE_len (c r z q f i : Int) : (dE c r z q f i).1.length ≤ 1000 := by
  unfold dE
  split
  · rename_i h; exact depths_len h
  · simp
end Go.Proofs.Ytmaochcdjmnffaa.B
