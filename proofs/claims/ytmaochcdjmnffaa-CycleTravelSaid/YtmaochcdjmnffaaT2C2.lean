/- The statement CycleTravel, over plain numbers and lists: the sum that Travel tells is the sum over the reference's moves at one position. -/
import Derived.Test.YtmaochcdjmnffaaT2A1
import Derived.Test.YtmaochcdjmnffaaT2B1
import Derived.Test.YtmaochcdjmnffaaT2Px29
namespace Go.Proofs.Ytmaochcdjmnffaa.B
open Go.RowKit Go.Proofs.Ytmaochcdjmnffaa.P Go.Proofs.YtmaochcdjmnffaaW.PrintWords Go.Proofs.YtmaochcdjmnffaaW.PrintLast Go.Proofs.YtmaochcdjmnffaaW.PrintMore
set_option linter.unusedVariables false

theorem wrap_mid (x : Int) (h0 : -4000000000000000 ≤ x) (h1 : x ≤ 4000000000000000) : wrap64 x = x := by unfold wrap64; omega
/-- Twice the sum of the ways from r down to the heights. -/
def sumD (r : Int) : List Int → Int
  | [] => 0
  | d :: ds => 2 * (r - d) + sumD r ds
theorem downs_mem (q z : Int) (hq : 1 ≤ q) (m : Nat) : ∀ h, (m = 0 ∨ z + (m - 1) * q < h) → ∀ d ∈ downs q m h, z < d ∧ d ≤ h := by
  induction m with
  | zero => intro h _ d hd; simp [downs] at hd
  | succ m ih =>
    intro h hm d hd
    have e2 : (((m + 1 : Nat) : Int) - 1) * q = (m : Int) * q := by congr 1; omega
    have e3 : ((m : Int) - 1) * q = (m : Int) * q - q := by rw [Int.sub_mul]; simp
    have e4 : 0 ≤ (m : Int) * q := Int.mul_nonneg (by omega) (by omega)
    rw [e2] at hm
    simp only [downs, List.mem_cons] at hd
    rcases hd with rfl | hd
    · omega
    · have := ih (h - q) (by rw [e3]; rcases Nat.eq_zero_or_pos m with h0 | h0; exact .inl h0; right; omega) d hd
      omega
theorem depths_mem {c r z q f i : Int} (h : vE c r z q f i = 0) : ∀ d ∈ depthsOf c r z q, z ≤ d ∧ d < r := by
  obtain ⟨⟨h1, h2, h3, h4, h5, h6⟩, h7, h8, h9, h10⟩ := vE_zero h
  intro d hd
  unfold depthsOf rnd at hd
  rw [List.mem_append] at hd
  rcases hd with hd | hd
  · split at hd
    · rename_i hc
      obtain ⟨m, hm0, hm1, hm2⟩ := rounds_of r z q (h6 hc) h2
      have hm : ((r - z - 1) / q).toNat = m := by omega
      rw [hm] at hd
      have := downs_mem q z (h6 hc) m (r - q) hm2 d hd
      have := h6 hc
      omega
    · simp [downs] at hd
  · simp at hd; omega
theorem getD_drop (ds : List Int) (j : Nat) (h : j < ds.length) : ds.drop j = rd ds (j : Int) :: ds.drop (j + 1) := by
  rw [List.drop_eq_getElem_cons h]
  simp [rd, List.getElem?_eq_getElem h]
theorem trav_l0 (r : Int) (hr0 : -10000000 ≤ r) (hr1 : r ≤ 10000000) (ds : List Int) (hd : ∀ d ∈ ds, -10000000 ≤ d ∧ d < r) (hl : ds.length ≤ 1000) (m : Nat) : ∀ (k j : Nat) (acc c z q f i : Int) (h : Bool), m < k → j + m = ds.length → 0 ≤ acc → acc ≤ 100000000 + 40000000 * j → 
    cycle_Travel.l0 k acc ds (ds.length : Int) (j : Int) c r z q f i h = some (acc + sumD r (ds.drop j), 0) := by
  induction m with
  | zero =>
    intro k j acc c z q f i h hk hj ha0 ha1
    obtain ⟨k, rfl⟩ : ∃ j, k = j + 1 := ⟨k - 1, by omega⟩
    rw [cycle_Travel.l0, if_neg (by omega), List.drop_eq_nil_of_le (by omega)]
    simp [sumD]
  | succ m ih =>
    intro k j acc c z q f i h hk hj ha0 ha1
    obtain ⟨k, rfl⟩ : ∃ j, k = j + 1 := ⟨k - 1, by omega⟩
    have hlt : j < ds.length := by omega
    have hm : rd ds (j : Int) ∈ ds := by
      have : rd ds (j : Int) ∈ ds.drop j := by rw [getD_drop ds j hlt]; simp
      exact List.mem_of_mem_drop this
    obtain ⟨b0, b1⟩ := hd _ hm
    rw [cycle_Travel.l0, if_pos (by omega), if_pos (by omega), if_pos (by omega), wrap_mid (r - _) (by omega) (by omega), wrap_mid (2 * _) (by omega) (by omega), wrap_mid (acc + _) (by omega) (by omega), wrap_mid (j + 1) (by omega) (by omega)]
    rw [show (j : Int) + 1 = ((j + 1 : Nat) : Int) by omega, ih k (j + 1) _ c z q f i h (by omega) (by omega) (by omega) (by omega), getD_drop ds j hlt]
    simp only [sumD]
    congr 2
    omega
theorem ref_trav_l0 (r i : Int) (hr0 : -10000000 ≤ r) (hr1 : r ≤ 10000000) (hi0 : r ≤ i) (hi1 : i ≤ 10000000) (ds : List Int) (hd : ∀ d ∈ ds, -10000000 ≤ d ∧ d < r) (hl : ds.length ≤ 1000) (m : Nat) : ∀ (k j : Nat) (acc c z q f : Int) (h : Bool), m < k → j + m = ds.length → 0 ≤ acc → acc ≤ 100000000 + 40000000 * j → 
    swarfref44_Travel.l0 k ds acc (j : Int) c r z q f i h = some (acc + sumD r (ds.drop j) + (if h = true then i - r else 0), 0) := by
  induction m with
  | zero =>
    intro k j acc c z q f h hk hj ha0 ha1
    obtain ⟨k, rfl⟩ : ∃ j, k = j + 1 := ⟨k - 1, by omega⟩
    rw [swarfref44_Travel.l0, if_neg (by omega), List.drop_eq_nil_of_le (by omega)]
    by_cases hh : h = true
    · rw [if_pos hh, if_pos hh, wrap_mid (acc + i) (by omega) (by omega), wrap_mid _ (by omega) (by omega)]
      simp only [sumD]
      congr 2
      omega
    · rw [if_neg hh, if_neg hh]; simp [sumD]
  | succ m ih =>
    intro k j acc c z q f h hk hj ha0 ha1
    obtain ⟨k, rfl⟩ : ∃ j, k = j + 1 := ⟨k - 1, by omega⟩
    have hlt : j < ds.length := by omega
    have hm : rd ds (j : Int) ∈ ds := by
      have : rd ds (j : Int) ∈ ds.drop j := by rw [getD_drop ds j hlt]; simp
      exact List.mem_of_mem_drop this
    obtain ⟨b0, b1⟩ := hd _ hm
    rw [swarfref44_Travel.l0, if_pos (by omega), if_pos (by omega), wrap_mid (r - _) (by omega) (by omega), wrap_mid (2 * _) (by omega) (by omega), wrap_mid (acc + _) (by omega) (by omega), wrap_mid (j + 1) (by omega) (by omega)]
    rw [show (j : Int) + 1 = ((j + 1 : Nat) : Int) by omega, ih k (j + 1) _ c z q f h (by omega) (by omega) (by omega) (by omega), getD_drop ds j hlt]
    simp only [sumD]
    congr 2
    omega
def travel (c r z q i : Int) (h : Bool) : Int := (i - r) + sumD r (depthsOf c r z q) + (if h = true then i - r else 0)
theorem travel_eq (k : Nat) (hk : 20000010 ≤ k) (c r z q f i : Int) (h : Bool) :
    cycle_Travel.f k c r z q f i h = some (if vE c r z q f i = 0 then (travel c r z q i h, 0) else (0, vE c r z q f i)) ∧ swarfref44_Travel.f k c r z q f i h = some (if vE c r z q f i = 0 then (travel c r z q i h, 0) else (0, vE c r z q f i)) := by
  obtain ⟨e1, e2⟩ := depths_eq k hk c r z q f i h
  unfold cycle_Travel.f swarfref44_Travel.f
  rw [e1, e2]
  simp only [Option.bind_some, dE]
  by_cases he : vE c r z q f i = 0
  · rw [if_pos he, if_pos he]
    obtain ⟨⟨h1, h2, h3, h4, h5, h6⟩, h7, h8, h9, h10⟩ := vE_zero he
    have hd : ∀ d ∈ depthsOf c r z q, -10000000 ≤ d ∧ d < r := fun d hd => by have := depths_mem he d hd; omega
    have hl := depths_len he
    simp only [if_true]
    obtain ⟨k, rfl⟩ : ∃ j, k = j + 1 := ⟨k - 1, by omega⟩
    refine ⟨?_, ?_⟩
    · have T := fun acc a0 a1 => trav_l0 r h7.1 h7.2 (depthsOf c r z q) hd hl (depthsOf c r z q).length k 0 acc c z q f i h (by omega) (by omega) a0 a1
      simp only [cycle_Travel.j0]
      by_cases hh : h = true
      · rw [if_pos hh, wrap_mid (i - r) (by omega) (by omega), wrap_mid _ (by omega) (by omega)]
        refine (T _ (by omega) (by omega)).trans ?_
        simp only [travel, hh, if_true, List.drop_zero]
        congr 2
        omega
      · rw [if_neg hh, wrap_mid (i - r) (by omega) (by omega)]
        refine (T _ (by omega) (by omega)).trans ?_
        simp only [travel, if_neg hh, List.drop_zero]
        congr 2
        omega
    · rw [wrap_mid (i - r) (by omega) (by omega)]
      refine (ref_trav_l0 r i h7.1 h7.2 h3 (by omega) (depthsOf c r z q) hd hl (depthsOf c r z q).length (k + 1) 0 (i - r) c z q f h (by omega) (by omega) (by omega) (by omega)).trans ?_
      rfl
  · rw [if_neg he, if_neg he]
    simp [he]
/-! ### The reference's moves at one position -/
def mv (kd x y z rt : Int) : S45 := ⟨kd, ⟨x, y, z⟩, ⟨0, 0⟩, rt⟩
theorem to_same (x y z : Int) (l : List S45) (rt : Int) : swarfref44_to.f x y z l x y z rt = some (x, y, z, l) := by
  unfold swarfref44_to.f
  rw [if_pos (by simp)]
theorem to_feed (x y z z' : Int) (l : List S45) (rt : Int) (h : z ≠ z') (hr : 0 < rt) (hl : l.length ≤ 20000000) : swarfref44_to.f x y z l x y z' rt = some (x, y, z', l ++ [mv 2 x y z' rt]) := by
  unfold swarfref44_to.f
  rw [if_neg (by simp [h]), if_pos hr, if_pos (by omega)]
  rfl
theorem to_rapid (x y z z' : Int) (l : List S45) (h : z ≠ z') (hl : l.length ≤ 20000000) : swarfref44_to.f x y z l x y z' 0 = some (x, y, z', l ++ [mv 1 x y z' 0]) := by
  unfold swarfref44_to.f
  rw [if_neg (by simp [h]), if_neg (by omega), if_pos (by omega)]
  rfl
theorem up_eq (x y z z' : Int) : swarfref44_up.f x y z z' = some (x, y, z') := rfl
def pecks (x y r f : Int) : List Int → List S45
  | [] => []
  | d :: ds => mv 2 x y d f :: mv 1 x y r 0 :: pecks x y r f ds
theorem pecks_len (x y r f : Int) : ∀ ds, (pecks x y r f ds).length = 2 * ds.length
  | [] => rfl
  | d :: ds => by simp only [pecks, List.length_cons, pecks_len x y r f ds]; omega
/-- The rise at the end. -/
def rise (x y r i : Int) (h : Bool) : List S45 := if h = true ∧ r ≠ i then [mv 1 x y i 0] else []
def endZ (r i : Int) (h : Bool) : Int := if h = true then i else r
theorem one_l0 (x y r f i : Int) (hf : 0 < f) (ds : List Int) (hd : ∀ d ∈ ds, d < r) (hl : ds.length ≤ 1000) (m : Nat) : ∀ (k j : Nat) (l : List S45) (c z q : Int) (h : Bool), m < k → j + m = ds.length → l.length ≤ 1000000 + 2 * j →
    swarfref44_one.l0 k ds (j : Int) c r z q f i h x y r l = some (x, y, endZ r i h, l ++ pecks x y r f (ds.drop j) ++ rise x y r i h) := by
  induction m with
  | zero =>
    intro k j l c z q h hk hj hll
    obtain ⟨k, rfl⟩ : ∃ j, k = j + 1 := ⟨k - 1, by omega⟩
    rw [swarfref44_one.l0, if_neg (by omega), List.drop_eq_nil_of_le (by omega)]
    by_cases hh : h = true
    · rw [if_pos hh, up_eq]
      simp only [Option.bind_some]
      by_cases hr : r = i
      · subst hr
        rw [to_same]
        simp [pecks, rise, endZ]
      · rw [to_rapid x y r i l hr (by omega)]
        simp [pecks, rise, endZ, hh, hr]
    · rw [if_neg hh]; simp [pecks, rise, endZ, hh]
  | succ m ih =>
    intro k j l c z q h hk hj hll
    obtain ⟨k, rfl⟩ : ∃ j, k = j + 1 := ⟨k - 1, by omega⟩
    have hlt : j < ds.length := by omega
    have hm : rd ds (j : Int) ∈ ds := by
      have : rd ds (j : Int) ∈ ds.drop j := by rw [getD_drop ds j hlt]; simp
      exact List.mem_of_mem_drop this
    have b1 := hd _ hm
    rw [swarfref44_one.l0, if_pos (by omega), if_pos (by omega), up_eq]
    simp only [Option.bind_some]
    rw [to_feed x y r _ l f (by omega) hf (by omega)]
    simp only [Option.bind_some]
    rw [up_eq]
    simp only [Option.bind_some]
    rw [to_rapid x y _ r _ (by omega) (by simp; omega)]
    simp only [Option.bind_some]
    rw [wrap_mid (j + 1) (by omega) (by omega), show (j : Int) + 1 = ((j + 1 : Nat) : Int) by omega, ih k (j + 1) _ c z q h (by omega) (by omega) (by simp; omega), getD_drop ds j hlt]
    simp [pecks]
/-- The moves at one position, from its own initial height. -/
def ownMoves (x y r f i : Int) (h : Bool) (ds : List Int) : List S45 := (if i = r then [] else [mv 1 x y r 0]) ++ pecks x y r f ds ++ rise x y r i h
theorem one_eq (k : Nat) (hk : 20000010 ≤ k) (c r z q f i : Int) (h : Bool) (x y : Int) (he : vE c r z q f i = 0) :
    swarfref44_one.f k c r z q f i h x y i [] x y = some (x, y, endZ r i h, ownMoves x y r f i h (depthsOf c r z q)) := by
  obtain ⟨e1, e2⟩ := depths_eq k hk c r z q f i h
  obtain ⟨⟨h1, h2, h3, h4, h5, h6⟩, h7, h8, h9, h10⟩ := vE_zero he
  have hl := depths_len he
  unfold swarfref44_one.f
  rw [e2]
  simp only [Option.bind_some, dE, if_pos he]
  have hmx : mx i r = i := by unfold mx; rw [if_neg (by omega)]
  rw [up_eq, hmx]
  simp only [Option.bind_some]
  rw [to_same]
  simp only [Option.bind_some]
  rw [to_same]
  simp only [Option.bind_some]
  rw [up_eq]
  simp only [Option.bind_some]
  have hd : ∀ d ∈ depthsOf c r z q, d < r := fun d hd => (depths_mem he d hd).2
  have O := fun l hll => one_l0 x y r f i (by omega) (depthsOf c r z q) hd hl (depthsOf c r z q).length k 0 l c z q h (by omega) (by omega) hll
  by_cases hr : i = r
  · rw [hr, to_same]
    simp only [Option.bind_some]
    rw [← hr]
    have := O [] (by simp)
    rw [← hr] at this
    refine this.trans ?_
    simp [ownMoves, hr]
  · rw [to_rapid x y i r [] hr (by simp)]
    simp only [Option.bind_some]
    refine (O _ (by simp)).trans ?_
    simp [ownMoves, hr]
/-- The sum of the differences of heights of a list of moves. -/
def way : Int → List S45 → Int
  | _, [] => 0
  | z, m :: ms => (if z < m.f1.f2 then m.f1.f2 - z else z - m.f1.f2) + way m.f1.f2 ms
theorem way_pecks (x y r f i : Int) (h : Bool) (hi : r ≤ i) : ∀ ds : List Int, (∀ d ∈ ds, d < r) → way r (pecks x y r f ds ++ rise x y r i h) = sumD r ds + (if h = true then i - r else 0)
  | [], _ => by
    unfold rise
    by_cases hh : h = true ∧ r ≠ i
    · rw [if_pos hh, if_pos hh.1]
      simp only [pecks, List.nil_append, way, mv, sumD]
      rw [if_pos (by omega)]
      omega
    · rw [if_neg hh]
      simp only [pecks, List.nil_append, way, sumD]
      by_cases h1 : h = true
      · rw [if_pos h1]
        have : r = i := Classical.not_not.mp (fun hn => hh ⟨h1, hn⟩)
        omega
      · rw [if_neg h1]; omega
  | d :: ds, hd => by
    have := hd d (by simp)
    have ih := way_pecks x y r f i h hi ds (fun x hx => hd x (by simp [hx]))
    simp only [pecks, List.cons_append, way, mv, sumD]
    rw [ih, if_neg (by omega), if_pos (by omega)]
    omega
theorem own_way (x y r f i : Int) (h : Bool) (hi : r ≤ i) (ds : List Int) (hd : ∀ d ∈ ds, d < r) : way i (ownMoves x y r f i h ds) = (i - r) + sumD r ds + (if h = true then i - r else 0) := by
  unfold ownMoves
  by_cases hr : i = r
  · rw [if_pos hr, List.nil_append]
    have := way_pecks x y r f i h hi ds hd
    rw [← hr] at this ⊢
    rw [this]; omega
  · rw [if_neg hr]
    simp only [List.cons_append, List.nil_append, way, mv]
    rw [way_pecks x y r f i h hi ds hd, if_neg (by omega)]
    omega
theorem getD_drop45 (ds : List S45) (j : Nat) (h : j < ds.length) : ds.drop j = rd_T45 ds (j : Int) :: ds.drop (j + 1) := by
  rw [List.drop_eq_getElem_cons h]
  simp [rd_T45, List.getElem?_eq_getElem h]
theorem mx_eq (a b : Int) : mx (a - b) (b - a) = if a < b then b - a else a - b := by unfold mx; split <;> split <;> omega
theorem ct_l0 (ms : List S45) (hb : ∀ m ∈ ms, -10000000 ≤ m.f1.f2 ∧ m.f1.f2 ≤ 10000000) (hl : ms.length ≤ 20000) (n : Int) (m : Nat) : ∀ (k j : Nat) (acc z : Int), m < k → j + m = ms.length → 0 ≤ acc → acc ≤ 40000000 * j → -10000000 ≤ z → z ≤ 10000000 →
    swarflaw44_CycleTravel.l0 k n acc z ms (ms.length : Int) (j : Int) = some (n == acc + way z (ms.drop j)) := by
  induction m with
  | zero =>
    intro k j acc z hk hj ha0 ha1 hz0 hz1
    obtain ⟨k, rfl⟩ : ∃ j, k = j + 1 := ⟨k - 1, by omega⟩
    rw [swarflaw44_CycleTravel.l0, if_neg (by omega), List.drop_eq_nil_of_le (by omega)]
    simp [way]
  | succ m ih =>
    intro k j acc z hk hj ha0 ha1 hz0 hz1
    obtain ⟨k, rfl⟩ : ∃ j, k = j + 1 := ⟨k - 1, by omega⟩
    have hlt : j < ms.length := by omega
    have hm : rd_T45 ms (j : Int) ∈ ms := by
      have : rd_T45 ms (j : Int) ∈ ms.drop j := by rw [getD_drop45 ms j hlt]; simp
      exact List.mem_of_mem_drop this
    obtain ⟨b0, b1⟩ := hb _ hm
    have hx := mx_eq z (rd_T45 ms (j : Int)).f1.f2
    rw [swarflaw44_CycleTravel.l0, if_pos (by omega), if_pos (by omega), if_pos (by omega), wrap_mid (z - _) (by omega) (by omega), wrap_mid (_ - z) (by omega) (by omega), hx]
    have hw : 0 ≤ (if z < (rd_T45 ms (j : Int)).f1.f2 then (rd_T45 ms (j : Int)).f1.f2 - z else z - (rd_T45 ms (j : Int)).f1.f2) ∧ (if z < (rd_T45 ms (j : Int)).f1.f2 then (rd_T45 ms (j : Int)).f1.f2 - z else z - (rd_T45 ms (j : Int)).f1.f2) ≤ 40000000 := by split <;> omega
    rw [wrap_mid (acc + _) (by omega) (by omega), wrap_mid (j + 1) (by omega) (by omega), show (j : Int) + 1 = ((j + 1 : Nat) : Int) by omega, ih k (j + 1) _ _ (by omega) (by omega) (by omega) (by omega) b0 b1]
    rw [getD_drop45 ms j hlt]
    simp only [way]
    rw [Int.add_assoc]
theorem pecks_mem (x y r f : Int) (hr0 : -10000000 ≤ r) (hr1 : r ≤ 10000000) : ∀ ds : List Int, (∀ d ∈ ds, -10000000 ≤ d ∧ d < r) → ∀ m ∈ pecks x y r f ds, -10000000 ≤ m.f1.f2 ∧ m.f1.f2 ≤ 10000000
  | [], _, m, hm => by simp [pecks] at hm
  | d :: ds, hd, m, hm => by
    have := hd d (by simp)
    simp only [pecks, List.mem_cons] at hm
    rcases hm with rfl | rfl | hm
    · simp only [mv]; omega
    · simp only [mv]; omega
    · exact pecks_mem x y r f hr0 hr1 ds (fun x hx => hd x (by simp [hx])) m hm
theorem far_of {x : Int} (h0 : -10000000 ≤ x) (h1 : x ≤ 10000000) : far x = false := by
  unfold far
  simp only [Bool.or_eq_false_iff, decide_eq_false_iff_not]
  omega
theorem CycleTravel (c r z q f i : Int) (h : Bool) (x y : Int) : ∃ k, swarflaw44_CycleTravel.f k c r z q f i h x y = some true := by
  refine ⟨20000100, ?_⟩
  unfold swarflaw44_CycleTravel.f
  obtain ⟨t1, t2⟩ := travel_eq 20000100 (by omega) c r z q f i h
  rw [awake_true _ (by omega), t1, t2]
  simp only [Option.bind_some, if_true]
  by_cases he : vE c r z q f i = 0
  · obtain ⟨⟨h1, h2, h3, h4, h5, h6⟩, h7, h8, h9, h10⟩ := vE_zero he
    have hl := depths_len he
    have hdm : ∀ d ∈ depthsOf c r z q, -10000000 ≤ d ∧ d < r := fun d hd => by have := depths_mem he d hd; omega
    rw [if_pos he]
    simp only [bne_self_eq_false]
    rw [show (20000100 : Nat) = 20000099 + 1 from rfl, swarflaw44_CycleTravel.j0, if_neg (by decide)]
    have E : ∀ k, 20000050 ≤ k → swarfref44_Expand.f k c r z q f i h x y i [(⟨x, y⟩ : S43)] = some (if far x = true ∨ far y = true then ([], 11) else (ownMoves x y r f i h (depthsOf c r z q), 0)) := by
      intro k hk
      obtain ⟨k, rfl⟩ : ∃ j, k = j + 8 := ⟨k - 8, by omega⟩
      unfold swarfref44_Expand.f
      rw [show k + 8 = (k + 6) + 2 from rfl, ref_valid_eq (k + 6) (by omega), he]
      simp only [Option.bind_some, if_true, in_eq, far_of h9.1 h9.2, Bool.not_false]
      have hz : ∀ b, swarfref44_Expand.j0 (k + 8) [(⟨x, y⟩ : S43)] b c r z q f i h x y i = some (if b = true ∧ far x = false ∧ far y = false then (ownMoves x y r f i h (depthsOf c r z q), 0) else ([], 11)) := by
        intro b
        rw [show k + 8 = (k + 7) + 1 from rfl, swarfref44_Expand.j0, swarfref44_Expand.l0, if_pos (by simp)]
        have w1 : wrap64 (0 + 1) = 1 := by unfold wrap64; omega
        have r0 : rd_T43 [(⟨x, y⟩ : S43)] 0 = ⟨x, y⟩ := rfl
        have L : ∀ b, swarfref44_Expand.l0 (k + 6) [(⟨x, y⟩ : S43)] b 1 c r z q f i h x y i = some (if b = true then (ownMoves x y r f i h (depthsOf c r z q), 0) else ([], 11)) := by
          intro b
          rw [show k + 6 = (k + 5) + 1 from rfl, swarfref44_Expand.l0, if_neg (by simp)]
          by_cases hb : b = true
          · rw [if_pos hb, if_pos hb, show k + 5 = (k + 4) + 1 from rfl, swarfref44_Expand.l1, if_pos (by simp), if_pos (by omega), r0]
            rw [one_eq (k + 4) (by omega) c r z q f i h x y he]
            simp only [Option.bind_some, w1]
            have hlen : ¬ ((ownMoves x y r f i h (depthsOf c r z q)).length : Int) > 20000 := by
              unfold ownMoves rise
              rw [List.length_append, List.length_append, pecks_len]
              split <;> split <;> simp <;> omega
            rw [if_neg hlen, show k + 4 = (k + 3) + 1 from rfl, swarfref44_Expand.l1, if_neg (by simp)]
          · rw [if_neg hb, if_neg hb]
        by_cases hb : b = true
        · rw [if_pos hb, if_pos (by omega), r0, in_eq]
          simp only [Option.bind_some, w1]
          by_cases fx : far x = true
          · rw [if_neg (by simp [fx]), L, if_neg (by decide), if_neg (by simp [fx])]
          · have fx' : far x = false := by simpa using fx
            rw [if_pos (by simp [fx']), in_eq]
            simp only [Option.bind_some]
            rw [L]
            by_cases fy : far y = true
            · rw [if_neg (by simp [fy]), if_neg (by simp [fy])]
            · have fy' : far y = false := by simpa using fy
              rw [if_pos (by simp [fy']), if_pos ⟨hb, fx', fy'⟩]
        · rw [if_neg hb, w1, L, if_neg (by decide), if_neg (by simp [hb])]
      by_cases fx : far x = true
      · rw [if_neg (by simp [fx]), hz, if_neg (by simp), if_pos (.inl fx)]
      · have fx' : far x = false := by simpa using fx
        rw [if_pos (by simp [fx'])]
        by_cases fy : far y = true
        · rw [if_neg (by simp [fy]), hz, if_neg (by simp), if_pos (.inr fy)]
        · have fy' : far y = false := by simpa using fy
          rw [if_pos (by simp [fy']), hz, if_pos ⟨rfl, fx', fy'⟩, if_neg (by simp [fx', fy'])]
    rw [E _ (by omega)]
    simp only [Option.bind_some, if_true]
    by_cases hf : far x = true ∨ far y = true
    · rw [if_pos hf]
      rfl
    · rw [if_neg hf]
      simp only [bne_self_eq_false]
      rw [show (20000099 : Nat) = 20000098 + 1 from rfl, swarflaw44_CycleTravel.j1, if_neg (by decide)]
      have hlen : (ownMoves x y r f i h (depthsOf c r z q)).length ≤ 20000 := by
        unfold ownMoves rise
        rw [List.length_append, List.length_append, pecks_len]
        split <;> split <;> simp <;> omega
      have hmem : ∀ m ∈ ownMoves x y r f i h (depthsOf c r z q), -10000000 ≤ m.f1.f2 ∧ m.f1.f2 ≤ 10000000 := by
        intro m hm
        unfold ownMoves rise at hm
        rw [List.mem_append, List.mem_append] at hm
        rcases hm with (hm | hm) | hm
        · split at hm
          · simp at hm
          · simp only [List.mem_singleton] at hm; subst hm; simp only [mv]; omega
        · exact pecks_mem x y r f h7.1 h7.2 _ hdm m hm
        · split at hm
          · simp only [List.mem_singleton] at hm; subst hm; simp only [mv]; omega
          · simp at hm
      refine (ct_l0 _ hmem hlen _ (ownMoves x y r f i h (depthsOf c r z q)).length 20000098 0 0 i (by omega) (by omega) (by omega) (by omega) (by omega) (by omega)).trans ?_
      rw [List.drop_zero, own_way x y r f i h h3 _ (fun d hd => (hdm d hd).2)]
      simp [travel]
  · rw [if_neg he]
    simp only [bne_self_eq_false]
    rw [show (20000100 : Nat) = 20000099 + 1 from rfl, swarflaw44_CycleTravel.j0, if_neg (by decide)]
    have E : swarfref44_Expand.f 20000099 c r z q f i h x y i [(⟨x, y⟩ : S43)] = some ([], vE c r z q f i) := by
      unfold swarfref44_Expand.f
      rw [show (20000099 : Nat) = 20000097 + 2 from rfl, ref_valid_eq 20000097 (by omega)]
      simp only [Option.bind_some]
      rw [if_neg he]
    rw [E]
    simp only [Option.bind_some]
    rw [if_neg he]
    rfl
end Go.Proofs.Ytmaochcdjmnffaa.B
