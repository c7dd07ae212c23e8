/- The statement CycleEnds, over plain numbers and lists. -/
import Derived.Test.YtmaochcdjmnffaaT6A1
import Derived.Test.YtmaochcdjmnffaaT6B1
import Derived.Test.YtmaochcdjmnffaaT6D22
namespace Go.Proofs.Ytmaochcdjmnffaa.B
open Go.RowKit Go.Proofs.Ytmaochcdjmnffaa.P Go.Proofs.YtmaochcdjmnffaaW.PrintWords Go.Proofs.YtmaochcdjmnffaaW.PrintLast Go.Proofs.YtmaochcdjmnffaaW.PrintMore
set_option linter.unusedVariables false
namespace Ends
theorem downs_mem (q z : Int) (hq : 1 ≤ q) (m : Nat) : ∀ h, (m = 0 ∨ z + (m - 1) * q < h) → ∀ d ∈ downs q m h, z < d ∧ d ≤ h := by
  induction m with
  | zero => intro h _ d hd; simp [downs] at hd
  | succ m ih =>
    intro h hm d hd
    have e2 : (((m + 1 : Nat) : Int) - 1) * q = (m : Int) * q := by congr 1; omega
    have e3 : ((m : Int) - 1) * q = (m : Int) * q - q := by rw [Int.sub_mul]; simp
    have e4 : 0 ≤ (m : Int) * q := Int.mul_nonneg (by omega) (by omega)
    rw [e2] at hm
    simp only [downs, List.mem_cons] at hd
    rcases hd with rfl | hd
    · omega
    · have := ih (h - q) (by rw [e3]; rcases Nat.eq_zero_or_pos m with h0 | h0; exact .inl h0; right; omega) d hd
      omega
theorem depths_mem {c r z q f i : Int} (h : vE c r z q f i = 0) : ∀ d ∈ depthsOf c r z q, z ≤ d ∧ d < r := by
  obtain ⟨⟨h1, h2, h3, h4, h5, h6⟩, h7, h8, h9, h10⟩ := vE_zero h
  intro d hd
  unfold depthsOf rnd at hd
  rw [List.mem_append] at hd
  rcases hd with hd | hd
  · split at hd
    · rename_i hc
      obtain ⟨m, hm0, hm1, hm2⟩ := rounds_of r z q (h6 hc) h2
      have hm : ((r - z - 1) / q).toNat = m := by omega
      rw [hm] at hd
      have := downs_mem q z (h6 hc) m (r - q) hm2 d hd
      have := h6 hc
      omega
    · simp [downs] at hd
  · simp at hd; omega
/-- A move that the statement lets through. -/
def Mv (f m : Int) (p : S36) (x : S45) : Prop := ¬ x.f1 = p ∧ m ≤ x.f1.f2 ∧ ((x.f0 = 2 ∧ x.f1.f0 = p.f0 ∧ x.f1.f1 = p.f1 ∧ x.f1.f2 < p.f2 ∧ x.f3 = f) ∨ (x.f0 = 1 ∧ x.f3 = 0))
def Chain (f m : Int) : S36 → List S45 → Prop
  | _, [] => True
  | p, x :: xs => Mv f m p x ∧ Chain f m x.f1 xs
def endp : S36 → List S45 → S36
  | p, [] => p
  | _, x :: xs => endp x.f1 xs
theorem chain_snoc (f m : Int) (xs : List S45) : ∀ (p : S36) (x : S45), Chain f m p xs → Mv f m (endp p xs) x → Chain f m p (xs ++ [x]) ∧ endp p (xs ++ [x]) = x.f1 := by
  induction xs with
  | nil => intro p x _ h; exact ⟨⟨h, trivial⟩, rfl⟩
  | cons y xs ih => intro p x h hx; have := ih y.f1 x h.2 hx; exact ⟨⟨h.1, this.1⟩, this.2⟩
def Inv (f m : Int) (p0 : S36) (s : St) : Prop := Chain f m p0 s.2 ∧ endp p0 s.2 = s.1 ∧ m ≤ s.1.f2
theorem same_of {p q : S36} (h : ¬ same36 p q = true) : ¬ p = q := by
  rintro rfl
  exact h (by unfold same36; simp)
theorem inv_rapid {f m : Int} {p0 : S36} {s : St} (h : Inv f m p0 s) (q : S36) (hq : m ≤ q.f2) : Inv f m p0 (stTo s 1 q 0) := by
  unfold stTo
  split
  · exact h
  · rename_i hn
    have := chain_snoc f m s.2 p0 ⟨1, q, ⟨0, 0⟩, 0⟩ h.1 ⟨by rw [h.2.1]; exact same_of hn, hq, .inr ⟨rfl, rfl⟩⟩
    exact ⟨this.1, this.2, hq⟩
theorem inv_feed {f m : Int} {p0 : S36} {s : St} (h : Inv f m p0 s) (q : S36) (hq : m ≤ q.f2) (h0 : q.f0 = s.1.f0) (h1 : q.f1 = s.1.f1) (h2 : q.f2 < s.1.f2) : Inv f m p0 (stTo s 2 q f) := by
  unfold stTo
  split
  · exact h
  · rename_i hn
    have := chain_snoc f m s.2 p0 ⟨2, q, ⟨0, 0⟩, f⟩ h.1 ⟨by rw [h.2.1]; exact same_of hn, hq, .inl ⟨rfl, by rw [h.2.1]; exact h0, by rw [h.2.1]; exact h1, by rw [h.2.1]; exact h2, rfl⟩⟩
    exact ⟨this.1, this.2, hq⟩
theorem same_eq {p q : S36} (h : same36 p q = true) : p = q := by
  unfold same36 at h
  simp only [Bool.and_eq_true, beq_iff_eq] at h
  cases p; cases q; simp_all
theorem stTo_pos (s : St) (kd : Int) (q : S36) (rt : Int) : (stTo s kd q rt).1 = q := by
  unfold stTo
  split
  · rename_i h; exact (same_eq h).symm
  · rfl
theorem inv_fold {f m : Int} {p0 : S36} (r : Int) (g : S43) (hr : m ≤ r) (d : List Int) : ∀ s : St, (∀ z ∈ d, m ≤ z ∧ z < r) → Inv f m p0 s → s.1 = ⟨g.f0, g.f1, r⟩ → Inv f m p0 (d.foldl (stDrill r f g) s) ∧ (d.foldl (stDrill r f g) s).1 = ⟨g.f0, g.f1, r⟩ := by
  induction d with
  | nil => intro s _ h hp; exact ⟨h, hp⟩
  | cons z d ih =>
    intro s hd h hp
    have hz := hd z List.mem_cons_self
    refine ih _ (fun y hy => hd y (List.mem_cons_of_mem _ hy)) ?_ (stTo_pos _ _ _ _)
    exact inv_rapid (inv_feed h ⟨g.f0, g.f1, z⟩ hz.1 (by rw [hp]) (by rw [hp]) (by rw [hp]; exact hz.2)) _ hr
theorem inv_one {f m : Int} {p0 : S36} (r i : Int) (hh : Bool) (g : S43) (hr : m ≤ r) (hi : r ≤ i) (d : List Int) (hd : ∀ z ∈ d, m ≤ z ∧ z < r) (s : St) (h : Inv f m p0 s) :
    Inv f m p0 (stOne r f i hh d s g) ∧ (stOne r f i hh d s g).1 = ⟨g.f0, g.f1, if hh = true then i else r⟩ := by
  have h1 : Inv f m p0 (stLow r s) := by
    unfold stLow
    split
    · exact inv_rapid h _ hr
    · exact h
  have h2 : Inv f m p0 (stTop r s g) := inv_rapid (inv_rapid h1 ⟨g.f0, g.f1, (stLow r s).1.f2⟩ h1.2.2) ⟨g.f0, g.f1, r⟩ hr
  have h3 := inv_fold r g hr d _ hd h2 (stTo_pos _ _ _ _)
  unfold stOne stHigh
  cases hh with
  | true => exact ⟨inv_rapid h3.1 _ (by show m ≤ i; omega), stTo_pos _ _ _ _⟩
  | false => exact ⟨h3.1, h3.2⟩
theorem inv_run {f m : Int} {p0 : S36} (r i : Int) (hh : Bool) (hr : m ≤ r) (hi : r ≤ i) (d : List Int) (hd : ∀ z ∈ d, m ≤ z ∧ z < r) (gs : List S43) : ∀ (s : St) (g : S43), Inv f m p0 s →
    Inv f m p0 ((gs ++ [g]).foldl (stOne r f i hh d) s) ∧ ((gs ++ [g]).foldl (stOne r f i hh d) s).1 = ⟨g.f0, g.f1, if hh = true then i else r⟩ := by
  induction gs with
  | nil => intro s g h; exact inv_one r i hh g hr hi d hd s h
  | cons g' gs ih => intro s g h; exact ih _ g (inv_one r i hh g' hr hi d hd s h).1
theorem all_ok (r f i : Int) (h : Bool) (d : List Int) (gs : List S43) : ∀ s : St, s.2.length ≤ 20000 → (stAll r f i h d gs s).2 = 0 → stAll r f i h d gs s = ((gs.foldl (stOne r f i h d) s).2, 0) ∧ (gs.foldl (stOne r f i h d) s).2.length ≤ 20000 := by
  induction gs with
  | nil => intro s hs _; exact ⟨rfl, hs⟩
  | cons g gs ih =>
    intro s hs h0
    unfold stAll at h0 ⊢
    split at h0
    · simp at h0
    · rename_i hl
      rw [if_neg hl]
      exact ih _ (by omega) h0
theorem all_bad (r f i : Int) (h : Bool) (d : List Int) (gs : List S43) : ∀ s : St, ¬ (stAll r f i h d gs s).2 = 0 → (stAll r f i h d gs s).1 = [] := by
  induction gs with
  | nil => intro s h0; exact absurd rfl h0
  | cons g gs ih =>
    intro s h0
    unfold stAll at h0 ⊢
    split
    · rfl
    · rename_i hl
      rw [if_neg hl] at h0
      exact ih _ h0
theorem expand_eq (k : Nat) (hk : 20000010 ≤ k) (c r z q f i : Int) (h : Bool) (x y v : Int) (gs : List S43) :
    cycle_Expand.f k c r z q f i h x y v gs = some (if vE c r z q f i = 0 then (if farP ⟨x, y, v⟩ || gs.any farG then ([], 11) else stAll r f i h (depthsOf c r z q) gs (⟨x, y, v⟩, [])) else ([], vE c r z q f i)) := by
  unfold cycle_Expand.f
  rw [(depths_eq k hk c r z q f i h).1]
  have := dE_len c r z q f i
  simp only [Option.bind_some]
  rw [if_pos (by omega)]
  unfold dE
  by_cases he : vE c r z q f i = 0
  · rw [if_pos he, if_pos he, if_pos rfl]; split <;> rfl
  · rw [if_neg he, if_neg he, if_neg he]
theorem getD_drop45 (ds : List S45) (j : Nat) (h : j < ds.length) : ds.drop j = rd_T45 ds (j : Int) :: ds.drop (j + 1) := by
  rw [List.drop_eq_getElem_cons h]
  simp [rd_T45, List.getElem?_eq_getElem h]
theorem s36_eq {x p : S36} (h0 : x.f0 = p.f0) (h1 : x.f1 = p.f1) (h2 : x.f2 = p.f2) : x = p := by cases x; cases p; simp_all
theorem ends_l0 (gs : List S43) (hg0 : 1 ≤ gs.length) (hg1 : gs.length ≤ 20) (ms : List S45) (hl : ms.length ≤ 20000) (c r z q f i x y v : Int) (h : Bool) (d : Nat) :
    ∀ (k j : Nat) (p : S36), d < k → j + d = ms.length → Chain f (mn z v) p (ms.drop j) → endp p (ms.drop j) = ⟨(rd_T43 gs ((gs.length : Int) - 1)).f0, (rd_T43 gs ((gs.length : Int) - 1)).f1, if h = true then i else r⟩ →
    swarflaw44_CycleEnds.l0 k gs ms (ms.length : Int) (j : Int) c r z q f i h x y v p.f0 p.f1 p.f2 = some true := by
  have w1 : wrap64 ((gs.length : Int) - 1) = (gs.length : Int) - 1 := wrap_small _ (by omega) (by omega)
  induction d with
  | zero =>
    intro k j p hk hj hc he
    obtain ⟨k, rfl⟩ : ∃ m, k = m + 1 := ⟨k - 1, by omega⟩
    rw [List.drop_eq_nil_of_le (by omega)] at he
    rw [swarflaw44_CycleEnds.l0, if_neg (by omega), w1]
    have he' : p = _ := he
    cases h with
    | true => rw [if_pos rfl, if_pos (by omega), if_pos (by omega), he']; simp
    | false => rw [if_neg (by decide), if_pos (by omega), if_pos (by omega), he']; simp
  | succ d ih =>
    intro k j p hk hj hc he
    obtain ⟨k, rfl⟩ : ∃ m, k = m + 1 := ⟨k - 1, by omega⟩
    rw [getD_drop45 ms j (by omega)] at hc he
    generalize hx : rd_T45 ms (j : Int) = X at hc he
    obtain ⟨⟨hne, hlow, hor⟩, hc⟩ := hc
    have hrec := ih k (j + 1) X.f1 (by omega) (by omega) hc he
    have hw : wrap64 ((j : Int) + 1) = ((j + 1 : Nat) : Int) := by rw [wrap_small _ (by omega) (by omega)]; omega
    rw [swarflaw44_CycleEnds.l0, if_pos (by omega), if_pos (by omega), if_pos (by omega), hx, hw]
    rw [if_neg (by
      intro hs
      simp only [Bool.and_eq_true, beq_iff_eq] at hs
      exact hne (s36_eq hs.1 hs.2.1 hs.2.2)), if_neg (by omega)]
    rcases hor with ⟨k2, e0, e1, e2, e3⟩ | ⟨k1, e3⟩
    · rw [if_pos k2, if_pos e0, if_pos e1, if_neg (by omega), if_pos e3]; exact hrec
    · rw [if_neg (by omega), if_pos k1, if_pos e3]; exact hrec
end Ends
open Ends in
theorem CycleEnds (c r z q f i : Int) (h : Bool) (x y v : Int) (gs : List S43) : ∃ k, swarflaw44_CycleEnds.f k c r z q f i h x y v gs = some true := by
  refine ⟨20000100, ?_⟩
  unfold swarflaw44_CycleEnds.f
  rw [awake_true _ (by omega)]
  simp only [Option.bind_some, if_true]
  by_cases h0 : (gs.length : Int) = 0
  · rw [if_pos h0, show (20000100 : Nat) = 20000099 + 1 from rfl, swarflaw44_CycleEnds.j0, if_pos rfl]
  · rw [if_neg h0, show (20000100 : Nat) = 20000099 + 1 from rfl, swarflaw44_CycleEnds.j0]
    by_cases hl : (gs.length : Int) > 20
    · rw [if_pos (by simpa using hl)]
    · rw [if_neg (by simpa using hl)]
      have hcl : api_Grid2.f gs = some gs := by unfold api_Grid2.f; rw [if_pos (by omega)]
      rw [hcl]
      simp only [Option.bind_some]
      rw [expand_eq _ (by omega)]
      simp only [Option.bind_some]
      by_cases he : vE c r z q f i = 0
      · obtain ⟨⟨h1, h2, h3, h4, h5, h6⟩, h7, h8, h9, h10⟩ := vE_zero he
        rw [if_pos he]
        by_cases hf : (farP ⟨x, y, v⟩ || gs.any farG) = true
        · rw [if_pos hf, if_neg (by simp)]; rfl
        · rw [if_neg hf]
          by_cases hz : (stAll r f i h (depthsOf c r z q) gs (⟨x, y, v⟩, [])).2 = 0
          · rw [if_pos hz]
            obtain ⟨ea, hlen⟩ := Ends.all_ok r f i h (depthsOf c r z q) gs (⟨x, y, v⟩, []) (by simp) hz
            rw [ea]
            have hmn : mn z v ≤ z ∧ mn z v ≤ v := by unfold mn; split <;> omega
            have hgs : gs = gs.dropLast ++ [rd_T43 gs ((gs.length : Int) - 1)] := by
              have hne : gs ≠ [] := by rintro rfl; exact h0 rfl
              conv => lhs; rw [← List.dropLast_concat_getLast hne]
              congr 2
              rw [List.getLast_eq_getElem]
              unfold rd_T43
              have : ((gs.length : Int) - 1).toNat = gs.length - 1 := by omega
              rw [this]
              simp [List.getD, show gs.length - 1 < gs.length by omega]
            have hrun := inv_run (p0 := ⟨x, y, v⟩) (f := f) (m := mn z v) r i h (by omega) h3 (depthsOf c r z q) (fun d hd => by have := Ends.depths_mem he d hd; omega) gs.dropLast (⟨x, y, v⟩, []) (rd_T43 gs ((gs.length : Int) - 1)) ⟨trivial, rfl, hmn.2⟩
            rw [← hgs] at hrun
            obtain ⟨⟨hch, hend, _⟩, hpos⟩ := hrun
            have := ends_l0 gs (by omega) (by omega) _ hlen c r z q f i x y v h (gs.foldl (stOne r f i h (depthsOf c r z q)) (⟨x, y, v⟩, [])).2.length 20000099 0 ⟨x, y, v⟩ (by omega) (by omega) hch (hend.trans hpos)
            exact this
          · rw [if_neg hz, Ends.all_bad _ _ _ _ _ _ _ hz]; rfl
      · rw [if_neg he]
        dsimp only
        rw [if_neg he]; rfl
end Go.Proofs.Ytmaochcdjmnffaa.B
