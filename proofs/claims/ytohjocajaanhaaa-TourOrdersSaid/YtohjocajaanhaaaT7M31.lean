import Derived.Test.YtohjocajaanhaaaT7M30
import Derived.Test.YtohjocajaanhaaaT7M28
/- Improve ends, with an order that is not longer and that no reversal shortens. Plain numbers and lists. -/

namespace Go.Proofs.Ytohjocajaanhaaa.B
open Go.RowKit Go.Proofs.Ytohjocajaanhaaa.P Go.Proofs.YtohjocajaanhaaaW.PrintWords Go.Proofs.YtohjocajaanhaaaW.PrintLast Go.Proofs.YtohjocajaanhaaaW.PrintMore
set_option linter.unusedVariables false
set_option linter.unusedSimpArgs false
/-- An order of all positions. -/
structure Ord (l : List S31) (o : List Int) : Prop where
  len : o.length = l.length
  rg : ∀ x ∈ o, 0 ≤ x ∧ x < (l.length : Int)
  nd : o.Nodup
  h0 : l.length = 0 ∨ rd o 0 = 0
theorem Ord.of {l : List S31} {o : List Int} (h : isOrd l.length o = true) : Ord l o := by
  obtain ⟨a, b, c, d⟩ := isOrd_spec h
  exact ⟨a, c, d, b⟩
theorem Ord.isOrd {l : List S31} {o : List Int} (h : Ord l o) : isOrd l.length o = true := isOrd_of h.len h.h0 h.rg h.nd
theorem Ord.rvo {l : List S31} {o : List Int} (h : Ord l o) {i j : Nat} (h0 : 1 ≤ i) (h1 : i ≤ j) (h2 : j < o.length) : Ord l (rvo o i j) := by
  have hp := rvo_perm o i j h1 h2
  refine ⟨by rw [hp.length_eq]; exact h.len, fun x hx => h.rg x (hp.mem_iff.1 hx), hp.symm.nodup h.nd, ?_⟩
  rw [rvo_hd o i j h0 h1 h2]
  exact h.h0
theorem Ord.compl {l : List S31} {o : List Int} (h : Ord l o) (hl : 1 ≤ l.length) : Compl l [0] o := by
  have h0 := h.h0.resolve_left (by omega)
  have hl0 := h.len
  refine ⟨?_, h.len, h.nd, h.rg⟩
  cases o with
  | nil => simp at hl0; omega
  | cons a t =>
    have : a = 0 := h0
    exact ⟨t, by rw [this]; rfl⟩
/-- No reversal shortens. -/
def Loc (l : List S31) (o : List Int) : Prop := ∀ i j : Nat, 1 ≤ i → i < j → j < o.length → gn l o i j ≤ 0
/-- The state of a sweep over o0. -/
def SwI (l : List S31) (o0 o : List Int) (ag : Bool) : Prop := Ord l o ∧ (ag = false → o = o0) ∧ (ag = true → wy l o < wy l o0)
/-- What the sweep has looked at. -/
def Seen (l : List S31) (o0 : List Int) (i j : Nat) : Prop := ∀ i' j' : Nat, 1 ≤ i' → i' < j' → j' < o0.length → (i' < i ∨ (i' = i ∧ j' < j)) → gn l o0 i' j' ≤ 0
theorem imp_l2 {l : List S31} (hv : l.all okp = true) (hn : l.length ≤ 200) (o0 : List Int) (h00 : o0.length = l.length) (i : Nat) (hi : 1 ≤ i) (hil : i < l.length) (Post : List Int → Prop)
    (hk : ∀ o ag, SwI l o0 o ag → (ag = false → Seen l o0 (i + 1) 0) → EvP (fun k => tour_imp.l1 k l o ag ((i + 1 : Nat) : Int)) Post) (d : Nat) :
    ∀ (j : Nat) (o : List Int) (ag : Bool), i < j → l.length ≤ j + d → SwI l o0 o ag → (ag = false → Seen l o0 i j) → EvP (fun k => tour_imp.l2 k l o ag (i : Int) (j : Int)) Post := by
  have hwi : wrap64 ((i : Int) + 1) = ((i + 1 : Nat) : Int) := by rw [wrap_mid _ (by omega) (by omega)]; omega
  have stop : ∀ (j : Nat) (o : List Int) (ag : Bool), l.length ≤ j → SwI l o0 o ag → (ag = false → Seen l o0 i j) → EvP (fun k => tour_imp.l2 k l o ag (i : Int) (j : Int)) Post := by
    intro j o ag hj hs hseen
    have hlen := hs.1.len
    refine EvP.step (fun k => ?_) (hk o ag hs (fun ha => fun i' j' a b c hor => ?_))
    · simp only [tour_imp.l2]
      rw [if_neg (by omega), hwi]
    · exact hseen ha i' j' a b c (by omega)
  induction d with
  | zero => intro j o ag _ hj hs hseen; exact stop j o ag (by omega) hs hseen
  | succ d ih =>
    intro j o ag hij hj hs hseen
    by_cases hjl : l.length ≤ j
    · exact stop j o ag hjl hs hseen
    · have hlen := hs.1.len
      have hwj : wrap64 ((j : Int) + 1) = ((j + 1 : Nat) : Int) := by rw [wrap_mid _ (by omega) (by omega)]; omega
      have hg := gain_some hv o (by omega) hs.1.rg i j hi (by omega) (by omega)
      by_cases hpos : gn l o i j > 0
      · have hrev : Ev (fun k => tour_rev.l0 ((i : Int)).toNat ((j : Int) + 1 - (i : Int)).toNat k o 0 (wrap64 ((((j : Int) + 1 - (i : Int)).toNat : Int) - 1))) (rvo o i j) := by
          obtain ⟨e, la, ls, lb⟩ := parts o i j (by omega) (by omega)
          have := trev_ev i (j + 1 - i) (by omega) (pS o i j).length (pA o i) (pS o i j) (pB o j) 0 (Nat.le_refl _) (by omega) (by omega) (by omega)
          rw [e] at this
          have e1 : ((i : Int)).toNat = i := by omega
          have e2 : ((j : Int) + 1 - (i : Int)).toNat = j + 1 - i := by omega
          have e3 : wrap64 (((j + 1 - i : Nat) : Int) - 1) = 0 + ((pS o i j).length : Int) - 1 := by rw [wrap_mid _ (by omega) (by omega), ls]; omega
          simp only [e1, e2, e3]
          exact this
        have hw : wy l (rvo o i j) < wy l o := by unfold gn at hpos; omega
        have hwo : wy l o ≤ wy l o0 := by
          cases ag with
          | true => have := hs.2.2 rfl; omega
          | false => rw [hs.2.1 rfl]; exact Int.le_refl _
        refine EvP.step (f := fun k => (tour_rev.l0 ((i : Int)).toNat ((j : Int) + 1 - (i : Int)).toNat k o 0 (wrap64 ((((j : Int) + 1 - (i : Int)).toNat : Int) - 1))).bind fun o2 => tour_imp.l2 k l o2 true (i : Int) ((j + 1 : Nat) : Int)) (fun k => ?_) (EvP.bind hrev ?_)
        · simp only [tour_imp.l2]
          rw [if_pos (by omega), hg]
          simp only [Option.bind_some]
          rw [if_pos hpos, if_pos (by omega), if_pos (by omega), hwj]
        · exact ih (j + 1) (rvo o i j) true (by omega) (by omega) ⟨hs.1.rvo hi (by omega) (by omega), fun h => (by cases h), fun _ => by omega⟩ (fun h => by cases h)
      · refine EvP.step (fun k => ?_) (ih (j + 1) o ag (by omega) (by omega) hs (fun ha => fun i' j' a b c hor => ?_))
        · simp only [tour_imp.l2]
          rw [if_pos (by omega), hg]
          simp only [Option.bind_some]
          rw [if_neg hpos, hwj]
        · by_cases he : i' = i ∧ j' = j
          · rw [he.1, he.2, ← hs.2.1 ha]; omega
          · exact hseen ha i' j' a b c (by omega)
theorem imp_l1 {l : List S31} (hv : l.all okp = true) (hn : l.length ≤ 200) (o0 : List Int) (h00 : o0.length = l.length) (Post : List Int → Prop)
    (hk : ∀ o ag, SwI l o0 o ag → (ag = false → Loc l o0) → EvP (fun k => tour_imp.l0 k l o ag) Post) (d : Nat) :
    ∀ (i : Nat) (o : List Int) (ag : Bool), 1 ≤ i → l.length ≤ i + d → SwI l o0 o ag → (ag = false → Seen l o0 i 0) → EvP (fun k => tour_imp.l1 k l o ag (i : Int)) Post := by
  have stop : ∀ (i : Nat) (o : List Int) (ag : Bool), l.length ≤ i → SwI l o0 o ag → (ag = false → Seen l o0 i 0) → EvP (fun k => tour_imp.l1 k l o ag (i : Int)) Post := by
    intro i o ag hi hs hseen
    have hlen := hs.1.len
    refine EvP.step (fun k => ?_) (hk o ag hs (fun ha => fun i' j' a b c => hseen ha i' j' a b c (by omega)))
    simp only [tour_imp.l1]
    rw [if_neg (by omega)]
  induction d with
  | zero => intro i o ag _ hi hs hseen; exact stop i o ag (by omega) hs hseen
  | succ d ih =>
    intro i o ag hi1 hi hs hseen
    by_cases hil : l.length ≤ i
    · exact stop i o ag hil hs hseen
    · have hlen := hs.1.len
      have hwi : wrap64 ((i : Int) + 1) = ((i + 1 : Nat) : Int) := by rw [wrap_mid _ (by omega) (by omega)]; omega
      refine EvP.step (f := fun k => tour_imp.l2 k l o ag (i : Int) ((i + 1 : Nat) : Int)) (fun k => ?_) ?_
      · simp only [tour_imp.l1]
        rw [if_pos (by omega), if_pos (by omega), hwi]
      · exact imp_l2 hv hn o0 h00 i hi1 (by omega) Post (fun o' ag' hs' hseen' => ih (i + 1) o' ag' (by omega) (by omega) hs' hseen') l.length (i + 1) o ag (by omega) (by omega) hs (fun ha => fun i' j' a b c hor => hseen ha i' j' a b c (by omega))
theorem imp_l0 {l : List S31} (hv : l.all okp = true) (hn : l.length ≤ 200) (m : Nat) : ∀ o : List Int, Ord l o → (wy l o).toNat ≤ m → EvP (fun k => tour_imp.l0 k l o true) (fun r => Ord l r ∧ wy l r ≤ wy l o ∧ Loc l r) := by
  induction m using Nat.strongRecOn with
  | _ m ih =>
  intro o ho hm
  have hw0 := wy_nonneg l o
  refine EvP.step (f := fun k => tour_imp.l1 k l o false ((1 : Nat) : Int)) (fun k => ?_) ?_
  · simp only [tour_imp.l0]
    rfl
  · refine imp_l1 hv hn o ho.len _ (fun o' ag hs hloc => ?_) l.length 1 o false (Nat.le_refl _) (by omega) ⟨ho, fun _ => rfl, fun h => (by cases h)⟩ (fun _ => fun i' j' a b c hor => by omega)
    cases ag with
    | true =>
      have hlt := hs.2.2 rfl
      have hw1 := wy_nonneg l o'
      obtain ⟨r, h1, h2, h3, h4⟩ := ih (wy l o').toNat (by omega) o' hs.1 (Nat.le_refl _)
      exact ⟨r, h1, h2, by omega, h4⟩
    | false =>
      have he := hs.2.1 rfl
      refine EvP.stop o' (fun k => by simp only [tour_imp.l0]; rw [if_neg (by decide)]) ⟨hs.1, by rw [he]; exact Int.le_refl _, by rw [he]; exact hloc rfl⟩
/-- What Improve answers. -/
theorem Improve_ev (l : List S31) (o : List Int) (hn : l.length ≤ 1000) : EvP (fun k => tour_Improve.f k l o) (fun r => (lenE l o).2 = r.2 ∧ (¬ r.2 = 0 → r.1 = []) ∧ (r.2 = 0 → Ord l r.1 ∧ wy l r.1 ≤ wy l o ∧ Loc l r.1)) := by
  unfold tour_Improve.f lenE
  by_cases hc : chkE l 200 = 0
  · obtain ⟨c1, c2⟩ := chkE_zero hc
    rw [if_pos hc]
    refine EvP.bind (check_ev l 200 hn) ?_
    simp only [if_pos hc]
    refine EvP.bind (isOrder_ev l.length hn o) ?_
    by_cases ho : isOrd l.length o = true
    · have hO := Ord.of ho
      have := hO.len
      simp only [if_pos ho, if_pos (show o.length < 1000 by omega)]
      refine EvP.bindP (imp_l0 c2 (by omega) _ o hO (Nat.le_refl _)) (fun r hr => ?_)
      exact ⟨(r, 0), Ev.now _, rfl, fun h => absurd rfl h, fun _ => hr⟩
    · simp only [if_neg ho]
      exact ⟨([], 1), Ev.now _, rfl, fun _ => rfl, fun h => (by cases h)⟩
  · rw [if_neg hc]
    refine EvP.bind (check_ev l 200 hn) ?_
    simp only [if_neg hc]
    exact ⟨([], chkE l 200), Ev.now _, rfl, fun _ => rfl, fun h => absurd h hc⟩
/-! ### The reference's Local -/
end Go.Proofs.Ytohjocajaanhaaa.B

/- The statement TourOrders, over plain numbers and lists. -/

namespace Go.Proofs.Ytohjocajaanhaaa.B
open Go.RowKit Go.Proofs.Ytohjocajaanhaaa.P Go.Proofs.YtohjocajaanhaaaW.PrintWords Go.Proofs.YtohjocajaanhaaaW.PrintLast Go.Proofs.YtohjocajaanhaaaW.PrintMore Go.Proofs.Ytohjocajaanhaaa.Mst
set_option linter.unusedVariables false
set_option linter.unusedSimpArgs false
theorem orders_j0 (l : List S31) (b : Bool) (hb : b = false → chkE l 7 = 0) : Ev (fun k => swarflaw38_TourOrders.j0 k l b) true := by
  cases b with
  | true =>
    refine Ev.step (f := fun k => (swarflaw38_awake.f k).bind fun t => some t) (fun k => by simp only [swarflaw38_TourOrders.j0]; rfl) ?_
    exact Ev.bind awake_ev (Ev.now _)
  | false =>
    have hc := hb rfl
    obtain ⟨c1, c2⟩ := chkE_zero hc
    have hc200 : chkE l 200 = 0 := by unfold chkE; rw [if_neg (by omega), if_pos c2]
    have hc10 : chkE l 10 = 0 := by unfold chkE; rw [if_neg (by omega), if_pos c2]
    have hL : lenE l (near l l.length []) = (wy l (near l l.length []), 0) := by unfold lenE; rw [if_pos hc200, if_pos (near_ord l)]
    obtain ⟨e1, _⟩ := Exact_ev l (by omega)
    have hmin : ∀ o, Ord l o → ∃ a, exactE l = (a, (exactE l).2.1, 0) ∧ (exactE l).2.1 ≤ wy l o := by
      intro o ho
      unfold exactE
      rw [if_pos hc10]
      by_cases h0 : l.length = 0
      · rw [if_pos h0]
        exact ⟨_, rfl, wy_nonneg _ _⟩
      · rw [if_neg h0]
        exact ⟨_, rfl, (exact_spec l (by omega)).2 o (ho.compl (by omega))⟩
    refine Ev.step (fun k => by simp only [swarflaw38_TourOrders.j0]; rw [if_neg (by decide)]) ?_
    refine Ev.bind (rNearest_ev c2 (by omega)) ?_
    obtain ⟨r, er, hr⟩ := Improve_ev l (near l l.length []) (by omega)
    refine Ev.bind er ?_
    obtain ⟨h1, h2, h3⟩ := hr
    rw [hL] at h1
    have he : r.2 = 0 := h1.symm
    obtain ⟨hO, hw, _⟩ := h3 he
    obtain ⟨a, ha, hm⟩ := hmin r.1 hO
    rw [ha] at e1
    have e2 := (Length_ev l r.1 (by omega)).1
    rw [show lenE l r.1 = (wy l r.1, 0) by unfold lenE; rw [if_pos hc200, if_pos hO.isOrd]] at e2
    have e3 := (Length_ev l (near l l.length []) (by omega)).1
    rw [hL] at e3
    refine Ev.bind e1 (Ev.bind e2 (Ev.bind e3 ?_))
    simp only [if_pos he, if_true, if_pos hm, decide_eq_true hw]
    exact Ev.now _
theorem TourOrders (l : List S31) : ∃ k, swarflaw38_TourOrders.f k l = some true := by
  refine Ev.rounds (g := fun k => swarflaw38_TourOrders.f k l) ?_
  unfold swarflaw38_TourOrders.f
  refine Ev.bind awake_ev ?_
  simp only [if_true]
  by_cases hbig : l.length ≤ 1000
  · refine Ev.bind (right_ev l 7 hbig) ?_
    by_cases hc : chkE l 7 = 0
    · exact orders_j0 l _ (fun _ => hc)
    · exact orders_j0 l _ (fun h => by simp at h; exact absurd h hc)
  · have hv : Ev (fun k => swarflaw38_right.f k l 7) false := by
      unfold swarflaw38_right.f swarfref38_Valid.f
      simp only [if_pos (show (l.length : Int) > 7 by omega), Option.bind_some]
      exact Ev.now _
    refine Ev.bind hv ?_
    exact orders_j0 l _ (fun h => by cases h)
end Go.Proofs.Ytohjocajaanhaaa.B
