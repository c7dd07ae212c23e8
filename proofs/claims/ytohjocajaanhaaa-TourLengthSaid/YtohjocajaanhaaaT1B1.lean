/- What the printed functions of tours come to: the error of positions, orders, lengths. Plain numbers and lists. -/
import Derived.Test.YtohjocajaanhaaaT1Px5
import Derived.Test.YtohjocajaanhaaaT1Px19
import Derived.Test.YtohjocajaanhaaaT1Px25
import Derived.Test.YtohjocajaanhaaaT1Px26
namespace Go.Proofs.Ytohjocajaanhaaa.B
open Go.RowKit Go.Proofs.Ytohjocajaanhaaa.P Go.Proofs.YtohjocajaanhaaaW.PrintWords Go.Proofs.YtohjocajaanhaaaW.PrintLast Go.Proofs.YtohjocajaanhaaaW.PrintMore
set_option linter.unusedVariables false
set_option linter.unusedSimpArgs false

theorem wrap_mid (x : Int) (h0 : -4000000000000000 ≤ x) (h1 : x ≤ 4000000000000000) : wrap64 x = x := by unfold wrap64; omega
theorem ev_end {α : Type} {g : Nat → Option α} {r : α} (h : ∀ k, g (k + 1) = some r) : Ev g r := Ev.step (f := fun _ => some r) h (Ev.now r)
def okp (p : S31) : Bool := decide (-10000000 ≤ p.f0) && decide (p.f0 ≤ 10000000) && (decide (-10000000 ≤ p.f1) && decide (p.f1 ≤ 10000000))
theorem okp_iff (p : S31) : okp p = true ↔ (-10000000 ≤ p.f0 ∧ p.f0 ≤ 10000000) ∧ (-10000000 ≤ p.f1 ∧ p.f1 ≤ 10000000) := by simp [okp]
def gapZ (a b : Int) : Int := if a < b then b - a else a - b
/-- The distance of two positions. -/
def dst (p q : S31) : Int := mx (gapZ p.f0 q.f0) (gapZ p.f1 q.f1)
theorem dst_nonneg (p q : S31) : 0 ≤ dst p q := by unfold dst mx gapZ; repeat' split <;> omega
theorem dst_le {p q : S31} (hp : okp p = true) (hq : okp q = true) : dst p q ≤ 20000000 := by
  rw [okp_iff] at hp hq
  unfold dst mx gapZ; repeat' split <;> omega
theorem dist_eq {p q : S31} (hp : okp p = true) (hq : okp q = true) : tour_Distance.f p.f0 p.f1 q.f0 q.f1 = some (dst p q) := by
  rw [okp_iff] at hp hq
  unfold tour_Distance.f
  rw [wrap_mid _ (by omega) (by omega), wrap_mid _ (by omega) (by omega), wrap_mid _ (by omega) (by omega), wrap_mid _ (by omega) (by omega)]
  congr 1
  unfold dst mx gapZ; repeat' split <;> omega
theorem ref_dist_eq {p q : S31} (hp : okp p = true) (hq : okp q = true) : swarfref38_Distance.f p.f0 p.f1 q.f0 q.f1 = some (dst p q) := by
  rw [okp_iff] at hp hq
  unfold swarfref38_Distance.f swarfref38_gap.f
  rw [wrap_mid _ (by omega) (by omega), wrap_mid _ (by omega) (by omega), wrap_mid _ (by omega) (by omega), wrap_mid _ (by omega) (by omega)]
  unfold dst gapZ
  by_cases h1 : p.f0 < q.f0 <;> by_cases h2 : p.f1 < q.f1 <;> simp [h1, h2]
theorem drop_T31 (l : List S31) (j : Nat) (h : j < l.length) : l.drop j = rd_T31 l (j : Int) :: l.drop (j + 1) := by
  rw [List.drop_eq_getElem_cons h]
  congr 1
  unfold rd_T31
  simp [List.getD, h]
theorem drop_rd (l : List Int) (j : Nat) (h : j < l.length) : l.drop j = rd l (j : Int) :: l.drop (j + 1) := by
  rw [List.drop_eq_getElem_cons h]
  congr 1
  unfold rd
  simp [List.getD, h]
theorem ok_at {l : List S31} (h : l.all okp = true) (i : Int) (h0 : 0 ≤ i) (h1 : i < (l.length : Int)) : okp (rd_T31 l i) = true := by
  rw [List.all_eq_true] at h
  have : i.toNat < l.length := by omega
  have e : rd_T31 l i = l[i.toNat] := by unfold rd_T31; simp [List.getD, this]
  rw [e]
  exact h _ (List.getElem_mem this)

/-! ### The error of positions -/
theorem check_l0 (l : List S31) (hn : l.length ≤ 1000) (d : Nat) : ∀ j : Nat, j + d = l.length → Ev (fun k => tour_check.l0 k l (l.length : Int) (j : Int)) (if (l.drop j).all okp = true then 0 else 11) := by
  induction d with
  | zero =>
    intro j hj
    rw [List.drop_eq_nil_of_le (by omega)]
    exact ev_end (fun k => by simp only [tour_check.l0]; rw [if_neg (by omega)]; rfl)
  | succ d ih =>
    intro j hj
    have hw : wrap64 ((j : Int) + 1) = ((j + 1 : Nat) : Int) := by rw [wrap_mid _ (by omega) (by omega)]; omega
    rw [drop_T31 l j (by omega)]
    generalize hp : rd_T31 l (j : Int) = p
    by_cases ho : okp p = true
    · have hi := ih (j + 1) (by omega)
      rw [List.all_cons, ho, Bool.true_and]
      refine Ev.step (fun k => ?_) hi
      rw [okp_iff] at ho
      simp only [tour_check.l0]
      rw [if_pos (by omega), if_pos (by omega), if_pos (by omega), hp, if_neg (by unfold mx; split <;> omega), if_neg (by unfold mn; split <;> omega), hw]
    · rw [List.all_cons, show okp p = false by simpa using ho, Bool.false_and]
      refine ev_end (fun k => ?_)
      rw [okp_iff] at ho
      simp only [tour_check.l0]
      rw [if_pos (by omega), if_pos (by omega), if_pos (by omega), hp]
      by_cases h1 : mx p.f0 p.f1 > 10000000
      · rw [if_pos h1]; rfl
      · rw [if_neg h1, if_pos (by unfold mx at h1; unfold mn; split at h1 <;> split <;> omega)]; rfl
theorem rvalid_l0 (l : List S31) (hn : l.length ≤ 1000) (d : Nat) : ∀ j : Nat, j + d = l.length → Ev (fun k => swarfref38_Valid.l0 k l (j : Int)) (if (l.drop j).all okp = true then 0 else 11) := by
  induction d with
  | zero =>
    intro j hj
    rw [List.drop_eq_nil_of_le (by omega)]
    exact ev_end (fun k => by simp only [swarfref38_Valid.l0]; rw [if_neg (by omega)]; rfl)
  | succ d ih =>
    intro j hj
    have hw : wrap64 ((j : Int) + 1) = ((j + 1 : Nat) : Int) := by rw [wrap_mid _ (by omega) (by omega)]; omega
    rw [drop_T31 l j (by omega)]
    generalize hp : rd_T31 l (j : Int) = p
    by_cases ho : okp p = true
    · have hi := ih (j + 1) (by omega)
      rw [List.all_cons, ho, Bool.true_and]
      refine Ev.step (fun k => ?_) hi
      rw [okp_iff] at ho
      simp only [swarfref38_Valid.l0]
      rw [if_pos (by omega), if_pos (by omega), hp, if_neg (by omega), if_neg (by omega), if_neg (by omega), if_neg (by omega), hw]
    · rw [List.all_cons, show okp p = false by simpa using ho, Bool.false_and]
      refine ev_end (fun k => ?_)
      rw [okp_iff] at ho
      simp only [swarfref38_Valid.l0]
      rw [if_pos (by omega), if_pos (by omega), hp]
      by_cases h1 : p.f0 > 10000000
      · rw [if_pos h1]; rfl
      · rw [if_neg h1]
        by_cases h2 : p.f0 < -10000000
        · rw [if_pos h2]; rfl
        · rw [if_neg h2]
          by_cases h3 : p.f1 > 10000000
          · rw [if_pos h3]; rfl
          · rw [if_neg h3, if_pos (by omega)]; rfl
/-- The error of positions. -/
def chkE (l : List S31) (m : Int) : Int := if (l.length : Int) > m then 3 else if l.all okp = true then 0 else 11
theorem chkE_zero {l : List S31} {m : Int} (h : chkE l m = 0) : (l.length : Int) ≤ m ∧ l.all okp = true := by
  unfold chkE at h
  split at h
  · cases h
  · split at h
    · rename_i h1 h2; exact ⟨by omega, h2⟩
    · cases h
theorem check_ev (l : List S31) (m : Int) (hn : l.length ≤ 1000) : Ev (fun k => tour_check.f k l m) (chkE l m) := by
  unfold tour_check.f chkE
  by_cases h : (l.length : Int) > m
  · simp only [if_pos h]; exact Ev.now _
  · simp only [if_neg h]
    exact check_l0 l hn l.length 0 (by omega)
theorem rvalid_ev (l : List S31) (m : Int) (hn : l.length ≤ 1000) : Ev (fun k => swarfref38_Valid.f k l m) (chkE l m) := by
  unfold swarfref38_Valid.f chkE
  by_cases h : (l.length : Int) > m
  · simp only [if_pos h]; exact Ev.now _
  · simp only [if_neg h]
    exact rvalid_l0 l hn l.length 0 (by omega)
theorem right_ev (l : List S31) (m : Int) (hn : l.length ≤ 1000) : Ev (fun k => swarflaw38_right.f k l m) (chkE l m == 0) := by
  unfold swarflaw38_right.f
  exact Ev.bind (rvalid_ev l m hn) (Ev.now _)

/-! ### Orders -/
theorem rdOf_set (s : List Bool) (x y : Int) (h0 : 0 ≤ x) (h1 : x < (s.length : Int)) (hy : 0 ≤ y) : rdOf false (s.set x.toNat true) y = if x = y then true else rdOf false s y := by
  unfold rdOf
  rw [List.getD_eq_getElem?_getD, List.getD_eq_getElem?_getD, List.getElem?_set]
  by_cases h : x = y
  · subst h; rw [if_pos rfl, if_pos (by omega), if_pos rfl]; rfl
  · rw [if_neg (by omega), if_neg h]
def ordS (n : Nat) (seen : List Bool) : List Int → Bool
  | [] => true
  | x :: xs => if x < 0 then false else if x ≥ (n : Int) then false else if rdOf false seen x = true then false else ordS n (seen.set x.toNat true) xs
theorem ordS_spec (n : Nat) (xs : List Int) : ∀ seen : List Bool, seen.length = n → ordS n seen xs = true → (∀ x ∈ xs, 0 ≤ x ∧ x < (n : Int) ∧ rdOf false seen x = false) ∧ xs.Nodup := by
  induction xs with
  | nil => intro seen _ _; exact ⟨fun x h => (by cases h), List.nodup_nil⟩
  | cons x xs ih =>
    intro seen hs h
    unfold ordS at h
    split at h
    · cases h
    · split at h
      · cases h
      · split at h
        · cases h
        · rename_i h0 h1 h2
          obtain ⟨g1, g2⟩ := ih (seen.set x.toNat true) (by simp [hs]) h
          refine ⟨fun y hy => ?_, List.nodup_cons.2 ⟨fun hx => ?_, g2⟩⟩
          · rcases List.mem_cons.1 hy with rfl | hy
            · exact ⟨by omega, by omega, by simpa using h2⟩
            · obtain ⟨a, b, c⟩ := g1 y hy
              rw [rdOf_set seen x y (by omega) (by omega) a] at c
              split at c
              · cases c
              · exact ⟨a, b, c⟩
          · obtain ⟨a, b, c⟩ := g1 x hx
            rw [rdOf_set seen x x (by omega) (by omega) a, if_pos rfl] at c
            cases c
theorem isOrder_l0 (n : Nat) (o : List Int) (hl : o.length ≤ 1000) (d : Nat) : ∀ (j : Nat) (seen : List Bool), seen.length = n → j + d = o.length → Ev (fun k => tour_isOrder.l0 k (n : Int) seen o (o.length : Int) (j : Int)) (ordS n seen (o.drop j)) := by
  induction d with
  | zero =>
    intro j seen hs hj
    rw [List.drop_eq_nil_of_le (by omega)]
    exact ev_end (fun k => by simp only [tour_isOrder.l0]; rw [if_neg (by omega)]; rfl)
  | succ d ih =>
    intro j seen hs hj
    have hw : wrap64 ((j : Int) + 1) = ((j + 1 : Nat) : Int) := by rw [wrap_mid _ (by omega) (by omega)]; omega
    rw [drop_rd o j (by omega)]
    generalize hx : rd o (j : Int) = x
    unfold ordS
    by_cases h0 : x < 0
    · rw [if_pos h0]
      exact ev_end (fun k => by simp only [tour_isOrder.l0]; rw [if_pos (by omega), if_pos (by omega), if_pos (by omega), hx, if_pos h0])
    · rw [if_neg h0]
      by_cases h1 : x ≥ (n : Int)
      · rw [if_pos h1]
        exact ev_end (fun k => by simp only [tour_isOrder.l0]; rw [if_pos (by omega), if_pos (by omega), if_pos (by omega), hx, if_neg h0, if_pos h1])
      · rw [if_neg h1]
        by_cases h2 : rdOf false seen x = true
        · rw [if_pos h2]
          exact ev_end (fun k => by simp only [tour_isOrder.l0]; rw [if_pos (by omega), if_pos (by omega), if_pos (by omega), hx, if_neg h0, if_neg h1, if_pos (by omega), if_pos (by omega), if_pos h2])
        · rw [if_neg h2]
          refine Ev.step (fun k => ?_) (ih (j + 1) (seen.set x.toNat true) (by simp [hs]) (by omega))
          simp only [tour_isOrder.l0]
          rw [if_pos (by omega), if_pos (by omega), if_pos (by omega), hx, if_neg h0, if_neg h1, if_pos (by omega), if_pos (by omega), if_neg h2, hw]
theorem rorder_l0 (n : Nat) (o : List Int) (hl : o.length = n) (hn : n ≤ 1000) (d : Nat) : ∀ (j : Nat) (seen : List Bool), seen.length = n → j + d = n → Ev (fun k => swarfref38_Order.l0 k (n : Int) o seen (j : Int)) (ordS n seen (o.drop j)) := by
  induction d with
  | zero =>
    intro j seen hs hj
    rw [List.drop_eq_nil_of_le (by omega)]
    exact ev_end (fun k => by simp only [swarfref38_Order.l0]; rw [if_neg (by omega)]; rfl)
  | succ d ih =>
    intro j seen hs hj
    have hw : wrap64 ((j : Int) + 1) = ((j + 1 : Nat) : Int) := by rw [wrap_mid _ (by omega) (by omega)]; omega
    rw [drop_rd o j (by omega)]
    generalize hx : rd o (j : Int) = x
    unfold ordS
    by_cases h0 : x < 0
    · rw [if_pos h0]
      exact ev_end (fun k => by simp only [swarfref38_Order.l0]; rw [if_pos (by omega), if_pos (by omega), if_pos (by omega), hx, if_pos h0])
    · rw [if_neg h0]
      by_cases h1 : x ≥ (n : Int)
      · rw [if_pos h1]
        exact ev_end (fun k => by simp only [swarfref38_Order.l0]; rw [if_pos (by omega), if_pos (by omega), if_pos (by omega), hx, if_neg h0, if_pos h1])
      · rw [if_neg h1]
        by_cases h2 : rdOf false seen x = true
        · rw [if_pos h2]
          exact ev_end (fun k => by simp only [swarfref38_Order.l0]; rw [if_pos (by omega), if_pos (by omega), if_pos (by omega), hx, if_neg h0, if_neg h1, if_pos (by omega), if_pos (by omega), if_pos h2])
        · rw [if_neg h2]
          refine Ev.step (fun k => ?_) (ih (j + 1) (seen.set x.toNat true) (by simp [hs]) (by omega))
          simp only [swarfref38_Order.l0]
          rw [if_pos (by omega), if_pos (by omega), if_pos (by omega), hx, if_neg h0, if_neg h1, if_pos (by omega), if_pos (by omega), if_neg h2, hw]
/-- Whether a list is an order of n positions. -/
def isOrd (n : Nat) (o : List Int) : Bool := if o.length = n then (if n = 0 ∨ rd o 0 = 0 then ordS n (List.replicate n false) o else false) else false
theorem isOrder_ev (n : Nat) (hn : n ≤ 1000) (o : List Int) : Ev (fun k => tour_isOrder.f k o (n : Int)) (isOrd n o) := by
  unfold tour_isOrder.f isOrd
  by_cases h : o.length = n
  · simp only [if_pos h, if_pos (show (o.length : Int) = (n : Int) by omega)]
    have hgo : Ev (fun k => tour_isOrder.j0 k o (n : Int) false) (ordS n (List.replicate n false) o) := by
      refine Ev.step (fun k => ?_) (isOrder_l0 n o (by omega) n 0 (List.replicate n false) (by simp) (by omega))
      simp only [tour_isOrder.j0]
      rw [if_neg (by decide), if_pos (by omega), if_pos (by omega), Int.toNat_natCast]
      rfl
    by_cases h0 : n = 0
    · simp only [if_neg (show ¬ (n : Int) > 0 by omega), if_pos (show n = 0 ∨ rd o 0 = 0 from .inl h0)]
      exact hgo
    · simp only [if_pos (show (n : Int) > 0 by omega), if_pos (show 0 < (o.length : Int) by omega)]
      by_cases h1 : rd o 0 = 0
      · have hb : (rd o 0 != 0) = false := by rw [h1]; rfl
        rw [if_pos (show n = 0 ∨ rd o 0 = 0 from .inr h1)]
        simp only [hb]
        exact hgo
      · simp only [if_neg (show ¬ (n = 0 ∨ rd o 0 = 0) by omega), show (rd o 0 != 0) = true by simpa using h1]
        exact ev_end (fun k => by simp only [tour_isOrder.j0]; rfl)
  · simp only [if_neg h, if_neg (show ¬ (o.length : Int) = (n : Int) by omega)]
    exact ev_end (fun k => by simp only [tour_isOrder.j0]; rfl)
theorem rorder_ev (n : Nat) (hn : n ≤ 1000) (o : List Int) : Ev (fun k => swarfref38_Order.f k (n : Int) o) (isOrd n o) := by
  unfold swarfref38_Order.f isOrd
  by_cases h : o.length = n
  · simp only [if_pos h, if_pos (show (o.length : Int) = (n : Int) by omega)]
    have hgo : Ev (fun k => swarfref38_Order.j0 k (n : Int) o false) (ordS n (List.replicate n false) o) := by
      refine Ev.step (fun k => ?_) (rorder_l0 n o h hn n 0 (List.replicate n false) (by simp) (by omega))
      simp only [swarfref38_Order.j0]
      rw [if_neg (by decide), if_pos (by omega), if_pos (by omega), Int.toNat_natCast]
      rfl
    by_cases h0 : n = 0
    · simp only [if_neg (show ¬ (n : Int) > 0 by omega), if_pos (show n = 0 ∨ rd o 0 = 0 from .inl h0)]
      exact hgo
    · simp only [if_pos (show (n : Int) > 0 by omega), if_pos (show 0 < (o.length : Int) by omega)]
      by_cases h1 : rd o 0 = 0
      · have hb : (rd o 0 != 0) = false := by rw [h1]; rfl
        rw [if_pos (show n = 0 ∨ rd o 0 = 0 from .inr h1)]
        simp only [hb]
        exact hgo
      · simp only [if_neg (show ¬ (n = 0 ∨ rd o 0 = 0) by omega), show (rd o 0 != 0) = true by simpa using h1]
        exact ev_end (fun k => by simp only [swarfref38_Order.j0]; rfl)
  · simp only [if_neg h, if_neg (show ¬ (o.length : Int) = (n : Int) by omega)]
    exact ev_end (fun k => by simp only [swarfref38_Order.j0]; rfl)
theorem isOrd_spec {n : Nat} {o : List Int} (h : isOrd n o = true) : o.length = n ∧ (n = 0 ∨ rd o 0 = 0) ∧ (∀ x ∈ o, 0 ≤ x ∧ x < (n : Int)) ∧ o.Nodup := by
  unfold isOrd at h
  split at h
  · rename_i h1
    split at h
    · rename_i h2
      obtain ⟨a, b⟩ := ordS_spec n o _ (by simp) h
      exact ⟨h1, h2, fun x hx => ⟨(a x hx).1, (a x hx).2.1⟩, b⟩
    · cases h
  · cases h

/-! ### Lengths -/
def wy (l : List S31) : List Int → Int
  | [] => 0
  | [_] => 0
  | a :: b :: t => dst (rd_T31 l a) (rd_T31 l b) + wy l (b :: t)
theorem rd_mem {o : List Int} {i : Int} (h0 : 0 ≤ i) (h1 : i < (o.length : Int)) : rd o i ∈ o := by
  have : i.toNat < o.length := by omega
  have e : rd o i = o[i.toNat] := by unfold rd; simp [List.getD, this]
  rw [e]; exact List.getElem_mem this
theorem length_l0 (l : List S31) (hv : l.all okp = true) (o : List Int) (hl : o.length ≤ 1000) (hr : ∀ x ∈ o, 0 ≤ x ∧ x < (l.length : Int)) (d : Nat) : ∀ (j : Nat) (acc : Int), 0 ≤ acc → acc ≤ 20000000 * j → j + 1 + d = o.length →
    Ev (fun k => tour_length.l0 k l o acc ((j + 1 : Nat) : Int)) (acc + wy l (o.drop j)) ∧ Ev (fun k => swarfref38_way.l0 k l o acc ((j + 1 : Nat) : Int)) (acc + wy l (o.drop j)) := by
  induction d with
  | zero =>
    intro j acc ha0 ha1 hj
    rw [drop_rd o j (by omega), List.drop_eq_nil_of_le (by omega)]
    have e : acc + wy l [rd o (j : Int)] = acc := by simp [wy]
    rw [e]
    exact ⟨ev_end (fun k => by simp only [tour_length.l0]; rw [if_neg (by omega)]), ev_end (fun k => by simp only [swarfref38_way.l0]; rw [if_neg (by omega)])⟩
  | succ d ih =>
    intro j acc ha0 ha1 hj
    have m1 := hr _ (rd_mem (o := o) (i := (j : Int)) (by omega) (by omega))
    have m2 := hr _ (rd_mem (o := o) (i := ((j + 1 : Nat) : Int)) (by omega) (by omega))
    have k1 := ok_at hv _ m1.1 m1.2
    have k2 := ok_at hv _ m2.1 m2.2
    have dn := dst_nonneg (rd_T31 l (rd o (j : Int))) (rd_T31 l (rd o ((j + 1 : Nat) : Int)))
    have dl := dst_le k1 k2
    have hw1 : wrap64 (((j + 1 : Nat) : Int) - 1) = (j : Int) := by rw [wrap_mid _ (by omega) (by omega)]; omega
    have hw2 : wrap64 (((j + 1 : Nat) : Int) + 1) = ((j + 1 + 1 : Nat) : Int) := by rw [wrap_mid _ (by omega) (by omega)]; omega
    have hw3 : wrap64 (acc + dst (rd_T31 l (rd o (j : Int))) (rd_T31 l (rd o ((j + 1 : Nat) : Int)))) = acc + dst (rd_T31 l (rd o (j : Int))) (rd_T31 l (rd o ((j + 1 : Nat) : Int))) := wrap_mid _ (by omega) (by omega)
    have hi := ih (j + 1) (acc + dst (rd_T31 l (rd o (j : Int))) (rd_T31 l (rd o ((j + 1 : Nat) : Int)))) (by omega) (by omega) (by omega)
    have e : acc + wy l (o.drop j) = acc + dst (rd_T31 l (rd o (j : Int))) (rd_T31 l (rd o ((j + 1 : Nat) : Int))) + wy l (o.drop (j + 1)) := by
      rw [drop_rd o j (by omega), drop_rd o (j + 1) (by omega)]
      simp only [wy]; omega
    rw [e]
    constructor
    · refine Ev.step (fun k => ?_) hi.1
      simp only [tour_length.l0]
      rw [if_pos (by omega), hw1, if_pos (by omega), if_pos (by omega), if_pos m1.1, if_pos m1.2, if_pos (by omega), if_pos m2.1, if_pos m2.2, dist_eq k1 k2]
      simp only [Option.bind_some]
      rw [hw2, hw3]
    · refine Ev.step (fun k => ?_) hi.2
      simp only [swarfref38_way.l0]
      rw [if_pos (by omega), hw1, if_pos (by omega), if_pos (by omega), if_pos m1.1, if_pos m1.2, if_pos (by omega), if_pos m2.1, if_pos m2.2, ref_dist_eq k1 k2]
      simp only [Option.bind_some]
      rw [hw2, hw3]
theorem length_ev (l : List S31) (hv : l.all okp = true) (o : List Int) (hl : o.length ≤ 1000) (hr : ∀ x ∈ o, 0 ≤ x ∧ x < (l.length : Int)) : Ev (fun k => tour_length.f k l o) (wy l o) ∧ Ev (fun k => swarfref38_way.f k l o) (wy l o) := by
  unfold tour_length.f swarfref38_way.f
  cases o with
  | nil => exact ⟨ev_end (fun k => by simp only [tour_length.l0]; rfl), ev_end (fun k => by simp only [swarfref38_way.l0]; rfl)⟩
  | cons a t =>
    have := length_l0 l hv (a :: t) hl hr t.length 0 0 (by omega) (by omega) (by simp only [List.length_cons]; omega)
    rw [List.drop_zero, Int.zero_add] at this
    exact this
/-- What Length answers. -/
def lenE (l : List S31) (o : List Int) : Int × Int := if chkE l 200 = 0 then (if isOrd l.length o = true then (wy l o, 0) else (0, 1)) else (0, chkE l 200)
theorem Length_ev (l : List S31) (o : List Int) (hn : l.length ≤ 1000) : Ev (fun k => tour_Length.f k l o) (lenE l o) ∧ Ev (fun k => swarfref38_Length.f k l o) (lenE l o) := by
  unfold tour_Length.f swarfref38_Length.f lenE
  by_cases hc : chkE l 200 = 0
  · obtain ⟨c1, c2⟩ := chkE_zero hc
    rw [if_pos hc]
    by_cases ho : isOrd l.length o = true
    · rw [if_pos ho]
      obtain ⟨o1, o2, o3, o4⟩ := isOrd_spec ho
      have hl := length_ev l c2 o (by omega) o3
      refine ⟨Ev.bind (check_ev l 200 hn) ?_, Ev.bind (rvalid_ev l 200 hn) ?_⟩
      · simp only [if_pos hc]
        refine Ev.bind (isOrder_ev l.length hn o) ?_
        simp only [if_pos ho]
        exact Ev.bind hl.1 (Ev.now _)
      · simp only [if_pos hc]
        refine Ev.bind (rorder_ev l.length hn o) ?_
        simp only [if_pos ho]
        exact Ev.bind hl.2 (Ev.now _)
    · rw [if_neg ho]
      refine ⟨Ev.bind (check_ev l 200 hn) ?_, Ev.bind (rvalid_ev l 200 hn) ?_⟩
      · simp only [if_pos hc]
        refine Ev.bind (isOrder_ev l.length hn o) ?_
        simp only [if_neg ho]
        exact Ev.now _
      · simp only [if_pos hc]
        refine Ev.bind (rorder_ev l.length hn o) ?_
        simp only [if_neg ho]
        exact Ev.now _
  · rw [if_neg hc]
    refine ⟨Ev.bind (check_ev l 200 hn) ?_, Ev.bind (rvalid_ev l 200 hn) ?_⟩
    · simp only [if_neg hc]; exact Ev.now _
    · simp only [if_neg hc]; exact Ev.now _
end Go.Proofs.Ytohjocajaanhaaa.B
