import Derived.Test.YtohjocajaanhaaaT2M21
import Derived.Test.YtohjocajaanhaaaT2Px30
import Derived.Test.YtohjocajaanhaaaT2M26
import Derived.Test.YtohjocajaanhaaaT2Px8
import Derived.Test.YtohjocajaanhaaaT2M24
-- PRINTED by print.py (a twelfth state) out of the translation. Not trusted: Lean checks it.

namespace Go.Proofs.Ytohjocajaanhaaa.P
open Go.RowKit Go.Proofs.YtohjocajaanhaaaW.PrintWords Go.Proofs.YtohjocajaanhaaaW.PrintLast Go.Proofs.YtohjocajaanhaaaW.PrintMore
attribute [local go_sem] max2_int min2_int max_two min_two max_three min_three max_four min_four   -- for this text's walks alone
set_option linter.unusedVariables false
set_option linter.unusedSimpArgs false

/-! ### swarfref38_Tree: function 21 -/
def swarfref38_Tree.f (k : Nat) (l0 : List (S31)) : Option (Int) := if 0 ≤ (l0.length : Int) then (if ((l0.length : Int) : Int).toNat ≤ 35184372088832 then ((swarfref38_tree.f k l0 (List.replicate ((l0.length : Int) : Int).toNat 0)).bind fun t303 => (some t303)) else (none)) else (none)
theorem swarfref38_Tree.mono : ∀ a0 k, LeO (swarfref38_Tree.f k a0) (swarfref38_Tree.f (k + 1) a0) := by
  intro a0 k
  unfold swarfref38_Tree.f
  repeat' first
      | (with_reducible exact swarfref38_tree.mono _ _ _)
      | (with_reducible exact LeO.refl _)
      | (with_reducible exact LeO.none _)
      | (with_reducible refine LeO.ite ?_ ?_)
      | (with_reducible refine LeO.bind ?_ (fun _ => ?_))
      | exact swarfref38_tree.mono _ _ _
      | exact LeO.none _
      | refine LeO.ite ?_ ?_
      | refine LeO.bind ?_ (fun _ => ?_)
set_option maxHeartbeats 8000000 in
set_option maxRecDepth 100000 in
theorem swarfref38_Tree.calls (k : Nat) (A0 : Option Addr) (c0 : Nat) (l0 : List (S31)) (r : Int) (w : World) (hr0 : Kd.C k31 w A0 l0.length l0) (hc0 : l0.length ≤ c0) (h : swarfref38_Tree.f k l0 = some r) :
    Calls Try.prog 21 #[.slice A0 l0.length c0] w fun e w' => e = .returned (.int .i64 r) ∧ Below w.heap.size w w' := by
  have HR0 := Aside0.mk hr0
  have HC0 := Aside0.mk hc0
  clear hr0 hc0
  have HB := Aside0.mk (Below.refl w.heap.size w)
  have H : (if 0 ≤ (l0.length : Int) then (if ((l0.length : Int) : Int).toNat ≤ 35184372088832 then ((swarfref38_tree.f k l0 (List.replicate ((l0.length : Int) : Int).toNat 0)).bind fun t303 => (some t303)) else (none)) else (none)) = some r := h
  clear h
  by_cases c2 : 0 ≤ (l0.length : Int)
  · rw [if_pos c2] at H
    have c2b0 := eq_true c2
    have c2b1 : decide (0 ≤ (l0.length : Int)) = true := decide_eq_true c2
    clear c2
    by_cases c3 : ((l0.length : Int) : Int).toNat ≤ 35184372088832
    · rw [if_pos c3] at H
      have c3b0 := eq_true c3
      have c3b1 : decide (((l0.length : Int) : Int).toNat ≤ 35184372088832) = true := decide_eq_true c3
      clear c3
      obtain ⟨y300, hy300⟩ : ∃ y_ : List Int, y_ = (List.replicate ((l0.length : Int) : Int).toNat 0) := ⟨_, rfl⟩
      replace H : ((swarfref38_tree.f k l0 y300).bind fun t303 => (some t303)) = some r := by first | (rw [hy300]; with_reducible exact H) | (have H2_ := (Option.bind_some _ _).symm.trans H; rw [hy300]; with_reducible exact H2_) | (have H2_ := (Option.bind_some _ _).symm.trans H; with_reducible exact H2_) | with_reducible exact H | (rw [hy300]; exact H) | exact H
      have Ny300 := Aside0.mk hy300
      clear hy300
      replace H := Option.bind_eq_some_iff.mp H
      obtain ⟨t303, A40, H⟩ := H
      replace H : (some t303) = some r := H
      have A4 := Aside0.mk A40
      clear A40
      obtain rfl := Option.some.inj H
      go_enter Try.func21, Try.ntmps21
      go_wp2_with (first | ((with_reducible refine gate_dst (N := 6) rfl ?_); refine Kd.R_make (Kd.int .i64) _ 2 rfl (N := 6) rfl 39 _ _ rfl (l0.length : Int) rfl rfl Try.underlying39 (.int .i64 0) 8 info2 rfl (by decide) (by omega) 0 (ok := fun _ => True) (okp := fun _ => True) rfl (fun _ hk => hk) trivial (of_decide_eq_true (by first | (with_reducible assumption) | assumption)) (Nat.le_trans (Nat.mul_le_mul_right _ (of_decide_eq_true (by first | (with_reducible assumption) | assumption) : (l0.length : Int).toNat ≤ 35184372088832)) (by omega)) (Below.refl _ _) (Nat.le_refl _) ?_; intro v301 w5 ho6 hb hg_ hnew_; clear hg_ hnew_; (first | rw [← Ny300.out] at ho6 | (simp only [Int.reduceToNat] at ho6; rw [← Ny300.out] at ho6)); have n0_ := Aside0.mk (Kd.R_lower ho6 (below_size (by repeat (first | (with_reducible first | exact HB.out | apply below_alloc | apply pw_below_drewN | apply below_drew1) | exact HB.out)))); have n1_ := Aside0.mk (below_step (by repeat (first | (with_reducible first | exact HB.out | apply below_alloc | apply pw_below_drewN | apply below_drew1) | exact HB.out)) hb); clear HB; have HO302 := n0_; have HB := n1_; clear n0_ n1_; clear hb ho6; obtain ⟨Ao7, co7, eo7⟩ := Kd.R_slice HO302.out; subst eo7) | ((with_reducible refine gate_callee (f := 37) rfl ?_); refine goesL_ (some 7) rfl rfl Try.func37 (by kernel_rfl) rfl #[.slice A0 l0.length c0, .slice Ao7 y300.length co7] rfl (by (try simp only [List.map_toArray, List.map_cons, List.map_nil]); first | done | rfl | (simp only [List.length_drop, List.length_take]; rfl)) ?_; (with_reducible refine (swarfref38_tree.calls k _ _ l0 _ _ y300 t303 _ ?side1 ?side2 ?side3 ?side4 A4.out).mono ?_); (case side1 => repeat (first | exact (Kd.C_below HR0.out HB.out) | (with_reducible refine Kd.C_alloc ?_ _) | (with_reducible refine Kd.C_drewN ?_ _) | (with_reducible refine Kd.C_drew ?_))); (case side2 => exact HC0.out); (case side3 => repeat (first | exact (Kd.R_reads' HO302.out).2.2 | (with_reducible refine Kd.C_alloc ?_ _) | (with_reducible refine Kd.C_drewN ?_ _) | (with_reducible refine Kd.C_drew ?_))); (case side4 => exact (Kd.R_reads' HO302.out).2.1); rintro e w8 ⟨rfl, hb⟩; refine ⟨_, rfl, ?_⟩; have n0_ := Aside0.mk (Kd.R_below (by (with_reducible repeat (first | apply Kd.R_alloc | apply Kd.R_drewN | apply Kd.R_drew)); exact HO302.out) hb); have n1_ := Aside0.mk (below_step (by repeat (first | (with_reducible first | exact HB.out | apply below_alloc | apply pw_below_drewN | apply below_drew1) | exact HB.out)) hb); clear HO302; clear HB; have HO302 := n0_; have HB := n1_; clear n0_ n1_; (try clear hb); (try clear hb2); (try clear hk); (try clear hi)))
      go_ret
      exact ⟨by first | rfl | (simp [errW_none, errW_some] <;> rfl) | (simp [*, errW_none, errW_some] <;> rfl), by repeat (first | (with_reducible first | exact HB.out | apply below_alloc | apply pw_below_drewN | apply below_drew1) | exact HB.out)⟩
    · rw [if_neg c3] at H
      exact absurd H (by simp)
  · rw [if_neg c2] at H
    exact absurd H (by simp)

end Go.Proofs.Ytohjocajaanhaaa.P

/- What the printed functions of spanning trees come to: runs that always add the cheapest edge. Plain numbers and lists. -/

namespace Go.Proofs.Ytohjocajaanhaaa.B
open Go.RowKit Go.Proofs.Ytohjocajaanhaaa.P Go.Proofs.YtohjocajaanhaaaW.PrintWords Go.Proofs.YtohjocajaanhaaaW.PrintLast Go.Proofs.YtohjocajaanhaaaW.PrintMore Go.Proofs.Ytohjocajaanhaaa.Mst
set_option linter.unusedVariables false
set_option linter.unusedSimpArgs false

def EvP {α : Type} (g : Nat → Option α) (Post : α → Prop) : Prop := ∃ r, Ev g r ∧ Post r
theorem EvP.step {α : Type} {g f : Nat → Option α} {Post : α → Prop} (h : ∀ k, g (k + 1) = f k) (k : EvP f Post) : EvP g Post := by
  obtain ⟨r, h1, h2⟩ := k
  exact ⟨r, Ev.step h h1, h2⟩
theorem EvP.stop {α : Type} {g : Nat → Option α} {Post : α → Prop} (r : α) (h : ∀ k, g (k + 1) = some r) (hp : Post r) : EvP g Post := ⟨r, ev_end h, hp⟩
theorem EvP.bind {α β : Type} {g : Nat → Option α} {f : Nat → α → Option β} {a : α} {Post : β → Prop} (h : Ev g a) (k : EvP (fun n => f n a) Post) : EvP (fun n => (g n).bind (f n)) Post := by
  obtain ⟨r, h1, h2⟩ := k
  exact ⟨r, Ev.bind h h1, h2⟩
theorem EvP.bindP {α β : Type} {g : Nat → Option α} {f : Nat → α → Option β} {P1 : α → Prop} {Post : β → Prop} (h : EvP g P1) (k : ∀ a, P1 a → EvP (fun n => f n a) Post) : EvP (fun n => (g n).bind (f n)) Post := by
  obtain ⟨a, h1, h2⟩ := h
  exact EvP.bind h1 (k a h2)

theorem has_l0 (o : List Int) (hl : o.length ≤ 1000) (x : Int) (d : Nat) : ∀ j : Nat, j + d = o.length → Ev (fun k => swarfref38_has.l0 k o x (j : Int)) (decide (x ∈ o.drop j)) := by
  induction d with
  | zero =>
    intro j hj
    rw [List.drop_eq_nil_of_le (by omega)]
    exact ev_end (fun k => by simp only [swarfref38_has.l0]; rw [if_neg (by omega)]; simp)
  | succ d ih =>
    intro j hj
    have hw : wrap64 ((j : Int) + 1) = ((j + 1 : Nat) : Int) := by rw [wrap_mid _ (by omega) (by omega)]; omega
    rw [drop_rd o j (by omega)]
    generalize hy : rd o (j : Int) = y
    by_cases h : y = x
    · rw [show decide (x ∈ y :: o.drop (j + 1)) = true by simp [h]]
      exact ev_end (fun k => by simp only [swarfref38_has.l0]; rw [if_pos (by omega), if_pos (by omega), hy, if_pos h])
    · rw [show decide (x ∈ y :: o.drop (j + 1)) = decide (x ∈ o.drop (j + 1)) by simp [Ne.symm h]]
      refine Ev.step (fun k => ?_) (ih (j + 1) (by omega))
      simp only [swarfref38_has.l0]
      rw [if_pos (by omega), if_pos (by omega), hy, if_neg h, hw]
theorem has_ev (o : List Int) (hl : o.length ≤ 1000) (x : Int) : Ev (fun k => swarfref38_has.f k o x) (decide (x ∈ o)) := by
  unfold swarfref38_has.f
  exact has_l0 o hl x o.length 0 (by omega)

/-! ### Numbers below n -/
/-! ### Costs -/
def cst (l : List S31) (w : List Int) (a b : Nat) : Int := dst (rd_T31 l (a : Int)) (rd_T31 l (b : Int)) + rd w (a : Int) + rd w (b : Int)
structure Good (l : List S31) (w : List Int) : Prop where
  v : l.all okp = true
  n0 : 1 ≤ l.length
  n1 : l.length ≤ 200
  wl : w.length = l.length
  wb : ∀ x ∈ w, -20000000 ≤ x ∧ x ≤ 20000000
theorem Good.at {l : List S31} {w : List Int} (h : Good l w) (i : Int) (h0 : 0 ≤ i) (h1 : i < (l.length : Int)) : -20000000 ≤ rd w i ∧ rd w i ≤ 20000000 := h.wb _ (rd_mem h0 (by rw [h.wl]; exact h1))
theorem Good.cst {l : List S31} {w : List Int} (h : Good l w) {a b : Nat} (ha : a < l.length) (hb : b < l.length) : -60000000 ≤ cst l w a b ∧ cst l w a b ≤ 60000000 := by
  have h1 := h.at (a : Int) (by omega) (by omega)
  have h2 := h.at (b : Int) (by omega) (by omega)
  have h3 := dst_nonneg (rd_T31 l (a : Int)) (rd_T31 l (b : Int))
  have h4 := dst_le (ok_at h.v (a : Int) (by omega) (by omega)) (ok_at h.v (b : Int) (by omega) (by omega))
  unfold B.cst
  omega
theorem Good.wrap {l : List S31} {w : List Int} (h : Good l w) {a b : Nat} (ha : a < l.length) (hb : b < l.length) : wrap64 (wrap64 (dst (rd_T31 l (a : Int)) (rd_T31 l (b : Int)) + rd w (a : Int)) + rd w (b : Int)) = B.cst l w a b := by
  have h1 := h.at (a : Int) (by omega) (by omega)
  have h2 := h.at (b : Int) (by omega) (by omega)
  have h3 := dst_nonneg (rd_T31 l (a : Int)) (rd_T31 l (b : Int))
  have h4 := dst_le (ok_at h.v (a : Int) (by omega) (by omega)) (ok_at h.v (b : Int) (by omega) (by omega))
  rw [wrap_mid (dst _ _ + _) (by omega) (by omega), wrap_mid _ (by omega) (by omega)]
  rfl

/-! ### The reference's tree -/
/-- What is known when some pairs have been looked at. -/
def Cand (l : List S31) (w : List Int) (ins : List Int) (Pr : Nat → Nat → Prop) (v m : Int) : Prop :=
  (v = -1 ∧ ∀ a b, Pr a b → (b : Int) ∈ ins) ∨
  (∃ u b : Nat, v = (b : Int) ∧ (u : Int) ∈ ins ∧ u < l.length ∧ ¬ (b : Int) ∈ ins ∧ b < l.length ∧ m = cst l w u b ∧ ∀ a b', Pr a b' → ¬ (b' : Int) ∈ ins → m ≤ cst l w a b')
theorem Cand.mono {l : List S31} {w : List Int} {ins : List Int} {Pr Pr' : Nat → Nat → Prop} {v m : Int} (h : Cand l w ins Pr v m) (hp : ∀ a b, Pr' a b → Pr a b) : Cand l w ins Pr' v m := by
  rcases h with ⟨h1, h2⟩ | ⟨u, b, h1, h2, h3, h4, h5, h6, h7⟩
  · exact .inl ⟨h1, fun a b h => h2 a b (hp a b h)⟩
  · exact .inr ⟨u, b, h1, h2, h3, h4, h5, h6, fun a b' h => h7 a b' (hp a b' h)⟩
end Go.Proofs.Ytohjocajaanhaaa.B

/- What Exact answers, in the program and in the reference: the first shortest order. Plain numbers and lists. -/

namespace Go.Proofs.Ytohjocajaanhaaa.B
open Go.RowKit Go.Proofs.Ytohjocajaanhaaa.P Go.Proofs.YtohjocajaanhaaaW.PrintWords Go.Proofs.YtohjocajaanhaaaW.PrintLast Go.Proofs.YtohjocajaanhaaaW.PrintMore
set_option linter.unusedVariables false
set_option linter.unusedSimpArgs false

theorem wy_snoc (l : List S31) (i : Int) : ∀ o : List Int, ¬ o = [] → wy l (o ++ [i]) = wy l o + dst (rd_T31 l (rd o ((o.length : Int) - 1))) (rd_T31 l i)
  | [], h => absurd rfl h
  | [a], _ => by simp [wy, rd]
  | a :: b :: t, _ => by
    have ih := wy_snoc l i (b :: t) (by simp)
    have e : rd (a :: b :: t) (((a :: b :: t).length : Int) - 1) = rd (b :: t) (((b :: t).length : Int) - 1) := by
      unfold rd
      have h1 : (((a :: b :: t).length : Int) - 1).toNat = t.length + 1 := by simp only [List.length_cons]; omega
      have h2 : (((b :: t).length : Int) - 1).toNat = t.length := by simp only [List.length_cons]; omega
      rw [h1, h2]; rfl
    rw [e]
    show dst (rd_T31 l a) (rd_T31 l b) + wy l (b :: t ++ [i]) = dst (rd_T31 l a) (rd_T31 l b) + wy l (b :: t) + _
    rw [ih]
    omega
theorem wy_le (l : List S31) (hv : l.all okp = true) : ∀ o : List Int, (∀ x ∈ o, 0 ≤ x ∧ x < (l.length : Int)) → wy l o ≤ 20000000 * (o.length : Int)
  | [], _ => by simp [wy]
  | [a], _ => by simp [wy]
  | a :: b :: t, h => by
    have ih := wy_le l hv (b :: t) (fun x hx => h x (List.mem_cons_of_mem _ hx))
    have h1 := h a List.mem_cons_self
    have h2 := h b (List.mem_cons_of_mem _ List.mem_cons_self)
    have := dst_le (ok_at hv a h1.1 h1.2) (ok_at hv b h2.1 h2.2)
    simp only [wy, List.length_cons] at ih ⊢
    omega
theorem wy_grow (l : List S31) (o : List Int) (ho : ¬ o = []) (i : Int) : wy l o ≤ wy l (o ++ [i]) := by
  rw [wy_snoc l i o ho]
  have := dst_nonneg (rd_T31 l (rd o ((o.length : Int) - 1))) (rd_T31 l i)
  omega
/-- The search through all orders that begin with o. -/
def srch (l : List S31) : Nat → List Int → List Int → List Int
  | 0, o, best => if best = [] ∨ wy l o < wy l best then o else best
  | d + 1, o, best => (List.range l.length).foldl (fun bst (i : Nat) => if (i : Int) ∈ o then bst else srch l d (o ++ [(i : Int)]) bst) best
theorem srch_prune (l : List S31) (d : Nat) : ∀ (o best : List Int), ¬ o = [] → ¬ best = [] → wy l best ≤ wy l o → srch l d o best = best := by
  induction d with
  | zero =>
    intro o best _ hb hw
    unfold srch
    rw [if_neg (fun h => h.elim hb (fun h => by omega))]
  | succ d ih =>
    intro o best ho hb hw
    unfold srch
    have : ∀ is : List Nat, is.foldl (fun bst (i : Nat) => if (i : Int) ∈ o then bst else srch l d (o ++ [(i : Int)]) bst) best = best := by
      intro is
      induction is with
      | nil => rfl
      | cons i is ihs =>
        rw [List.foldl_cons]
        by_cases hi : (i : Int) ∈ o
        · rw [if_pos hi]; exact ihs
        · rw [if_neg hi, ih (o ++ [(i : Int)]) best (by simp) hb (Int.le_trans hw (wy_grow l o ho _))]
          exact ihs
    exact this _
/-- q goes on with o to an order of all. -/
def Compl (l : List S31) (o q : List Int) : Prop := (∃ t, q = o ++ t) ∧ q.length = l.length ∧ q.Nodup ∧ ∀ x ∈ q, 0 ≤ x ∧ x < (l.length : Int)
theorem Compl.less {l : List S31} {o q : List Int} {i : Int} (h : Compl l (o ++ [i]) q) : Compl l o q := by
  obtain ⟨⟨t, ht⟩, h2⟩ := h
  exact ⟨⟨i :: t, by rw [ht]; simp⟩, h2⟩
theorem srch_spec (l : List S31) (d : Nat) : ∀ (o best : List Int), o.length + d = l.length → ¬ o = [] → o.Nodup → (∀ x ∈ o, 0 ≤ x ∧ x < (l.length : Int)) →
    (srch l d o best = best ∨ Compl l o (srch l d o best)) ∧ (¬ best = [] → ¬ srch l d o best = [] ∧ wy l (srch l d o best) ≤ wy l best) ∧ (∀ q, Compl l o q → ¬ srch l d o best = [] ∧ wy l (srch l d o best) ≤ wy l q) := by
  induction d with
  | zero =>
    intro o best hl ho hd hr
    unfold srch
    have hq : ∀ q, Compl l o q → q = o := by
      rintro q ⟨⟨t, ht⟩, h2, _⟩
      have : t = [] := by
        have := congrArg List.length ht
        rw [List.length_append] at this
        exact List.eq_nil_of_length_eq_zero (by omega)
      rw [ht, this, List.append_nil]
    by_cases h : best = [] ∨ wy l o < wy l best
    · rw [if_pos h]
      refine ⟨.inr ⟨⟨[], by simp⟩, by omega, hd, hr⟩, fun hb => ⟨ho, by have := h.resolve_left hb; omega⟩, fun q hc => ⟨ho, by rw [hq q hc]; exact Int.le_refl _⟩⟩
    · rw [if_neg h]
      have h1 := not_or.1 h
      refine ⟨.inl rfl, fun hb => ⟨hb, Int.le_refl _⟩, fun q hc => ⟨h1.1, by rw [hq q hc]; omega⟩⟩
  | succ d ih =>
    intro o best hl ho hd hr
    unfold srch
    have main : ∀ (is : List Nat) (best : List Int), (∀ i ∈ is, i < l.length) →
        ((is.foldl (fun bst (i : Nat) => if (i : Int) ∈ o then bst else srch l d (o ++ [(i : Int)]) bst) best = best ∨ Compl l o (is.foldl (fun bst (i : Nat) => if (i : Int) ∈ o then bst else srch l d (o ++ [(i : Int)]) bst) best)) ∧
        (¬ best = [] → ¬ is.foldl (fun bst (i : Nat) => if (i : Int) ∈ o then bst else srch l d (o ++ [(i : Int)]) bst) best = [] ∧ wy l (is.foldl (fun bst (i : Nat) => if (i : Int) ∈ o then bst else srch l d (o ++ [(i : Int)]) bst) best) ≤ wy l best) ∧
        (∀ q, (∃ i ∈ is, ¬ (i : Int) ∈ o ∧ Compl l (o ++ [(i : Int)]) q) → ¬ is.foldl (fun bst (i : Nat) => if (i : Int) ∈ o then bst else srch l d (o ++ [(i : Int)]) bst) best = [] ∧ wy l (is.foldl (fun bst (i : Nat) => if (i : Int) ∈ o then bst else srch l d (o ++ [(i : Int)]) bst) best) ≤ wy l q)) := by
      intro is
      induction is with
      | nil => intro best _; exact ⟨.inl rfl, fun hb => ⟨hb, Int.le_refl _⟩, fun q h => by obtain ⟨i, hi, _⟩ := h; cases hi⟩
      | cons i is ihs =>
        intro best hi
        have hrest := fun b => ihs b (fun x hx => hi x (List.mem_cons_of_mem _ hx))
        rw [List.foldl_cons]
        by_cases hin : (i : Int) ∈ o
        · rw [if_pos hin]
          obtain ⟨a, b, c⟩ := hrest best
          refine ⟨a, b, fun q hq => ?_⟩
          obtain ⟨i', hi', hn, hc⟩ := hq
          rcases List.mem_cons.1 hi' with rfl | hi'
          · exact absurd hin hn
          · exact c q ⟨i', hi', hn, hc⟩
        · rw [if_neg hin]
          have hil := hi i List.mem_cons_self
          obtain ⟨a1, b1, c1⟩ := ih (o ++ [(i : Int)]) best (by simp; omega) (by simp) (by
              rw [List.nodup_append]
              refine ⟨hd, by simp, fun x hx y hy => ?_⟩
              rw [List.mem_singleton] at hy
              rintro rfl
              exact hin (by rw [← hy]; exact hx)) (fun x hx => by
              rcases List.mem_append.1 hx with hx | hx
              · exact hr x hx
              · rw [List.mem_singleton] at hx; omega)
          obtain ⟨a, b, c⟩ := hrest (srch l d (o ++ [(i : Int)]) best)
          refine ⟨?_, fun hb => ?_, fun q hq => ?_⟩
          · rcases a with a | a
            · rw [a]
              rcases a1 with a1 | a1
              · exact .inl a1
              · exact .inr a1.less
            · exact .inr a
          · obtain ⟨h1, h2⟩ := b1 hb
            obtain ⟨h3, h4⟩ := b h1
            exact ⟨h3, Int.le_trans h4 h2⟩
          · obtain ⟨i', hi', hn, hc⟩ := hq
            rcases List.mem_cons.1 hi' with rfl | hi'
            · obtain ⟨h1, h2⟩ := c1 q hc
              obtain ⟨h3, h4⟩ := b h1
              exact ⟨h3, Int.le_trans h4 h2⟩
            · exact c q ⟨i', hi', hn, hc⟩
    obtain ⟨a, b, c⟩ := main (List.range l.length) best (fun i hi => List.mem_range.1 hi)
    refine ⟨a, b, fun q hq => c q ?_⟩
    obtain ⟨⟨t, ht⟩, h2, h3, h4⟩ := hq
    cases t with
    | nil => rw [List.append_nil] at ht; rw [ht] at h2; omega
    | cons y t =>
      have hy := h4 y (by rw [ht]; simp)
      refine ⟨y.toNat, List.mem_range.2 (by omega), ?_, ?_⟩
      · have e : ((y.toNat : Nat) : Int) = y := by omega
        rw [e]
        intro hyo
        rw [ht, List.nodup_append] at h3
        exact h3.2.2 y hyo y List.mem_cons_self rfl
      · have e : ((y.toNat : Nat) : Int) = y := by omega
        rw [e]
        exact ⟨⟨t, by rw [ht]; simp⟩, h2, h3, h4⟩
theorem range_drop (n j : Nat) (h : j < n) : (List.range n).drop j = j :: (List.range n).drop (j + 1) := by
  rw [List.drop_eq_getElem_cons (by simpa using h)]
  simp
/-- A best order so far. -/
def OKb (l : List S31) (b : List Int) : Prop := (∀ x ∈ b, 0 ≤ x ∧ x < (l.length : Int)) ∧ b.length ≤ l.length
theorem srch_ok (l : List S31) (d : Nat) : ∀ (o best : List Int), o.length + d = l.length → (∀ x ∈ o, 0 ≤ x ∧ x < (l.length : Int)) → OKb l best → OKb l (srch l d o best) := by
  induction d with
  | zero =>
    intro o best hl hr hb
    unfold srch
    split
    · exact ⟨hr, by omega⟩
    · exact hb
  | succ d ih =>
    intro o best hl hr hb
    unfold srch
    have : ∀ (is : List Nat) (b : List Int), (∀ i ∈ is, i < l.length) → OKb l b → OKb l (is.foldl (fun bst (i : Nat) => if (i : Int) ∈ o then bst else srch l d (o ++ [(i : Int)]) bst) b) := by
      intro is
      induction is with
      | nil => intro b _ h; exact h
      | cons i is ihs =>
        intro b hi h
        rw [List.foldl_cons]
        refine ihs _ (fun x hx => hi x (List.mem_cons_of_mem _ hx)) ?_
        have hil := hi i List.mem_cons_self
        by_cases hin : (i : Int) ∈ o
        · rw [if_pos hin]; exact h
        · rw [if_neg hin]
          exact ih _ _ (by simp; omega) (fun x hx => by
            rcases List.mem_append.1 hx with hx | hx
            · exact hr x hx
            · rw [List.mem_singleton] at hx; omega) h
    exact this _ _ (fun i hi => List.mem_range.1 hi) hb
/-! ### The reference -/
theorem rsearch_ev (l : List S31) (hv : l.all okp = true) (hn : l.length ≤ 500) (d : Nat) : ∀ (o best : List Int), o.length + d = l.length → (∀ x ∈ o, 0 ≤ x ∧ x < (l.length : Int)) → OKb l best → Ev (fun k => swarfref38_search.f k l o best) (srch l d o best) := by
  induction d with
  | zero =>
    intro o best hl hr hb
    have e0 : ∀ k, swarfref38_search.f (k + 1) l o best = if (best.length : Int) = 0 then some o else ((swarfref38_way.f k l o).bind fun t => ((swarfref38_way.f k l best).bind fun u => if t < u then some o else some best)) := by
      intro k
      simp only [swarfref38_search.f]
      rw [if_pos (by omega)]
      have hA : o.length < 17592186044416 := by omega
      simp only [Option.bind_some, List.length_nil, List.nil_append, Nat.zero_add, if_pos hA]
    unfold srch
    by_cases hb0 : best = []
    · rw [if_pos (.inl hb0)]
      exact ev_end (fun k => by rw [e0 k, if_pos (by rw [hb0]; rfl)])
    · have hlb : ¬ (best.length : Int) = 0 := fun h => hb0 (List.eq_nil_of_length_eq_zero (by omega))
      refine Ev.step (fun k => by rw [e0 k, if_neg hlb]) (Ev.bind (length_ev l hv o (by omega) hr).2 (Ev.bind (length_ev l hv best (by have := hb.2; omega) hb.1).2 ?_))
      by_cases hlt : wy l o < wy l best
      · simp only [if_pos hlt, if_pos (show best = [] ∨ wy l o < wy l best from .inr hlt)]; exact Ev.now _
      · simp only [if_neg hlt, if_neg (show ¬ (best = [] ∨ wy l o < wy l best) from fun h => h.elim hb0 hlt)]; exact Ev.now _
  | succ d ih =>
    intro o best hl hr hb
    have loop : ∀ (e j : Nat) (bst : List Int), j + e = l.length → OKb l bst → Ev (fun k => swarfref38_search.l0 k l o bst (j : Int)) (((List.range l.length).drop j).foldl (fun bst (i : Nat) => if (i : Int) ∈ o then bst else srch l d (o ++ [(i : Int)]) bst) bst) := by
      intro e
      induction e with
      | zero =>
        intro j bst hj _
        rw [List.drop_eq_nil_of_le (by simp; omega)]
        exact ev_end (fun k => by simp only [swarfref38_search.l0]; rw [if_neg (by omega)]; rfl)
      | succ e ihe =>
        intro j bst hj hbst
        have hwj : wrap64 ((j : Int) + 1) = ((j + 1 : Nat) : Int) := by rw [wrap_mid _ (by omega) (by omega)]; omega
        rw [range_drop _ _ (by omega), List.foldl_cons]
        refine Ev.step (f := fun k => (swarfref38_has.f k o (j : Int)).bind fun t => if t = true then swarfref38_search.l0 k l o bst ((j + 1 : Nat) : Int) else ((swarfref38_search.f k l (o ++ [(j : Int)]) bst).bind fun b2 => swarfref38_search.l0 k l o b2 ((j + 1 : Nat) : Int))) (fun k => ?_) ?_
        · simp only [swarfref38_search.l0]
          rw [if_pos (by omega), hwj]
          have hA : o.length < 17592186044416 := by omega
          simp only [Option.bind_some, List.length_nil, List.nil_append, Nat.zero_add, if_pos hA]
        · refine Ev.bind (has_ev o (by omega) (j : Int)) ?_
          by_cases hin : (j : Int) ∈ o
          · simp only [decide_eq_true hin, if_true, if_pos hin]
            exact ihe (j + 1) bst (by omega) hbst
          · simp only [decide_eq_false hin, Bool.false_eq_true, if_false, if_neg hin]
            have hro : ∀ x ∈ o ++ [(j : Int)], 0 ≤ x ∧ x < (l.length : Int) := fun x hx => by
              rcases List.mem_append.1 hx with hx | hx
              · exact hr x hx
              · rw [List.mem_singleton] at hx; omega
            refine Ev.bind (ih (o ++ [(j : Int)]) bst (by simp; omega) hro hbst) ?_
            exact ihe (j + 1) _ (by omega) (srch_ok l d _ _ (by simp; omega) hro hbst)
    refine Ev.step (f := fun k => swarfref38_search.l0 k l o best ((0 : Nat) : Int)) (fun k => ?_) ?_
    · simp only [swarfref38_search.f]
      rw [if_neg (by omega)]
      rfl
    · have := loop l.length 0 best (by omega) hb
      rw [List.drop_zero] at this
      exact this
/-! ### The program -/
theorem index_l0 (o : List Int) (hl : o.length ≤ 1000) (x : Int) (d : Nat) : ∀ j : Nat, j + d = o.length → EvP (fun k => slices_Index_int_int.l0 k o x (o.length : Int) (j : Int)) (fun r => (0 ≤ r) ↔ x ∈ o.drop j) := by
  induction d with
  | zero =>
    intro j hj
    rw [List.drop_eq_nil_of_le (by omega)]
    exact EvP.stop (-1) (fun k => by simp only [slices_Index_int_int.l0]; rw [if_neg (by omega)]) ⟨fun h => by omega, fun h => by cases h⟩
  | succ d ih =>
    intro j hj
    have hw : wrap64 ((j : Int) + 1) = ((j + 1 : Nat) : Int) := by rw [wrap_mid _ (by omega) (by omega)]; omega
    rw [drop_rd o j (by omega)]
    by_cases h : x = rd o (j : Int)
    · exact EvP.stop (j : Int) (fun k => by simp only [slices_Index_int_int.l0]; rw [if_pos (by omega), if_pos (by omega), if_pos (by omega), if_pos h]) ⟨fun _ => by rw [h]; exact List.mem_cons_self, fun _ => by omega⟩
    · obtain ⟨r, h1, h2⟩ := ih (j + 1) (by omega)
      refine ⟨r, Ev.step (fun k => ?_) h1, ?_⟩
      · simp only [slices_Index_int_int.l0]
        rw [if_pos (by omega), if_pos (by omega), if_pos (by omega), if_neg h, hw]
      · show 0 ≤ r ↔ _
        rw [h2, List.mem_cons]
        exact ⟨fun h => .inr h, fun h' => h'.resolve_left h⟩
theorem contains_ev (o : List Int) (hl : o.length ≤ 1000) (x : Int) : Ev (fun k => slices_Contains_int_int.f k o x) (decide (x ∈ o)) := by
  unfold slices_Contains_int_int.f
  obtain ⟨r, h1, h2⟩ := index_l0 o hl x o.length 0 (by omega)
  rw [List.drop_zero] at h2
  refine Ev.bind h1 ?_
  have : decide (r ≥ 0) = decide (x ∈ o) := by
    by_cases h : x ∈ o
    · rw [decide_eq_true h, decide_eq_true (h2.2 h)]
    · rw [decide_eq_false h, decide_eq_false (fun hr => h (h2.1 hr))]
  rw [this]
  exact Ev.now _
theorem ext_ev (l : List S31) (hv : l.all okp = true) (hn : l.length ≤ 500) (d : Nat) : ∀ (o b : List Int) (m : Int), o.length + d = l.length → ¬ o = [] → (∀ x ∈ o, 0 ≤ x ∧ x < (l.length : Int)) → OKb l b → (¬ b = [] → m = wy l b) →
    EvP (fun k => tour_ext.f k l o (wy l o) b m) (fun r => r.1 = srch l d o b ∧ (¬ r.1 = [] → r.2 = wy l r.1)) := by
  induction d with
  | zero =>
    intro o b m hl ho hr hb hm
    have h1 : 1 ≤ o.length := List.length_pos_iff.2 ho
    by_cases pr : ¬ b = [] ∧ m ≤ wy l o
    · refine EvP.stop (b, m) (fun k => ?_) ⟨(srch_prune l 0 o b ho pr.1 (by rw [← hm pr.1]; exact pr.2)).symm, hm⟩
      simp only [tour_ext.f]
      rw [if_pos h1, if_pos (by omega), if_pos pr]
    · refine EvP.stop (o, wy l o) (fun k => ?_) ⟨?_, fun _ => rfl⟩
      · simp only [tour_ext.f]
        rw [if_pos h1, if_pos (by omega), if_neg pr, if_pos (by omega)]
      · unfold srch
        rw [if_pos]
        by_cases hb0 : b = []
        · exact .inl hb0
        · right
          have e := hm hb0
          have h2 : ¬ m ≤ wy l o := fun h => pr ⟨hb0, h⟩
          omega
  | succ d ih =>
    intro o b m hl ho hr hb hm
    have h1 : 1 ≤ o.length := List.length_pos_iff.2 ho
    by_cases pr : ¬ b = [] ∧ m ≤ wy l o
    · refine EvP.stop (b, m) (fun k => ?_) ⟨(srch_prune l (d + 1) o b ho pr.1 (by rw [← hm pr.1]; exact pr.2)).symm, hm⟩
      simp only [tour_ext.f]
      rw [if_pos h1, if_pos (by omega), if_pos pr]
    · have loop : ∀ (e j : Nat) (bst : List Int) (mm : Int), j + e = l.length → OKb l bst → (¬ bst = [] → mm = wy l bst) →
          EvP (fun k => tour_ext.l0 k l o (wy l o) bst mm (j : Int)) (fun r => r.1 = ((List.range l.length).drop j).foldl (fun bst (i : Nat) => if (i : Int) ∈ o then bst else srch l d (o ++ [(i : Int)]) bst) bst ∧ (¬ r.1 = [] → r.2 = wy l r.1)) := by
        intro e
        induction e with
        | zero =>
          intro j bst mm hj hbst hmm
          rw [List.drop_eq_nil_of_le (by simp; omega)]
          exact EvP.stop (bst, mm) (fun k => by simp only [tour_ext.l0]; rw [if_neg (by omega)]) ⟨rfl, hmm⟩
        | succ e ihe =>
          intro j bst mm hj hbst hmm
          have hwj : wrap64 ((j : Int) + 1) = ((j + 1 : Nat) : Int) := by rw [wrap_mid _ (by omega) (by omega)]; omega
          have hla := hr _ (rd_mem (o := o) (i := (o.length : Int) - 1) (by omega) (by omega))
          have kl := ok_at hv _ hla.1 hla.2
          have kj := ok_at hv (j : Int) (by omega) (by omega)
          have hwd : wrap64 (wy l o + dst (rd_T31 l (rd o ((o.length : Int) - 1))) (rd_T31 l (j : Int))) = wy l (o ++ [(j : Int)]) := by
            rw [wy_snoc l (j : Int) o ho]
            have := wy_nonneg l o
            have := wy_le l hv o hr
            have := dst_nonneg (rd_T31 l (rd o ((o.length : Int) - 1))) (rd_T31 l (j : Int))
            have := dst_le kl kj
            exact wrap_mid _ (by omega) (by omega)
          rw [range_drop _ _ (by omega), List.foldl_cons]
          refine EvP.step (f := fun k => (slices_Contains_int_int.f k o (j : Int)).bind fun t => if t = true then tour_ext.l0 k l o (wy l o) bst mm ((j + 1 : Nat) : Int) else ((tour_ext.f k l (o ++ [(j : Int)]) (wy l (o ++ [(j : Int)])) bst mm).bind fun b2 => tour_ext.l0 k l o (wy l o) b2.1 b2.2 ((j + 1 : Nat) : Int))) (fun k => ?_) ?_
          · simp only [tour_ext.l0]
            rw [if_pos (by omega), if_pos (by omega), hwj, if_pos hla.1, if_pos hla.2, dist_eq kl kj]
            simp only [Option.bind_some]
            rw [hwd]
          · refine EvP.bind (contains_ev o (by omega) (j : Int)) ?_
            by_cases hin : (j : Int) ∈ o
            · simp only [decide_eq_true hin, if_true, if_pos hin]
              exact ihe (j + 1) bst mm (by omega) hbst hmm
            · simp only [decide_eq_false hin, Bool.false_eq_true, if_false, if_neg hin]
              have hro : ∀ x ∈ o ++ [(j : Int)], 0 ≤ x ∧ x < (l.length : Int) := fun x hx => by
                rcases List.mem_append.1 hx with hx | hx
                · exact hr x hx
                · rw [List.mem_singleton] at hx; omega
              refine EvP.bindP (ih (o ++ [(j : Int)]) bst mm (by simp; omega) (by simp) hro hbst hmm) (fun b2 hb2 => ?_)
              have := ihe (j + 1) b2.1 b2.2 (by omega) (by rw [hb2.1]; exact srch_ok l d _ _ (by simp; omega) hro hbst) hb2.2
              rw [hb2.1] at this
              rw [← hb2.1] at this ⊢
              exact this
      refine EvP.step (f := fun k => tour_ext.l0 k l o (wy l o) b m ((0 : Nat) : Int)) (fun k => ?_) ?_
      · simp only [tour_ext.f]
        rw [if_pos h1, if_pos (by omega), if_neg pr, if_neg (by omega)]
        rfl
      · have := loop l.length 0 b m (by omega) hb hm
        rw [List.drop_zero] at this
        exact this
theorem compl_range (l : List S31) (h : 1 ≤ l.length) : Compl l [0] ((List.range l.length).map (fun i : Nat => (i : Int))) := by
  refine ⟨⟨((List.range l.length).drop 1).map (fun i : Nat => (i : Int)), ?_⟩, by simp, ?_, fun x hx => ?_⟩
  · have := range_drop l.length 0 (by omega)
    rw [List.drop_zero] at this
    conv => lhs; rw [this]
    rfl
  · exact List.Pairwise.map _ (fun a b (hab : a ≠ b) => by omega) List.nodup_range
  · obtain ⟨i, hi, rfl⟩ := List.mem_map.1 hx
    have := List.mem_range.1 hi
    omega
/-- The order that Exact finds. -/
def exactO (l : List S31) : List Int := srch l (l.length - 1) [0] []
theorem exact_spec (l : List S31) (h : 1 ≤ l.length) : Compl l [0] (exactO l) ∧ ∀ q, Compl l [0] q → wy l (exactO l) ≤ wy l q := by
  obtain ⟨a, b, c⟩ := srch_spec l (l.length - 1) [0] [] (by simp; omega) (by simp) (by simp) (fun x hx => by rw [List.mem_singleton] at hx; omega)
  have h1 := c _ (compl_range l h)
  refine ⟨a.resolve_left (fun e => h1.1 e), fun q hq => (c q hq).2⟩
def exactE (l : List S31) : List Int × Int × Int := if chkE l 10 = 0 then (if l.length = 0 then ([], 0, 0) else (exactO l, wy l (exactO l), 0)) else ([], 0, chkE l 10)
theorem Exact_ev (l : List S31) (hn : l.length ≤ 500) : Ev (fun k => tour_Exact.f k l) (exactE l) ∧ Ev (fun k => swarfref38_Exact.f k l) (exactE l) := by
  unfold tour_Exact.f swarfref38_Exact.f exactE
  simp only [if_pos (show l.length < 1000 by omega)]
  by_cases hc : chkE l 10 = 0
  · obtain ⟨c1, c2⟩ := chkE_zero hc
    rw [if_pos hc]
    by_cases h0 : l.length = 0
    · rw [if_pos h0]
      refine ⟨Ev.bind (check_ev l 10 (by omega)) ?_, Ev.bind (rvalid_ev l 10 (by omega)) ?_⟩ <;> simp only [if_pos hc, if_pos (show (l.length : Int) = 0 by omega)] <;> exact Ev.now _
    · rw [if_neg h0]
      have hok : OKb l [] := ⟨fun x hx => (by cases hx), by simp⟩
      have hr0 : ∀ x ∈ [(0 : Int)], 0 ≤ x ∧ x < (l.length : Int) := fun x hx => by rw [List.mem_singleton] at hx; omega
      obtain ⟨sp, _⟩ := exact_spec l (by omega)
      have hlen := sp.2.1
      have hne : ¬ exactO l = [] := fun e => by rw [e] at hlen; simp at hlen; omega
      constructor
      · refine Ev.bind (check_ev l 10 (by omega)) ?_
        simp only [if_pos hc, if_neg (show ¬ (l.length : Int) = 0 by omega)]
        obtain ⟨r, h1, h2, h3⟩ := ext_ev l c2 hn (l.length - 1) [0] [] 0 (by simp; omega) (by simp) hr0 hok (fun h => absurd rfl h)
        have e : r = (exactO l, wy l (exactO l)) := by
          have e1 : r.1 = exactO l := h2
          have e2 := h3 (by rw [e1]; exact hne)
          rw [e1] at e2
          exact Prod.ext e1 e2
        have h1' : Ev (fun k => tour_ext.f k l [0] 0 [] 0) r := h1
        rw [e] at h1'
        exact Ev.bind h1' (Ev.now _)
      · refine Ev.bind (rvalid_ev l 10 (by omega)) ?_
        simp only [if_pos hc, if_neg (show ¬ (l.length : Int) = 0 by omega)]
        refine Ev.bind (rsearch_ev l c2 hn (l.length - 1) [0] [] (by simp; omega) hr0 hok) ?_
        exact Ev.bind (length_ev l c2 (exactO l) (by omega) sp.2.2.2).2 (Ev.now _)
  · rw [if_neg hc]
    refine ⟨Ev.bind (check_ev l 10 (by omega)) ?_, Ev.bind (rvalid_ev l 10 (by omega)) ?_⟩ <;> simp only [if_neg hc] <;> exact Ev.now _
theorem same_l0 (o : List Int) (hl : o.length ≤ 1000) (d : Nat) : ∀ j : Nat, j + d = o.length → Ev (fun k => swarfref38_Same.l0 k o o (j : Int)) true := by
  induction d with
  | zero =>
    intro j hj
    exact ev_end (fun k => by simp only [swarfref38_Same.l0]; rw [if_neg (by omega)])
  | succ d ih =>
    intro j hj
    have hw : wrap64 ((j : Int) + 1) = ((j + 1 : Nat) : Int) := by rw [wrap_mid _ (by omega) (by omega)]; omega
    refine Ev.step (fun k => ?_) (ih (j + 1) (by omega))
    simp only [swarfref38_Same.l0]
    rw [if_pos (by omega), if_pos (by omega), if_pos (by omega), hw]
    rfl
theorem same_ev (o : List Int) (hl : o.length ≤ 1000) : Ev (fun k => swarfref38_Same.f k o o) true := by
  unfold swarfref38_Same.f
  simp only [if_true]
  exact same_l0 o hl o.length 0 (by omega)
end Go.Proofs.Ytohjocajaanhaaa.B

/- The statement TourExact, over plain numbers and lists. -/

namespace Go.Proofs.Ytohjocajaanhaaa.B
open Go.RowKit Go.Proofs.Ytohjocajaanhaaa.P Go.Proofs.YtohjocajaanhaaaW.PrintWords Go.Proofs.YtohjocajaanhaaaW.PrintLast Go.Proofs.YtohjocajaanhaaaW.PrintMore
set_option linter.unusedVariables false
set_option linter.unusedSimpArgs false
theorem exactO_len (l : List S31) (h : l.length ≤ 500) : (exactE l).1.length ≤ 500 := by
  unfold exactE
  split
  · split
    · simp
    · rename_i h0
      have := (exact_spec l (by omega)).1.2.1
      show (exactO l).length ≤ 500
      omega
  · simp
theorem exact_j0 (l : List S31) (b : Bool) (hb : b = false → l.length ≤ 500) : Ev (fun k => swarflaw38_TourExact.j0 k l b) true := by
  cases b with
  | true =>
    refine Ev.step (f := fun k => (swarflaw38_awake.f k).bind fun t => some t) (fun k => by simp only [swarflaw38_TourExact.j0]; rfl) ?_
    exact Ev.bind awake_ev (Ev.now _)
  | false =>
    have hn := hb rfl
    obtain ⟨e1, e2⟩ := Exact_ev l hn
    refine Ev.step (fun k => by simp only [swarflaw38_TourExact.j0]; rw [if_neg (by decide)]) ?_
    refine Ev.bind e1 (Ev.bind e2 ?_)
    simp only [if_true]
    exact Ev.bind (same_ev _ (by have := exactO_len l hn; omega)) (Ev.now _)
theorem TourExact (l : List S31) : ∃ k, swarflaw38_TourExact.f k l = some true := by
  refine Ev.rounds (g := fun k => swarflaw38_TourExact.f k l) ?_
  unfold swarflaw38_TourExact.f
  refine Ev.bind awake_ev ?_
  simp only [if_true]
  have hd : decide ((l.length : Int) > 12) = false → l.length ≤ 500 := fun h => by have := of_decide_eq_false h; omega
  by_cases h1 : (l.length : Int) > 7
  · simp only [if_pos h1]
    by_cases h2 : (l.length : Int) < 11
    · simp only [if_pos h2]
      exact exact_j0 l _ (fun h => by cases h)
    · simp only [if_neg h2]
      exact exact_j0 l _ hd
  · simp only [if_neg h1]
    exact exact_j0 l _ hd
end Go.Proofs.Ytohjocajaanhaaa.B
