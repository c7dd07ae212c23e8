import Derived.Test.YtohjocajaanhaaaT5M21
import Derived.Test.YtohjocajaanhaaaT5Px30
import Derived.Test.YtohjocajaanhaaaT5M26
import Derived.Test.YtohjocajaanhaaaT5M27
import Derived.Test.YtohjocajaanhaaaT5Px8
import Derived.Test.YtohjocajaanhaaaT5M23
import Derived.Test.YtohjocajaanhaaaT5M25
-- PRINTED by print.py (a twelfth state) out of the translation. Not trusted: Lean checks it.

namespace Go.Proofs.Ytohjocajaanhaaa.P
open Go.RowKit Go.Proofs.YtohjocajaanhaaaW.PrintWords Go.Proofs.YtohjocajaanhaaaW.PrintLast Go.Proofs.YtohjocajaanhaaaW.PrintMore
attribute [local go_sem] max2_int min2_int max_two min_two max_three min_three max_four min_four   -- for this text's walks alone
set_option linter.unusedVariables false
set_option linter.unusedSimpArgs false

/-! ### swarfref38_Tree: function 21 -/
def swarfref38_Tree.f (k : Nat) (l0 : List (S31)) : Option (Int) := if 0 ≤ (l0.length : Int) then (if ((l0.length : Int) : Int).toNat ≤ 35184372088832 then ((swarfref38_tree.f k l0 (List.replicate ((l0.length : Int) : Int).toNat 0)).bind fun t303 => (some t303)) else (none)) else (none)
theorem swarfref38_Tree.mono : ∀ a0 k, LeO (swarfref38_Tree.f k a0) (swarfref38_Tree.f (k + 1) a0) := by
  intro a0 k
  unfold swarfref38_Tree.f
  repeat' first
      | (with_reducible exact swarfref38_tree.mono _ _ _)
      | (with_reducible exact LeO.refl _)
      | (with_reducible exact LeO.none _)
      | (with_reducible refine LeO.ite ?_ ?_)
      | (with_reducible refine LeO.bind ?_ (fun _ => ?_))
      | exact swarfref38_tree.mono _ _ _
      | exact LeO.none _
      | refine LeO.ite ?_ ?_
      | refine LeO.bind ?_ (fun _ => ?_)
set_option maxHeartbeats 8000000 in
set_option maxRecDepth 100000 in
theorem swarfref38_Tree.calls (k : Nat) (A0 : Option Addr) (c0 : Nat) (l0 : List (S31)) (r : Int) (w : World) (hr0 : Kd.C k31 w A0 l0.length l0) (hc0 : l0.length ≤ c0) (h : swarfref38_Tree.f k l0 = some r) :
    Calls Try.prog 21 #[.slice A0 l0.length c0] w fun e w' => e = .returned (.int .i64 r) ∧ Below w.heap.size w w' := by
  have HR0 := Aside0.mk hr0
  have HC0 := Aside0.mk hc0
  clear hr0 hc0
  have HB := Aside0.mk (Below.refl w.heap.size w)
  have H : (if 0 ≤ (l0.length : Int) then (if ((l0.length : Int) : Int).toNat ≤ 35184372088832 then ((swarfref38_tree.f k l0 (List.replicate ((l0.length : Int) : Int).toNat 0)).bind fun t303 => (some t303)) else (none)) else (none)) = some r := h
  clear h
  by_cases c2 : 0 ≤ (l0.length : Int)
  · rw [if_pos c2] at H
    have c2b0 := eq_true c2
    have c2b1 : decide (0 ≤ (l0.length : Int)) = true := decide_eq_true c2
    clear c2
    by_cases c3 : ((l0.length : Int) : Int).toNat ≤ 35184372088832
    · rw [if_pos c3] at H
      have c3b0 := eq_true c3
      have c3b1 : decide (((l0.length : Int) : Int).toNat ≤ 35184372088832) = true := decide_eq_true c3
      clear c3
      obtain ⟨y300, hy300⟩ : ∃ y_ : List Int, y_ = (List.replicate ((l0.length : Int) : Int).toNat 0) := ⟨_, rfl⟩
      replace H : ((swarfref38_tree.f k l0 y300).bind fun t303 => (some t303)) = some r := by first | (rw [hy300]; with_reducible exact H) | (have H2_ := (Option.bind_some _ _).symm.trans H; rw [hy300]; with_reducible exact H2_) | (have H2_ := (Option.bind_some _ _).symm.trans H; with_reducible exact H2_) | with_reducible exact H | (rw [hy300]; exact H) | exact H
      have Ny300 := Aside0.mk hy300
      clear hy300
      replace H := Option.bind_eq_some_iff.mp H
      obtain ⟨t303, A40, H⟩ := H
      replace H : (some t303) = some r := H
      have A4 := Aside0.mk A40
      clear A40
      obtain rfl := Option.some.inj H
      go_enter Try.func21, Try.ntmps21
      go_wp2_with (first | ((with_reducible refine gate_dst (N := 6) rfl ?_); refine Kd.R_make (Kd.int .i64) _ 2 rfl (N := 6) rfl 39 _ _ rfl (l0.length : Int) rfl rfl Try.underlying39 (.int .i64 0) 8 info2 rfl (by decide) (by omega) 0 (ok := fun _ => True) (okp := fun _ => True) rfl (fun _ hk => hk) trivial (of_decide_eq_true (by first | (with_reducible assumption) | assumption)) (Nat.le_trans (Nat.mul_le_mul_right _ (of_decide_eq_true (by first | (with_reducible assumption) | assumption) : (l0.length : Int).toNat ≤ 35184372088832)) (by omega)) (Below.refl _ _) (Nat.le_refl _) ?_; intro v301 w5 ho6 hb hg_ hnew_; clear hg_ hnew_; (first | rw [← Ny300.out] at ho6 | (simp only [Int.reduceToNat] at ho6; rw [← Ny300.out] at ho6)); have n0_ := Aside0.mk (Kd.R_lower ho6 (below_size (by repeat (first | (with_reducible first | exact HB.out | apply below_alloc | apply pw_below_drewN | apply below_drew1) | exact HB.out)))); have n1_ := Aside0.mk (below_step (by repeat (first | (with_reducible first | exact HB.out | apply below_alloc | apply pw_below_drewN | apply below_drew1) | exact HB.out)) hb); clear HB; have HO302 := n0_; have HB := n1_; clear n0_ n1_; clear hb ho6; obtain ⟨Ao7, co7, eo7⟩ := Kd.R_slice HO302.out; subst eo7) | ((with_reducible refine gate_callee (f := 37) rfl ?_); refine goesL_ (some 7) rfl rfl Try.func37 (by kernel_rfl) rfl #[.slice A0 l0.length c0, .slice Ao7 y300.length co7] rfl (by (try simp only [List.map_toArray, List.map_cons, List.map_nil]); first | done | rfl | (simp only [List.length_drop, List.length_take]; rfl)) ?_; (with_reducible refine (swarfref38_tree.calls k _ _ l0 _ _ y300 t303 _ ?side1 ?side2 ?side3 ?side4 A4.out).mono ?_); (case side1 => repeat (first | exact (Kd.C_below HR0.out HB.out) | (with_reducible refine Kd.C_alloc ?_ _) | (with_reducible refine Kd.C_drewN ?_ _) | (with_reducible refine Kd.C_drew ?_))); (case side2 => exact HC0.out); (case side3 => repeat (first | exact (Kd.R_reads' HO302.out).2.2 | (with_reducible refine Kd.C_alloc ?_ _) | (with_reducible refine Kd.C_drewN ?_ _) | (with_reducible refine Kd.C_drew ?_))); (case side4 => exact (Kd.R_reads' HO302.out).2.1); rintro e w8 ⟨rfl, hb⟩; refine ⟨_, rfl, ?_⟩; have n0_ := Aside0.mk (Kd.R_below (by (with_reducible repeat (first | apply Kd.R_alloc | apply Kd.R_drewN | apply Kd.R_drew)); exact HO302.out) hb); have n1_ := Aside0.mk (below_step (by repeat (first | (with_reducible first | exact HB.out | apply below_alloc | apply pw_below_drewN | apply below_drew1) | exact HB.out)) hb); clear HO302; clear HB; have HO302 := n0_; have HB := n1_; clear n0_ n1_; (try clear hb); (try clear hb2); (try clear hk); (try clear hi)))
      go_ret
      exact ⟨by first | rfl | (simp [errW_none, errW_some] <;> rfl) | (simp [*, errW_none, errW_some] <;> rfl), by repeat (first | (with_reducible first | exact HB.out | apply below_alloc | apply pw_below_drewN | apply below_drew1) | exact HB.out)⟩
    · rw [if_neg c3] at H
      exact absurd H (by simp)
  · rw [if_neg c2] at H
    exact absurd H (by simp)

end Go.Proofs.Ytohjocajaanhaaa.P

/- What the printed functions of spanning trees come to: runs that always add the cheapest edge. Plain numbers and lists. -/

namespace Go.Proofs.Ytohjocajaanhaaa.B
open Go.RowKit Go.Proofs.Ytohjocajaanhaaa.P Go.Proofs.YtohjocajaanhaaaW.PrintWords Go.Proofs.YtohjocajaanhaaaW.PrintLast Go.Proofs.YtohjocajaanhaaaW.PrintMore Go.Proofs.Ytohjocajaanhaaa.Mst
set_option linter.unusedVariables false
set_option linter.unusedSimpArgs false

def EvP {α : Type} (g : Nat → Option α) (Post : α → Prop) : Prop := ∃ r, Ev g r ∧ Post r
theorem EvP.step {α : Type} {g f : Nat → Option α} {Post : α → Prop} (h : ∀ k, g (k + 1) = f k) (k : EvP f Post) : EvP g Post := by
  obtain ⟨r, h1, h2⟩ := k
  exact ⟨r, Ev.step h h1, h2⟩
theorem EvP.stop {α : Type} {g : Nat → Option α} {Post : α → Prop} (r : α) (h : ∀ k, g (k + 1) = some r) (hp : Post r) : EvP g Post := ⟨r, ev_end h, hp⟩
theorem EvP.bind {α β : Type} {g : Nat → Option α} {f : Nat → α → Option β} {a : α} {Post : β → Prop} (h : Ev g a) (k : EvP (fun n => f n a) Post) : EvP (fun n => (g n).bind (f n)) Post := by
  obtain ⟨r, h1, h2⟩ := k
  exact ⟨r, Ev.bind h h1, h2⟩
theorem EvP.bindP {α β : Type} {g : Nat → Option α} {f : Nat → α → Option β} {P1 : α → Prop} {Post : β → Prop} (h : EvP g P1) (k : ∀ a, P1 a → EvP (fun n => f n a) Post) : EvP (fun n => (g n).bind (f n)) Post := by
  obtain ⟨a, h1, h2⟩ := h
  exact EvP.bind h1 (k a h2)

theorem has_l0 (o : List Int) (hl : o.length ≤ 1000) (x : Int) (d : Nat) : ∀ j : Nat, j + d = o.length → Ev (fun k => swarfref38_has.l0 k o x (j : Int)) (decide (x ∈ o.drop j)) := by
  induction d with
  | zero =>
    intro j hj
    rw [List.drop_eq_nil_of_le (by omega)]
    exact ev_end (fun k => by simp only [swarfref38_has.l0]; rw [if_neg (by omega)]; simp)
  | succ d ih =>
    intro j hj
    have hw : wrap64 ((j : Int) + 1) = ((j + 1 : Nat) : Int) := by rw [wrap_mid _ (by omega) (by omega)]; omega
    rw [drop_rd o j (by omega)]
    generalize hy : rd o (j : Int) = y
    by_cases h : y = x
    · rw [show decide (x ∈ y :: o.drop (j + 1)) = true by simp [h]]
      exact ev_end (fun k => by simp only [swarfref38_has.l0]; rw [if_pos (by omega), if_pos (by omega), hy, if_pos h])
    · rw [show decide (x ∈ y :: o.drop (j + 1)) = decide (x ∈ o.drop (j + 1)) by simp [Ne.symm h]]
      refine Ev.step (fun k => ?_) (ih (j + 1) (by omega))
      simp only [swarfref38_has.l0]
      rw [if_pos (by omega), if_pos (by omega), hy, if_neg h, hw]
theorem has_ev (o : List Int) (hl : o.length ≤ 1000) (x : Int) : Ev (fun k => swarfref38_has.f k o x) (decide (x ∈ o)) := by
  unfold swarfref38_has.f
  exact has_l0 o hl x o.length 0 (by omega)

/-! ### Numbers below n -/
theorem pig (n : Nat) : ∀ o : List Int, o.Nodup → (∀ x ∈ o, 0 ≤ x ∧ x < (n : Int)) → o.length ≤ n := by
  induction n with
  | zero =>
    intro o _ h
    cases o with
    | nil => exact Nat.le_refl _
    | cons x o => have := h x List.mem_cons_self; omega
  | succ n ih =>
    intro o hd h
    by_cases hm : (n : Int) ∈ o
    · have h1 := ih (o.erase (n : Int)) (hd.erase _) (fun x hx => by
        have h2 := (hd.mem_erase_iff).1 hx
        have h3 := h x h2.2
        have : x ≠ (n : Int) := h2.1
        omega)
      rw [List.length_erase_of_mem hm] at h1
      omega
    · have h1 := ih o hd (fun x hx => by
        have h3 := h x hx
        have : x ≠ (n : Int) := fun e => hm (e ▸ hx)
        omega)
      omega
theorem all_in (n : Nat) : ∀ o : List Int, (∀ i : Nat, i < n → (i : Int) ∈ o) → n ≤ o.length := by
  induction n with
  | zero => intro o _; omega
  | succ n ih =>
    intro o h
    have hm := h n (by omega)
    have h1 := ih (o.erase (n : Int)) (fun i hi => (List.mem_erase_of_ne (by omega)).2 (h i (by omega)))
    rw [List.length_erase_of_mem hm] at h1
    have := List.length_pos_of_mem hm
    omega
theorem some_out {n : Nat} {o : List Int} (h : o.length < n) : ∃ i : Nat, i < n ∧ ¬ (i : Int) ∈ o := by
  by_cases hx : ∃ i : Nat, i < n ∧ ¬ (i : Int) ∈ o
  · exact hx
  · have := all_in n o (fun i hi => by
      by_cases hm : (i : Int) ∈ o
      · exact hm
      · exact absurd ⟨i, hi, hm⟩ hx)
    omega
theorem full_in {n : Nat} {o : List Int} (hd : o.Nodup) (h : ∀ x ∈ o, 0 ≤ x ∧ x < (n : Int)) (hl : o.length = n) (i : Nat) (hi : i < n) : (i : Int) ∈ o := by
  by_cases hm : (i : Int) ∈ o
  · exact hm
  · have := pig n ((i : Int) :: o) (List.nodup_cons.2 ⟨hm, hd⟩) (fun x hx => by
      rcases List.mem_cons.1 hx with rfl | hx
      · omega
      · exact h x hx)
    simp only [List.length_cons] at this
    omega

/-! ### Costs -/
def cst (l : List S31) (w : List Int) (a b : Nat) : Int := dst (rd_T31 l (a : Int)) (rd_T31 l (b : Int)) + rd w (a : Int) + rd w (b : Int)
theorem cst_sym (l : List S31) (w : List Int) (a b : Nat) : cst l w a b = cst l w b a := by unfold cst; rw [dst_symm]; omega
structure Good (l : List S31) (w : List Int) : Prop where
  v : l.all okp = true
  n0 : 1 ≤ l.length
  n1 : l.length ≤ 200
  wl : w.length = l.length
  wb : ∀ x ∈ w, -20000000 ≤ x ∧ x ≤ 20000000
theorem Good.at {l : List S31} {w : List Int} (h : Good l w) (i : Int) (h0 : 0 ≤ i) (h1 : i < (l.length : Int)) : -20000000 ≤ rd w i ∧ rd w i ≤ 20000000 := h.wb _ (rd_mem h0 (by rw [h.wl]; exact h1))
theorem Good.cst {l : List S31} {w : List Int} (h : Good l w) {a b : Nat} (ha : a < l.length) (hb : b < l.length) : -60000000 ≤ cst l w a b ∧ cst l w a b ≤ 60000000 := by
  have h1 := h.at (a : Int) (by omega) (by omega)
  have h2 := h.at (b : Int) (by omega) (by omega)
  have h3 := dst_nonneg (rd_T31 l (a : Int)) (rd_T31 l (b : Int))
  have h4 := dst_le (ok_at h.v (a : Int) (by omega) (by omega)) (ok_at h.v (b : Int) (by omega) (by omega))
  unfold B.cst
  omega
theorem Good.wrap {l : List S31} {w : List Int} (h : Good l w) {a b : Nat} (ha : a < l.length) (hb : b < l.length) : wrap64 (wrap64 (dst (rd_T31 l (a : Int)) (rd_T31 l (b : Int)) + rd w (a : Int)) + rd w (b : Int)) = B.cst l w a b := by
  have h1 := h.at (a : Int) (by omega) (by omega)
  have h2 := h.at (b : Int) (by omega) (by omega)
  have h3 := dst_nonneg (rd_T31 l (a : Int)) (rd_T31 l (b : Int))
  have h4 := dst_le (ok_at h.v (a : Int) (by omega) (by omega)) (ok_at h.v (b : Int) (by omega) (by omega))
  rw [wrap_mid (dst _ _ + _) (by omega) (by omega), wrap_mid _ (by omega) (by omega)]
  rfl

/-! ### The reference's tree -/
/-- What is known when some pairs have been looked at. -/
def Cand (l : List S31) (w : List Int) (ins : List Int) (Pr : Nat → Nat → Prop) (v m : Int) : Prop :=
  (v = -1 ∧ ∀ a b, Pr a b → (b : Int) ∈ ins) ∨
  (∃ u b : Nat, v = (b : Int) ∧ (u : Int) ∈ ins ∧ u < l.length ∧ ¬ (b : Int) ∈ ins ∧ b < l.length ∧ m = cst l w u b ∧ ∀ a b', Pr a b' → ¬ (b' : Int) ∈ ins → m ≤ cst l w a b')
theorem Cand.mono {l : List S31} {w : List Int} {ins : List Int} {Pr Pr' : Nat → Nat → Prop} {v m : Int} (h : Cand l w ins Pr v m) (hp : ∀ a b, Pr' a b → Pr a b) : Cand l w ins Pr' v m := by
  rcases h with ⟨h1, h2⟩ | ⟨u, b, h1, h2, h3, h4, h5, h6, h7⟩
  · exact .inl ⟨h1, fun a b h => h2 a b (hp a b h)⟩
  · exact .inr ⟨u, b, h1, h2, h3, h4, h5, h6, fun a b' h => h7 a b' (hp a b' h)⟩
theorem tree_l2 {l : List S31} {w : List Int} (hg : Good l w) (acc : Int) (ins : List Int) (hil : ins.length ≤ 1000) (i a : Nat) (hi : i < ins.length) (ha : rd ins (i : Int) = (a : Int)) (hal : a < l.length) (hai : (a : Int) ∈ ins) (Pr : Nat → Nat → Prop) (Post : Int → Prop)
    (hk : ∀ v m, Cand l w ins (fun a' b' => Pr a' b' ∨ (a' = a ∧ b' < l.length)) v m → EvP (fun k => swarfref38_tree.l1 k l w acc ins v m ((i + 1 : Nat) : Int)) Post) (d : Nat) :
    ∀ (j : Nat) (v m : Int), j + d = l.length → Cand l w ins (fun a' b' => Pr a' b' ∨ (a' = a ∧ b' < j)) v m → EvP (fun k => swarfref38_tree.l2 k l w acc ins v m (i : Int) (j : Int)) Post := by
  induction d with
  | zero =>
    intro j v m hj hc
    have hwi : wrap64 ((i : Int) + 1) = ((i + 1 : Nat) : Int) := by rw [wrap_mid _ (by omega) (by omega)]; omega
    refine EvP.step (fun k => ?_) (hk v m (hc.mono (fun a' b' h => h.imp_right (fun h => ⟨h.1, by omega⟩))))
    simp only [swarfref38_tree.l2]
    rw [if_neg (by omega), hwi]
  | succ d ih =>
    intro j v m hj hc
    have n1 := hg.n1
    have hwj : wrap64 ((j : Int) + 1) = ((j + 1 : Nat) : Int) := by rw [wrap_mid _ (by omega) (by omega)]; omega
    have ka := ok_at hg.v (a : Int) (by omega) (by omega)
    have kj := ok_at hg.v (j : Int) (by omega) (by omega)
    have wl := hg.wl
    have step : ∀ v' m', Cand l w ins (fun a' b' => Pr a' b' ∨ (a' = a ∧ b' < j + 1)) v' m' → EvP (fun k => swarfref38_tree.l2 k l w acc ins v' m' (i : Int) (wrap64 ((j : Int) + 1))) Post := by
      intro v' m' hc'
      rw [hwj]
      exact ih (j + 1) v' m' (by omega) hc'
    refine EvP.step (f := fun k => (swarfref38_has.f k ins (j : Int)).bind fun t => if t = true then swarfref38_tree.l2 k l w acc ins v m (i : Int) (wrap64 ((j : Int) + 1)) else (if v < 0 then swarfref38_tree.l2 k l w acc ins (j : Int) (cst l w a j) (i : Int) (wrap64 ((j : Int) + 1)) else (if cst l w a j < m then swarfref38_tree.l2 k l w acc ins (j : Int) (cst l w a j) (i : Int) (wrap64 ((j : Int) + 1)) else swarfref38_tree.l2 k l w acc ins v m (i : Int) (wrap64 ((j : Int) + 1))))) (fun k => ?_) ?_
    · simp only [swarfref38_tree.l2]
      rw [if_pos (by omega), if_pos (by omega), if_pos (by omega), ha, if_pos (by omega), if_pos (by omega), if_pos (by omega), ref_dist_eq ka kj]
      simp only [Option.bind_some]
      rw [if_pos (by omega), if_pos (by omega), hg.wrap hal (by omega)]
    · refine EvP.bind (has_ev ins hil (j : Int)) ?_
      by_cases hin : (j : Int) ∈ ins
      · simp only [decide_eq_true hin, if_true]
        refine step v m ?_
        rcases hc with ⟨h1, h2⟩ | ⟨u, b, h1, h2, h3, h4, h5, h6, h7⟩
        · refine .inl ⟨h1, fun a' b' h => ?_⟩
          rcases h with h | ⟨rfl, h⟩
          · exact h2 _ _ (.inl h)
          · by_cases hbj : b' = j
            · rw [hbj]; exact hin
            · exact h2 _ _ (.inr ⟨rfl, by omega⟩)
        · refine .inr ⟨u, b, h1, h2, h3, h4, h5, h6, fun a' b' h hn => ?_⟩
          rcases h with h | ⟨rfl, h⟩
          · exact h7 _ _ (.inl h) hn
          · by_cases hbj : b' = j
            · exact absurd (hbj ▸ hin) hn
            · exact h7 _ _ (.inr ⟨rfl, by omega⟩) hn
      · simp only [decide_eq_false hin, Bool.false_eq_true, if_false]
        by_cases hv : v < 0
        · simp only [if_pos hv]
          refine step _ _ (.inr ⟨a, j, rfl, hai, hal, hin, by omega, rfl, fun a' b' h hn => ?_⟩)
          rcases hc with ⟨h1, h2⟩ | ⟨u, b, h1, _⟩
          · rcases h with h | ⟨rfl, h⟩
            · exact absurd (h2 _ _ (.inl h)) hn
            · by_cases hbj : b' = j
              · rw [hbj]; exact Int.le_refl _
              · exact absurd (h2 _ _ (.inr ⟨rfl, by omega⟩)) hn
          · omega
        · simp only [if_neg hv]
          rcases hc with ⟨h1, h2⟩ | ⟨u, b, h1, h2, h3, h4, h5, h6, h7⟩
          · omega
          · by_cases hlt : cst l w a j < m
            · simp only [if_pos hlt]
              refine step _ _ (.inr ⟨a, j, rfl, hai, hal, hin, by omega, rfl, fun a' b' h hn => ?_⟩)
              rcases h with h | ⟨rfl, h⟩
              · have := h7 _ _ (.inl h) hn; omega
              · by_cases hbj : b' = j
                · rw [hbj]; exact Int.le_refl _
                · have := h7 _ _ (.inr ⟨rfl, (by omega : b' < j)⟩) hn; omega
            · simp only [if_neg hlt]
              refine step _ _ (.inr ⟨u, b, h1, h2, h3, h4, h5, h6, fun a' b' h hn => ?_⟩)
              rcases h with h | ⟨rfl, h⟩
              · exact h7 _ _ (.inl h) hn
              · by_cases hbj : b' = j
                · rw [hbj]; omega
                · exact h7 _ _ (.inr ⟨rfl, by omega⟩) hn
theorem tree_l1 {l : List S31} {w : List Int} (hg : Good l w) (acc : Int) (ins : List Int) (hil : ins.length < l.length) (hi0 : 1 ≤ ins.length) (hin : ∀ x ∈ ins, 0 ≤ x ∧ x < (l.length : Int)) (ha0 : -60000000 * 1000 ≤ acc) (ha1 : acc ≤ 60000000 * 1000) (Post : Int → Prop)
    (hk : ∀ u b : Nat, (u : Int) ∈ ins → u < l.length → ¬ (b : Int) ∈ ins → b < l.length → (∀ a b' : Nat, (a : Int) ∈ ins → b' < l.length → ¬ (b' : Int) ∈ ins → cst l w u b ≤ cst l w a b') → EvP (fun k => swarfref38_tree.l0 k l w (acc + cst l w u b) (ins ++ [(b : Int)])) Post) (d : Nat) :
    ∀ (i : Nat) (v m : Int), i + d = ins.length → Cand l w ins (fun a' b' => (∃ i', i' < i ∧ rd ins (i' : Int) = (a' : Int)) ∧ b' < l.length) v m → EvP (fun k => swarfref38_tree.l1 k l w acc ins v m (i : Int)) Post := by
  have n1 := hg.n1
  induction d with
  | zero =>
    intro i v m hj hc
    rcases hc with ⟨h1, h2⟩ | ⟨u, b, h1, h2, h3, h4, h5, h6, h7⟩
    · obtain ⟨x, hx, hxn⟩ := some_out hil
      have h0 := hin _ (rd_mem (o := ins) (i := 0) (by omega) (by omega))
      exact absurd (h2 (rd ins 0).toNat x ⟨⟨0, by omega, by show rd ins 0 = _; omega⟩, hx⟩) hxn
    · have hb := hg.cst h3 h5
      refine EvP.step (fun k => ?_) (hk u b h2 h3 h4 h5 (fun a b' haa hb' hn => ?_))
      · simp only [swarfref38_tree.l1]
        rw [if_neg (by omega), if_pos (by omega), h1, h6, wrap_mid _ (by omega) (by omega)]
      · rw [← h6]
        obtain ⟨i', hi', he⟩ := List.getElem_of_mem haa
        refine h7 a b' ⟨⟨i', by omega, ?_⟩, hb'⟩ hn
        rw [← he]
        unfold rd
        simp [List.getD, hi']
  | succ d ih =>
    intro i v m hj hc
    have hr := hin _ (rd_mem (o := ins) (i := (i : Int)) (by omega) (by omega))
    have hm := rd_mem (o := ins) (i := (i : Int)) (by omega) (by omega)
    obtain ⟨a, ha⟩ : ∃ a : Nat, rd ins (i : Int) = (a : Int) := ⟨(rd ins (i : Int)).toNat, by omega⟩
    rw [ha] at hr hm
    refine EvP.step (f := fun k => swarfref38_tree.l2 k l w acc ins v m (i : Int) ((0 : Nat) : Int)) (fun k => ?_) ?_
    · simp only [swarfref38_tree.l1]
      rw [if_pos (by omega)]
      rfl
    · refine tree_l2 hg acc ins (by omega) i a (by omega) ha (by omega) hm (fun a' b' => (∃ i', i' < i ∧ rd ins (i' : Int) = (a' : Int)) ∧ b' < l.length) Post (fun v' m' hc' => ?_) l.length 0 v m (by omega) ?_
      · refine ih (i + 1) v' m' (by omega) (hc'.mono (fun a' b' h => ?_))
        obtain ⟨⟨i', h1, h2⟩, h3⟩ := h
        by_cases he : i' = i
        · right
          rw [he, ha] at h2
          exact ⟨by omega, h3⟩
        · exact .inl ⟨⟨i', by omega, h2⟩, h3⟩
      · exact hc.mono (fun a' b' h => h.elim id (fun h => absurd h.2 (by omega)))
theorem tree_l0 {l : List S31} {w : List Int} (hg : Good l w) (d : Nat) : ∀ (acc : Int) (ins : List Int), ins.length + d = l.length → 1 ≤ ins.length → ins.Nodup → (∀ x ∈ ins, 0 ≤ x ∧ x < (l.length : Int)) → -60000000 * (ins.length : Int) ≤ acc → acc ≤ 60000000 * (ins.length : Int) →
    EvP (fun k => swarfref38_tree.l0 k l w acc ins) (fun r => ∃ t, Run (cst l w) l.length (fun x => (x : Int) ∈ ins) d t ∧ r = acc + t) := by
  have n1 := hg.n1
  induction d with
  | zero =>
    intro acc ins hl h0 hd hin _ _
    refine EvP.stop acc (fun k => ?_) ⟨0, Run.nil (fun x hx => full_in hd hin (by omega) x hx), by omega⟩
    simp only [swarfref38_tree.l0]
    rw [if_neg (by omega)]
  | succ d ih =>
    intro acc ins hl h0 hd hin ha0 ha1
    refine EvP.step (f := fun k => swarfref38_tree.l1 k l w acc ins (-1) 0 ((0 : Nat) : Int)) (fun k => ?_) ?_
    · simp only [swarfref38_tree.l0]
      rw [if_pos (by omega)]
      rfl
    · refine tree_l1 hg acc ins (by omega) h0 hin (by omega) (by omega) _ (fun u b hu hul hb hbl hmin => ?_) ins.length 0 (-1) 0 (by omega) (.inl ⟨rfl, fun a b h => ?_⟩)
      · have hc := hg.cst hul hbl
        obtain ⟨r, hr, t, ht, he⟩ := ih (acc + cst l w u b) (ins ++ [(b : Int)]) (by simp; omega) (by simp) (by
            rw [List.nodup_append]
            refine ⟨hd, by simp, fun x hx y hy => ?_⟩
            rw [List.mem_singleton] at hy
            rintro rfl
            exact hb (hy ▸ hx)) (fun x hx => by
            rcases List.mem_append.1 hx with hx | hx
            · exact hin x hx
            · rw [List.mem_singleton] at hx; omega) (by simp; omega) (by simp; omega)
        refine ⟨r, hr, cst l w u b + t, ?_, by omega⟩
        have hset : (fun x : Nat => (x : Int) ∈ ins ++ [(b : Int)]) = (fun x : Nat => (x : Int) ∈ ins ∨ x = b) := by
          funext x
          rw [List.mem_append, List.mem_singleton]
          exact propext ⟨fun h => h.imp_right (fun h => by omega), fun h => h.imp_right (fun h => by omega)⟩
        rw [hset] at ht
        exact Run.cons hu hul hb hbl (fun a b' ha _ hb' hbl' => hmin a b' ha hbl' hb') ht
      · obtain ⟨⟨i', h1, _⟩, _⟩ := h
        omega
/-- The sum of the reference's tree is that of a run. -/
theorem tree_ev {l : List S31} {w : List Int} (hg : Good l w) : EvP (fun k => swarfref38_tree.f k l w) (fun r => Run (cst l w) l.length (fun x => (x : Int) ∈ [(0 : Int)]) (l.length - 1) r) := by
  have n0 := hg.n0
  unfold swarfref38_tree.f
  obtain ⟨r, hr, t, ht, he⟩ := tree_l0 hg (l.length - 1) 0 [0] (by simp; omega) (by simp) (by simp) (fun x hx => by rw [List.mem_singleton] at hx; omega) (by simp) (by simp)
  refine ⟨r, hr, ?_⟩
  rw [he, Int.zero_add]
  exact ht
end Go.Proofs.Ytohjocajaanhaaa.B

/- What the program's span comes to: a run that always adds the cheapest edge. Plain numbers and lists. -/

namespace Go.Proofs.Ytohjocajaanhaaa.B
open Go.RowKit Go.Proofs.Ytohjocajaanhaaa.P Go.Proofs.YtohjocajaanhaaaW.PrintWords Go.Proofs.YtohjocajaanhaaaW.PrintLast Go.Proofs.YtohjocajaanhaaaW.PrintMore Go.Proofs.Ytohjocajaanhaaa.Mst
set_option linter.unusedVariables false
set_option linter.unusedSimpArgs false

theorem rd_set (s : List Int) (x y v : Int) (h0 : 0 ≤ x) (h1 : x < (s.length : Int)) (hy : 0 ≤ y) : rd (s.set x.toNat v) y = if x = y then v else rd s y := by
  unfold rd
  rw [List.getD_eq_getElem?_getD, List.getD_eq_getElem?_getD, List.getElem?_set]
  by_cases h : x = y
  · subst h; rw [if_pos rfl, if_pos (by omega), if_pos rfl]; rfl
  · rw [if_neg (by omega), if_neg h]
/-- What is known of one number's cost: it is the least to the set S. -/
def Least (l : List S31) (w : List Int) (S : Nat → Prop) (x8 : List Int) (b : Nat) : Prop :=
  (∃ u, S u ∧ u < l.length ∧ rd x8 (b : Int) = cst l w u b) ∧ ∀ u, S u → u < l.length → rd x8 (b : Int) ≤ cst l w u b
/-- The state of the walk: sizes, marks, and where each number came from. -/
structure Marks (l : List S31) (ins : List Int) (x6 : List Int) (x7 : List Bool) (x8 x9 : List Int) : Prop where
  l6 : x6.length = l.length
  l7 : x7.length = l.length
  l8 : x8.length = l.length
  l9 : x9.length = l.length
  m7 : ∀ b : Nat, b < l.length → (rdOf false x7 (b : Int) = true ↔ (b : Int) ∈ ins)
  m9 : ∀ b : Nat, b < l.length → 0 ≤ rd x9 (b : Int) ∧ rd x9 (b : Int) < (l.length : Int)
def insS (ins : List Int) : Nat → Prop := fun x => (x : Int) ∈ ins

theorem span_l3 {l : List S31} {w : List Int} (hg : Good l w) (ins : List Int) (v : Nat) (hv : v < l.length) (acc : Int) (r : Nat) (hr : r < 200) (Post : Int × List Int → Prop)
    (hk : ∀ x6 x7 x8 x9, Marks l (ins ++ [(v : Int)]) x6 x7 x8 x9 → (∀ b, b < l.length → ¬ insS (ins ++ [(v : Int)]) b → Least l w (insS (ins ++ [(v : Int)])) x8 b) → EvP (fun k => tour_span.l1 k l w x6 x7 x8 x9 acc (wrap64 ((l.length : Int) - 1)) ((r + 1 : Nat) : Int)) Post) (d : Nat) :
    ∀ (j : Nat) (x6 : List Int) (x7 : List Bool) (x8 x9 : List Int), j + d = l.length → Marks l (ins ++ [(v : Int)]) x6 x7 x8 x9 →
      (∀ b, b < j → ¬ insS (ins ++ [(v : Int)]) b → Least l w (insS (ins ++ [(v : Int)])) x8 b) → (∀ b, j ≤ b → b < l.length → ¬ insS (ins ++ [(v : Int)]) b → Least l w (insS ins) x8 b) →
      EvP (fun k => tour_span.l3 k l w x6 x7 x8 x9 acc (v : Int) (wrap64 ((l.length : Int) - 1)) (r : Int) (l.length : Int) (j : Int)) Post := by
  have n1 := hg.n1
  have wl := hg.wl
  induction d with
  | zero =>
    intro j x6 x7 x8 x9 hj hm h1 h2
    have hw : wrap64 ((r : Int) + 1) = ((r + 1 : Nat) : Int) := by rw [wrap_mid _ (by omega) (by omega)]; omega
    refine EvP.step (fun k => ?_) (hk x6 x7 x8 x9 hm (fun b hb => h1 b (by omega)))
    simp only [tour_span.l3]
    rw [if_neg (by omega), hw]
  | succ d ih =>
    intro j x6 x7 x8 x9 hj hm h1 h2
    have hw : wrap64 ((j : Int) + 1) = ((j + 1 : Nat) : Int) := by rw [wrap_mid _ (by omega) (by omega)]; omega
    have kv := ok_at hg.v (v : Int) (by omega) (by omega)
    have kj := ok_at hg.v (j : Int) (by omega) (by omega)
    obtain ⟨l6, l7, l8, l9, m7, m9⟩ := hm
    have hin : ∀ b, insS (ins ++ [(v : Int)]) b ↔ (insS ins b ∨ b = v) := fun b => by
      unfold insS
      rw [List.mem_append, List.mem_singleton]
      exact ⟨fun h => h.imp_right (fun h => by omega), fun h => h.imp_right (fun h => by omega)⟩
    have pre : ∀ k, tour_span.l3 (k + 1) l w x6 x7 x8 x9 acc (v : Int) (wrap64 ((l.length : Int) - 1)) (r : Int) (l.length : Int) (j : Int) =
        if rdOf false x7 (j : Int) = true then tour_span.l3 k l w x6 x7 x8 x9 acc (v : Int) (wrap64 ((l.length : Int) - 1)) (r : Int) (l.length : Int) ((j + 1 : Nat) : Int)
        else (if cst l w v j < rd x8 (j : Int) then tour_span.l3 k l w x6 x7 (x8.set (j : Int).toNat (cst l w v j)) (x9.set (j : Int).toNat (v : Int)) acc (v : Int) (wrap64 ((l.length : Int) - 1)) (r : Int) (l.length : Int) ((j + 1 : Nat) : Int)
        else tour_span.l3 k l w x6 x7 x8 x9 acc (v : Int) (wrap64 ((l.length : Int) - 1)) (r : Int) (l.length : Int) ((j + 1 : Nat) : Int)) := by
      intro k
      simp only [tour_span.l3]
      rw [if_pos (by omega), if_pos (by omega), if_pos (by omega), if_pos (by omega), if_pos (by omega), dist_eq kv kj]
      simp only [Option.bind_some]
      rw [if_pos (by omega), if_pos (by omega), if_pos (by omega), if_pos (show (j : Int) < (x8.length : Int) by omega), if_pos (show (j : Int) < (x9.length : Int) by omega), hg.wrap hv (by omega), hw]
    by_cases hs : rdOf false x7 (j : Int) = true
    · refine EvP.step (fun k => by rw [pre k, if_pos hs]) (ih (j + 1) x6 x7 x8 x9 (by omega) ⟨l6, l7, l8, l9, m7, m9⟩ (fun b hb hn => ?_) (fun b hb => h2 b (by omega)))
      by_cases hbj : b = j
      · rw [hbj] at hn
        exact absurd ((m7 j (by omega)).1 hs) hn
      · exact h1 b (by omega) hn
    · have hjn : ¬ insS (ins ++ [(v : Int)]) j := fun h => hs ((m7 j (by omega)).2 h)
      obtain ⟨⟨u, hu, hul, hue⟩, hmin⟩ := h2 j (Nat.le_refl _) (by omega) hjn
      by_cases hlt : cst l w v j < rd x8 (j : Int)
      · refine EvP.step (fun k => by rw [pre k, if_neg hs, if_pos hlt]) (ih (j + 1) x6 x7 _ _ (by omega) ⟨l6, l7, by simp [l8], by simp [l9], m7, fun b hb => ?_⟩ (fun b hb hn => ?_) (fun b hb hbl hn => ?_))
        · rw [rd_set x9 (j : Int) (b : Int) _ (by omega) (by omega) (by omega)]
          split
          · omega
          · exact m9 b hb
        · by_cases hbj : b = j
          · rw [hbj]
            unfold Least
            rw [rd_set x8 (j : Int) (j : Int) _ (by omega) (by omega) (by omega), if_pos rfl]
            refine ⟨⟨v, (hin v).2 (.inr rfl), hv, rfl⟩, fun u' hu' hul' => ?_⟩
            rcases (hin u').1 hu' with h | rfl
            · have := hmin u' h hul'; omega
            · exact Int.le_refl _
          · have := h1 b (by omega) hn
            unfold Least at this ⊢
            rw [rd_set x8 (j : Int) (b : Int) _ (by omega) (by omega) (by omega), if_neg (by omega)]
            exact this
        · have := h2 b (by omega) hbl hn
          unfold Least at this ⊢
          rw [rd_set x8 (j : Int) (b : Int) _ (by omega) (by omega) (by omega), if_neg (by omega)]
          exact this
      · refine EvP.step (fun k => by rw [pre k, if_neg hs, if_neg hlt]) (ih (j + 1) x6 x7 x8 x9 (by omega) ⟨l6, l7, l8, l9, m7, m9⟩ (fun b hb hn => ?_) (fun b hb => h2 b (by omega)))
        by_cases hbj : b = j
        · rw [hbj]
          refine ⟨⟨u, (hin u).2 (.inl hu), hul, hue⟩, fun u' hu' hul' => ?_⟩
          rcases (hin u').1 hu' with h | rfl
          · exact hmin u' h hul'
          · omega
        · exact h1 b (by omega) hn
/-- What is known when the numbers below j have been looked at. -/
def Next (l : List S31) (ins : List Int) (x8 : List Int) (j : Nat) (v : Int) : Prop :=
  (v = -1 ∧ ∀ b, b < j → insS ins b) ∨ (∃ b : Nat, v = (b : Int) ∧ b < l.length ∧ ¬ insS ins b ∧ ∀ b', b' < j → ¬ insS ins b' → rd x8 (b : Int) ≤ rd x8 (b' : Int))
theorem span_l2 {l : List S31} {w : List Int} (hg : Good l w) (ins : List Int) (hil : ins.length < l.length) (acc : Int) (ha0 : -60000000 * 1000 ≤ acc) (ha1 : acc ≤ 60000000 * 1000) (r : Nat) (x6 : List Int) (x7 : List Bool) (x8 x9 : List Int) (hm : Marks l ins x6 x7 x8 x9) (hle : ∀ b, b < l.length → ¬ insS ins b → Least l w (insS ins) x8 b) (Post : Int × List Int → Prop)
    (hk : ∀ (v : Nat) (y6 : List Int) (y7 : List Bool), v < l.length → ¬ insS ins v → (∀ b', b' < l.length → ¬ insS ins b' → rd x8 (v : Int) ≤ rd x8 (b' : Int)) → Marks l (ins ++ [(v : Int)]) y6 y7 x8 x9 → EvP (fun k => tour_span.l3 k l w y6 y7 x8 x9 (acc + rd x8 (v : Int)) (v : Int) (wrap64 ((l.length : Int) - 1)) (r : Int) (l.length : Int) 0) Post) (d : Nat) :
    ∀ (j : Nat) (v : Int), j + d = l.length → Next l ins x8 j v → EvP (fun k => tour_span.l2 k l w x6 x7 x8 x9 acc v (wrap64 ((l.length : Int) - 1)) (r : Int) (l.length : Int) (j : Int)) Post := by
  have n1 := hg.n1
  obtain ⟨l6, l7, l8, l9, m7, m9⟩ := hm
  induction d with
  | zero =>
    intro j v hj hv
    rcases hv with ⟨h1, h2⟩ | ⟨b, h1, h2, h3, h4⟩
    · obtain ⟨x, hx, hxn⟩ := some_out hil
      exact absurd (h2 x (by omega)) hxn
    · obtain ⟨⟨u, hu, hul, hue⟩, _⟩ := hle b h2 h3
      have hc := hg.cst hul h2
      have h9 := m9 b h2
      refine EvP.step (f := fun k => tour_span.l3 k l w ((x6.set (b : Int).toNat (wrap64 (rd x6 (b : Int) + 1))).set (rd x9 (b : Int)).toNat (wrap64 (rd (x6.set (b : Int).toNat (wrap64 (rd x6 (b : Int) + 1))) (rd x9 (b : Int)) + 1))) (x7.set (b : Int).toNat true) x8 x9 (acc + rd x8 (b : Int)) (b : Int) (wrap64 ((l.length : Int) - 1)) (r : Int) (l.length : Int) 0) (fun k => ?_) ?_
      · simp only [tour_span.l2]
        rw [if_neg (by omega), h1, if_pos (by omega), if_pos (by omega), if_pos (by omega), if_pos (by omega)]
        simp only [Option.bind_some]
        rw [if_pos (by omega), if_pos (by omega), if_pos (by omega), wrap_mid (acc + rd x8 (b : Int)) (by omega) (by omega)]
      · refine hk b _ _ h2 h3 (fun b' hb' => h4 b' (by omega)) ⟨by simp [l6], by simp [l7], l8, l9, fun b' hb' => ?_, m9⟩
        rw [rdOf_set x7 (b : Int) (b' : Int) (by omega) (by omega) (by omega), List.mem_append, List.mem_singleton]
        by_cases he : (b : Int) = (b' : Int)
        · rw [if_pos he]; exact ⟨fun _ => .inr he.symm, fun _ => rfl⟩
        · rw [if_neg he, m7 b' hb']
          exact ⟨fun h => .inl h, fun h => h.resolve_right (fun h => he h.symm)⟩
  | succ d ih =>
    intro j v hj hv
    have hw : wrap64 ((j : Int) + 1) = ((j + 1 : Nat) : Int) := by rw [wrap_mid _ (by omega) (by omega)]; omega
    by_cases hs : rdOf false x7 (j : Int) = true
    · have hjin := (m7 j (by omega)).1 hs
      refine EvP.step (fun k => ?_) (ih (j + 1) v (by omega) ?_)
      · simp only [tour_span.l2]
        rw [if_pos (by omega), if_pos (by omega), if_pos (by omega), if_pos hs, hw]
      · rcases hv with ⟨h1, h2⟩ | ⟨b, h1, h2, h3, h4⟩
        · refine .inl ⟨h1, fun b hb => ?_⟩
          by_cases hbj : b = j
          · rw [hbj]; exact hjin
          · exact h2 b (by omega)
        · refine .inr ⟨b, h1, h2, h3, fun b' hb' hn => ?_⟩
          by_cases hbj : b' = j
          · exact absurd (hbj ▸ hjin) hn
          · exact h4 b' (by omega) hn
    · have hjn : ¬ insS ins j := fun h => hs ((m7 j (by omega)).2 h)
      by_cases hneg : v < 0
      · refine EvP.step (fun k => ?_) (ih (j + 1) (j : Int) (by omega) (.inr ⟨j, rfl, by omega, hjn, fun b' hb' hn => ?_⟩))
        · simp only [tour_span.l2]
          rw [if_pos (by omega), if_pos (by omega), if_pos (by omega), if_neg hs, if_pos hneg, hw]
        · rcases hv with ⟨h1, h2⟩ | ⟨b, h1, _⟩
          · by_cases hbj : b' = j
            · rw [hbj]; exact Int.le_refl _
            · exact absurd (h2 b' (by omega)) hn
          · omega
      · rcases hv with ⟨h1, h2⟩ | ⟨b, h1, h2, h3, h4⟩
        · omega
        · by_cases hlt : rd x8 (j : Int) < rd x8 v
          · refine EvP.step (fun k => ?_) (ih (j + 1) (j : Int) (by omega) (.inr ⟨j, rfl, by omega, hjn, fun b' hb' hn => ?_⟩))
            · simp only [tour_span.l2]
              rw [if_pos (by omega), if_pos (by omega), if_pos (by omega), if_neg hs, if_neg hneg, if_pos (by omega), if_pos (by omega), if_pos (by omega), if_pos hlt, hw]
            · by_cases hbj : b' = j
              · rw [hbj]; exact Int.le_refl _
              · have := h4 b' (by omega) hn
                rw [h1] at hlt
                omega
          · refine EvP.step (fun k => ?_) (ih (j + 1) v (by omega) (.inr ⟨b, h1, h2, h3, fun b' hb' hn => ?_⟩))
            · simp only [tour_span.l2]
              rw [if_pos (by omega), if_pos (by omega), if_pos (by omega), if_neg hs, if_neg hneg, if_pos (by omega), if_pos (by omega), if_pos (by omega), if_neg hlt, hw]
            · by_cases hbj : b' = j
              · rw [hbj, ← h1]; omega
              · exact h4 b' (by omega) hn
theorem span_l1 {l : List S31} {w : List Int} (hg : Good l w) (d : Nat) : ∀ (r : Nat) (acc : Int) (ins : List Int) (x6 : List Int) (x7 : List Bool) (x8 x9 : List Int), ins.length = r + 1 → r + 1 + d = l.length → ins.Nodup → (∀ x ∈ ins, 0 ≤ x ∧ x < (l.length : Int)) → Marks l ins x6 x7 x8 x9 → (∀ b, b < l.length → ¬ insS ins b → Least l w (insS ins) x8 b) →
    -60000000 * (r : Int) ≤ acc → acc ≤ 60000000 * (r : Int) → EvP (fun k => tour_span.l1 k l w x6 x7 x8 x9 acc (wrap64 ((l.length : Int) - 1)) (r : Int)) (fun q => ∃ t, Run (cst l w) l.length (insS ins) d t ∧ q.1 = acc + t) := by
  have n1 := hg.n1
  have hwn : wrap64 ((l.length : Int) - 1) = (l.length : Int) - 1 := wrap_mid _ (by omega) (by omega)
  induction d with
  | zero =>
    intro r acc ins x6 x7 x8 x9 hl hrd hd hin hm hle ha0 ha1
    refine EvP.stop (acc, x6) (fun k => ?_) ⟨0, Run.nil (fun x hx => full_in hd hin (by omega) x hx), by show acc = acc + 0; omega⟩
    simp only [tour_span.l1]
    rw [if_neg (by omega)]
  | succ d ih =>
    intro r acc ins x6 x7 x8 x9 hl hrd hd hin hm hle ha0 ha1
    refine EvP.step (f := fun k => tour_span.l2 k l w x6 x7 x8 x9 acc (-1) (wrap64 ((l.length : Int) - 1)) (r : Int) (l.length : Int) ((0 : Nat) : Int)) (fun k => ?_) ?_
    · simp only [tour_span.l1]
      rw [if_pos (by omega)]
      rfl
    · refine span_l2 hg ins (by omega) acc (by omega) (by omega) r x6 x7 x8 x9 hm hle _ (fun v y6 y7 hv hvn hmin hm' => ?_) l.length 0 (-1) (by omega) (.inl ⟨rfl, fun b hb => by omega⟩)
      obtain ⟨⟨u, hu, hul, hue⟩, hmu⟩ := hle v hv hvn
      have hc := hg.cst hul hv
      have hset : insS (ins ++ [(v : Int)]) = (fun x : Nat => insS ins x ∨ x = v) := by
        funext x
        unfold insS
        rw [List.mem_append, List.mem_singleton]
        exact propext ⟨fun h => h.imp_right (fun h => by omega), fun h => h.imp_right (fun h => by omega)⟩
      refine span_l3 hg ins v hv (acc + rd x8 (v : Int)) r (by omega) _ (fun z6 z7 z8 z9 hz hzl => ?_) l.length 0 y6 y7 x8 x9 (by omega) hm' (fun b hb => by omega) (fun b _ hbl hn => hle b hbl (fun h => hn (by rw [hset]; exact .inl h)))
      obtain ⟨q, hq, t, ht, he⟩ := ih (r + 1) (acc + rd x8 (v : Int)) (ins ++ [(v : Int)]) z6 z7 z8 z9 (by simp; omega) (by omega) (by
          rw [List.nodup_append]
          refine ⟨hd, by simp, fun x hx y hy => ?_⟩
          rw [List.mem_singleton] at hy
          rintro rfl
          exact hvn (show insS ins v by unfold insS; rw [← hy]; exact hx)) (fun x hx => by
          rcases List.mem_append.1 hx with hx | hx
          · exact hin x hx
          · rw [List.mem_singleton] at hx; omega) hz hzl (by omega) (by omega)
      rw [hset] at ht
      refine ⟨q, hq, cst l w u v + t, ?_, by omega⟩
      refine Run.cons hu hul hvn hv (fun a b' ha hal hb' hbl' => ?_) ht
      obtain ⟨_, hmb⟩ := hle b' hbl' hb'
      have h1 := hmb a ha hal
      have h2 := hmin b' hbl' hb'
      omega
theorem span_l0 {l : List S31} {w : List Int} (hg : Good l w) (x6 : List Int) (x7 : List Bool) (x9 : List Int) (Post : Int × List Int → Prop)
    (hk : ∀ x8 : List Int, x8.length = l.length → (∀ b : Nat, b < l.length → rd x8 (b : Int) = cst l w 0 b) → EvP (fun k => tour_span.l1 k l w x6 x7 x8 x9 0 (wrap64 ((l.length : Int) - 1)) 0) Post) (d : Nat) :
    ∀ (j : Nat) (x8 : List Int), j + d = l.length → x8.length = l.length → (∀ b : Nat, b < j → rd x8 (b : Int) = cst l w 0 b) → EvP (fun k => tour_span.l0 k l w x6 x7 x8 x9 (l.length : Int) (j : Int)) Post := by
  have n0 := hg.n0
  have n1 := hg.n1
  have wl := hg.wl
  induction d with
  | zero =>
    intro j x8 hj h8 hb
    refine EvP.step (fun k => ?_) (hk x8 h8 (fun b hbl => hb b (by omega)))
    simp only [tour_span.l0]
    rw [if_neg (by omega)]
  | succ d ih =>
    intro j x8 hj h8 hb
    have hw : wrap64 ((j : Int) + 1) = ((j + 1 : Nat) : Int) := by rw [wrap_mid _ (by omega) (by omega)]; omega
    have k0 := ok_at hg.v 0 (by omega) (by omega)
    have kj := ok_at hg.v (j : Int) (by omega) (by omega)
    have hwr := hg.wrap (a := 0) (b := j) (by omega) (by omega)
    refine EvP.step (fun k => ?_) (ih (j + 1) (x8.set (j : Int).toNat (cst l w 0 j)) (by omega) (by simp [h8]) (fun b hbj => ?_))
    · simp only [tour_span.l0]
      rw [if_pos (by omega), if_pos (by omega), if_pos (by omega), if_pos (by omega), dist_eq k0 kj]
      simp only [Option.bind_some]
      rw [if_pos (by omega), if_pos (by omega), if_pos (by omega), hw]
      have e : wrap64 (wrap64 (dst (rd_T31 l 0) (rd_T31 l (j : Int)) + rd w 0) + rd w (j : Int)) = cst l w 0 j := hwr
      rw [e]
    · rw [rd_set x8 (j : Int) (b : Int) _ (by omega) (by omega) (by omega)]
      by_cases he : (j : Int) = (b : Int)
      · rw [if_pos he, show b = j by omega]
      · rw [if_neg he]
        exact hb b (by omega)
/-- The sum of span is that of a run. -/
theorem span_ev {l : List S31} {w : List Int} (hg : Good l w) : EvP (fun k => tour_span.f k l w) (fun q => Run (cst l w) l.length (fun x => (x : Int) ∈ [(0 : Int)]) (l.length - 1) q.1) := by
  have n0 := hg.n0
  have n1 := hg.n1
  have hlen : ((l.length : Int)).toNat = l.length := by omega
  have key : EvP (fun k => tour_span.l0 k l w (List.replicate l.length 0) ((List.replicate l.length false).set (0 : Int).toNat true) (List.replicate l.length 0) (List.replicate l.length 0) (l.length : Int) ((0 : Nat) : Int)) (fun q => Run (cst l w) l.length (fun x => (x : Int) ∈ [(0 : Int)]) (l.length - 1) q.1) := by
    refine span_l0 hg _ _ _ _ (fun x8 h8 hc => ?_) l.length 0 (List.replicate l.length 0) (by omega) (by simp) (fun b hb => by omega)
    obtain ⟨q, hq, t, ht, he⟩ := span_l1 hg (l.length - 1) 0 0 [0] (List.replicate l.length 0) ((List.replicate l.length false).set (0 : Int).toNat true) x8 (List.replicate l.length 0) rfl (by omega) (by simp) (fun x hx => by rw [List.mem_singleton] at hx; omega)
      ⟨by simp, by simp, h8, by simp, fun b hb => by
        rw [rdOf_set _ 0 (b : Int) (by omega) (by simp; omega) (by omega), List.mem_singleton]
        by_cases h0 : (0 : Int) = (b : Int)
        · rw [if_pos h0]; exact ⟨fun _ => h0.symm, fun _ => rfl⟩
        · rw [if_neg h0]
          have : rdOf false (List.replicate l.length false) (b : Int) = false := by unfold rdOf; simp [List.getD, hb]
          rw [this]
          exact ⟨fun h => (by cases h), fun h => absurd h.symm h0⟩, fun b hb => by
        have : rd (List.replicate l.length 0) (b : Int) = 0 := by unfold rd; simp [List.getD, hb]
        rw [this]; omega⟩ (fun b hb hn => by
        have hS : ∀ u, insS [0] u ↔ u = 0 := fun u => by unfold insS; rw [List.mem_singleton]; omega
        refine ⟨⟨0, (hS 0).2 rfl, by omega, hc b hb⟩, fun u hu hul => ?_⟩
        rw [(hS u).1 hu, hc b hb]
        exact Int.le_refl _) (by omega) (by omega)
    refine ⟨q, hq, ?_⟩
    show Run (cst l w) l.length (insS [0]) (l.length - 1) q.1
    rw [he, Int.zero_add]
    exact ht
  obtain ⟨q, hq, hp⟩ := key
  refine ⟨q, ?_, hp⟩
  unfold tour_span.f
  simp only [if_pos (show 0 ≤ (l.length : Int) by omega), hlen, if_pos (show l.length ≤ 35184372088832 by omega), Option.bind_some, if_neg (show ¬ (l.length : Int) = 0 by omega), if_pos (show l.length ≤ 281474976710656 by omega), List.length_replicate, if_pos (show 0 < (l.length : Int) by omega)]
  exact hq
/-- Both sums are one number. -/
theorem trees {l : List S31} {w : List Int} (hg : Good l w) : ∃ t p, Ev (fun k => tour_span.f k l w) (t, p) ∧ Ev (fun k => swarfref38_tree.f k l w) t ∧ Run (cst l w) l.length (fun x => (x : Int) ∈ [(0 : Int)]) (l.length - 1) t := by
  obtain ⟨⟨t, p⟩, h1, h2⟩ := span_ev hg
  obtain ⟨u, h3, h4⟩ := tree_ev hg
  have : t = u := Run.same (cst_sym l w) h2 h4
  subst this
  exact ⟨t, p, h1, h3, h2⟩
end Go.Proofs.Ytohjocajaanhaaa.B

-- PRINTED by print.py (a twelfth state) out of the translation. Not trusted: Lean checks it.

namespace Go.Proofs.Ytohjocajaanhaaa.P
open Go.RowKit Go.Proofs.YtohjocajaanhaaaW.PrintWords Go.Proofs.YtohjocajaanhaaaW.PrintLast Go.Proofs.YtohjocajaanhaaaW.PrintMore
attribute [local go_sem] max2_int min2_int max_two min_two max_three min_three max_four min_four   -- for this text's walks alone
set_option linter.unusedVariables false
set_option linter.unusedSimpArgs false

/-! ### swarfref38_Bound: function 25 -/
mutual
def swarfref38_Bound.j0 : Nat → List (S31) → List Int → Bool → Option (Int × Int)
  | 0, _, _, _ => none
  | k + 1, x0, x1, x25 => if x25 = true then (some (0, 1)) else (swarfref38_Bound.l0 k x0 x1 0 0)
def swarfref38_Bound.l0 : Nat → List (S31) → List Int → Int → Int → Option (Int × Int)
  | 0, _, _, _, _ => none
  | k + 1, x0, x1, x7, x8 => if x8 < (x1.length : Int) then (if 0 ≤ x8 then (if (rd x1 x8) > 20000000 then (some (0, 11)) else (if (rd x1 x8) < (-20000000) then (some (0, 11)) else (swarfref38_Bound.l0 k x0 x1 (wrap64 (x7 + (rd x1 x8))) (wrap64 (x8 + 1))))) else (none)) else (if (x0.length : Int) = 1 then (some (0, 0)) else (if 1 < (x1.length : Int) then (swarfref38_Bound.l1 k x0 x1 x7 (rd x1 1) 1) else (none)))
def swarfref38_Bound.l1 : Nat → List (S31) → List Int → Int → Int → Int → Option (Int × Int)
  | 0, _, _, _, _, _ => none
  | k + 1, x0, x1, x7, x9, x10 => if x10 < (x1.length : Int) then (if 0 ≤ x10 then (swarfref38_Bound.l1 k x0 x1 x7 (mn x9 (rd x1 x10)) (wrap64 (x10 + 1))) else (none)) else ((swarfref38_tree.f k x0 x1).bind fun t427 => (if 0 < (x1.length : Int) then (some (wrap64 ((wrap64 ((wrap64 (t427 - (wrap64 (2 * x7)))) + (rd x1 0))) + x9), 0)) else (none)))
end
def swarfref38_Bound.f (k : Nat) (l0 : List (S31)) (l1 : List Int) : Option (Int × Int) := (swarfref38_Valid.f k l0 200).bind fun t421 => (if t421 = 0 then (if (l0.length : Int) = 0 then (swarfref38_Bound.j0 k l0 l1 true) else (swarfref38_Bound.j0 k l0 l1 ((l1.length : Int) != (l0.length : Int)))) else (some (0, t421)))
theorem swarfref38_Bound.mono_l : ∀ k, (∀ y0 y1 y2, LeO (swarfref38_Bound.j0 k y0 y1 y2) (swarfref38_Bound.j0 (k + 1) y0 y1 y2)) ∧ (∀ y0 y1 y2 y3, LeO (swarfref38_Bound.l0 k y0 y1 y2 y3) (swarfref38_Bound.l0 (k + 1) y0 y1 y2 y3)) ∧ (∀ y0 y1 y2 y3 y4, LeO (swarfref38_Bound.l1 k y0 y1 y2 y3 y4) (swarfref38_Bound.l1 (k + 1) y0 y1 y2 y3 y4))
  | 0 => ⟨fun _ _ _ r h => by simp [swarfref38_Bound.j0] at h, fun _ _ _ _ r h => by simp [swarfref38_Bound.l0] at h, fun _ _ _ _ _ r h => by simp [swarfref38_Bound.l1] at h⟩
  | k + 1 => by
    obtain ⟨ih0, ih1, ih2⟩ := swarfref38_Bound.mono_l k
    refine ⟨?_, ?_, ?_⟩
    · intro y0 y1 y2
      unfold swarfref38_Bound.j0
      repeat' first
      | (with_reducible exact ih0 _ _ _)
      | (with_reducible exact ih1 _ _ _ _)
      | (with_reducible exact ih2 _ _ _ _ _)
      | (with_reducible exact swarfref38_Valid.mono _ _ _)
      | (with_reducible exact swarfref38_tree.mono _ _ _)
      | (with_reducible exact LeO.refl _)
      | (with_reducible exact LeO.none _)
      | (with_reducible refine LeO.ite ?_ ?_)
      | (with_reducible refine LeO.bind ?_ (fun _ => ?_))
      | exact ih0 _ _ _
      | exact ih1 _ _ _ _
      | exact ih2 _ _ _ _ _
      | exact swarfref38_Valid.mono _ _ _
      | exact swarfref38_tree.mono _ _ _
      | exact LeO.none _
      | refine LeO.ite ?_ ?_
      | refine LeO.bind ?_ (fun _ => ?_)
    · intro y0 y1 y2 y3
      unfold swarfref38_Bound.l0
      repeat' first
      | (with_reducible exact ih0 _ _ _)
      | (with_reducible exact ih1 _ _ _ _)
      | (with_reducible exact ih2 _ _ _ _ _)
      | (with_reducible exact swarfref38_Valid.mono _ _ _)
      | (with_reducible exact swarfref38_tree.mono _ _ _)
      | (with_reducible exact LeO.refl _)
      | (with_reducible exact LeO.none _)
      | (with_reducible refine LeO.ite ?_ ?_)
      | (with_reducible refine LeO.bind ?_ (fun _ => ?_))
      | exact ih0 _ _ _
      | exact ih1 _ _ _ _
      | exact ih2 _ _ _ _ _
      | exact swarfref38_Valid.mono _ _ _
      | exact swarfref38_tree.mono _ _ _
      | exact LeO.none _
      | refine LeO.ite ?_ ?_
      | refine LeO.bind ?_ (fun _ => ?_)
    · intro y0 y1 y2 y3 y4
      unfold swarfref38_Bound.l1
      repeat' first
      | (with_reducible exact ih0 _ _ _)
      | (with_reducible exact ih1 _ _ _ _)
      | (with_reducible exact ih2 _ _ _ _ _)
      | (with_reducible exact swarfref38_Valid.mono _ _ _)
      | (with_reducible exact swarfref38_tree.mono _ _ _)
      | (with_reducible exact LeO.refl _)
      | (with_reducible exact LeO.none _)
      | (with_reducible refine LeO.ite ?_ ?_)
      | (with_reducible refine LeO.bind ?_ (fun _ => ?_))
      | exact ih0 _ _ _
      | exact ih1 _ _ _ _
      | exact ih2 _ _ _ _ _
      | exact swarfref38_Valid.mono _ _ _
      | exact swarfref38_tree.mono _ _ _
      | exact LeO.none _
      | refine LeO.ite ?_ ?_
      | refine LeO.bind ?_ (fun _ => ?_)
theorem swarfref38_Bound.mono : ∀ a0 a1 k, LeO (swarfref38_Bound.f k a0 a1) (swarfref38_Bound.f (k + 1) a0 a1) := by
  intro a0 a1 k
  obtain ⟨ih0, ih1, ih2⟩ := swarfref38_Bound.mono_l k
  unfold swarfref38_Bound.f
  repeat' first
      | (with_reducible exact ih0 _ _ _)
      | (with_reducible exact ih1 _ _ _ _)
      | (with_reducible exact ih2 _ _ _ _ _)
      | (with_reducible exact swarfref38_Valid.mono _ _ _)
      | (with_reducible exact swarfref38_tree.mono _ _ _)
      | (with_reducible exact LeO.refl _)
      | (with_reducible exact LeO.none _)
      | (with_reducible refine LeO.ite ?_ ?_)
      | (with_reducible refine LeO.bind ?_ (fun _ => ?_))
      | exact ih0 _ _ _
      | exact ih1 _ _ _ _
      | exact ih2 _ _ _ _ _
      | exact swarfref38_Valid.mono _ _ _
      | exact swarfref38_tree.mono _ _ _
      | exact LeO.none _
      | refine LeO.ite ?_ ?_
      | refine LeO.bind ?_ (fun _ => ?_)
def swarfref38_Bound.T20 : Bool × List (List Nat × List Nat) := (true, [([], []), ([], []), ([0, 1], [0, 1]), ([], []), ([3], [3]), ([2, 4], [2, 4]), ([], []), ([6], [6]), ([7], [7]), ([5, 8], [5, 8]), ([], []), ([9, 10], [9, 10]), ([11, 2, 0, 1, 2, 3, 4, 5, 6, 7, 8, 9, 10, 11], [11]), ([12, 0, 1, 2, 3, 4, 5, 6, 7, 8, 9, 10, 11, 12], [])])
def swarfref38_Bound.B20 : List Nat := [0, 0, 3, 0, 8, 31, 0, 64, 192, 511, 0, 2047, 4095, 8191]
theorem swarfref38_Bound.tab20 : rtab .any (opsOf Try.f25 20) = swarfref38_Bound.T20 := by kernel_rfl
theorem swarfref38_Bound.bits20 : waitsOk swarfref38_Bound.T20.2 swarfref38_Bound.B20 = true := by kernel_rfl
set_option maxHeartbeats 8000000 in
set_option maxRecDepth 100000 in
theorem swarfref38_Bound.calls (k : Nat) (A0 : Option Addr) (c0 : Nat) (l0 : List (S31)) (A1 : Option Addr) (c1 : Nat) (l1 : List Int) (r1 : Int) (r2 : Int) (w : World) (hr0 : Kd.C k31 w A0 l0.length l0) (hc0 : l0.length ≤ c0) (hr1 : Kd.C (Kd.int .i64) w A1 l1.length l1) (hc1 : l1.length ≤ c1) (h : swarfref38_Bound.f k l0 l1 = some (r1, r2)) :
    Calls Try.prog 25 #[.slice A0 l0.length c0, .slice A1 l1.length c1] w fun e w' => e = .returned (.tuple #[.int .i64 r1, .int .i64 r2]) ∧ Below w.heap.size w w' := by
  have HR0 := Aside0.mk hr0
  have HC0 := Aside0.mk hc0
  clear hr0 hc0
  have HR1 := Aside0.mk hr1
  have HC1 := Aside0.mk hc1
  clear hr1 hc1
  have HB := Aside0.mk (Below.refl w.heap.size w)
  have H : ((swarfref38_Valid.f k l0 200).bind fun t421 => (if t421 = 0 then (if (l0.length : Int) = 0 then (swarfref38_Bound.j0 k l0 l1 true) else (swarfref38_Bound.j0 k l0 l1 ((l1.length : Int) != (l0.length : Int)))) else (some (0, t421)))) = some (r1, r2) := h
  clear h
  replace H := Option.bind_eq_some_iff.mp H
  obtain ⟨t421, A30, H⟩ := H
  replace H : (if t421 = 0 then (if (l0.length : Int) = 0 then (swarfref38_Bound.j0 k l0 l1 true) else (swarfref38_Bound.j0 k l0 l1 ((l1.length : Int) != (l0.length : Int)))) else (some (0, t421))) = some (r1, r2) := H
  have A3 := Aside0.mk A30
  clear A30
  by_cases c4 : t421 = 0
  · rw [if_pos c4] at H
    have c4b0 : (t421 == 0) = true := beq_iff_eq.mpr c4
    have c4b1 : (t421 != 0) = false := bne_eq_false_iff_eq.mpr c4
    clear c4
    have HC5 := Aside0.mk H
    clear H
    go_enter Try.func25, Try.ntmps25
    go_upto_region 4 with (first | ((with_reducible refine gate_callee (f := 31) rfl ?_); refine goesL_ (some 12) rfl rfl Try.func31 (by kernel_rfl) rfl #[.slice A0 l0.length c0, .int .i64 200] rfl (by (try simp only [List.map_toArray, List.map_cons, List.map_nil]); first | done | rfl | (simp only [List.length_drop, List.length_take]; rfl)) ?_; (with_reducible refine (swarfref38_Valid.calls k _ _ l0 200 t421 _ ?side1 ?side2 A3.out).mono ?_); (case side1 => repeat (first | exact HR0.out | (with_reducible refine Kd.C_alloc ?_ _) | (with_reducible refine Kd.C_drewN ?_ _) | (with_reducible refine Kd.C_drew ?_))); (case side2 => exact HC0.out); rintro e w' ⟨rfl, ⟨nd, rfl⟩⟩; refine ⟨_, rfl, ?_⟩))
    (try simp only [Act.put, List.setIfInBounds_toArray, List.set_cons_zero, List.set_cons_succ])
    go_cut [25] (fun v25 wc => ∃ (kq : Nat) (x25_4 : Bool), v25 = .bool x25_4 ∧ Aside0 (swarfref38_Bound.j0 kq l0 l1 x25_4 = some (r1, r2)) ∧ Aside0 (kq ≤ k) ∧ Aside0 (Below w.heap.size w wc))
    case first =>
      have H := HC5.out
      clear HC5
      by_cases c6 : (l0.length : Int) = 0
      · rw [if_pos c6] at H
        have c6b0 : ((l0.length : Int) == 0) = true := beq_iff_eq.mpr c6
        have c6b1 : ((l0.length : Int) != 0) = false := bne_eq_false_iff_eq.mpr c6
        clear c6
        (first | rw [c6b0] | (simp only [i64_w, i32_w]; rw [c6b0]) | skip)
        have H' := Aside0.mk H
        clear H
        go_wp2
        go_meet
        case rel => exact ⟨_, (true), (by first | rfl | (simp; done) | (simp [*]; done)), H', ⟨by first | omega | exact Nat.le_refl _⟩, ⟨by repeat (first | (with_reducible first | exact HB.out | apply below_alloc | apply pw_below_drewN | apply below_drew1) | exact HB.out)⟩⟩
      · rw [if_neg c6] at H
        have c6b0 : ((l0.length : Int) == 0) = false := beq_eq_false_iff_ne.mpr c6
        have c6b1 : ((l0.length : Int) != 0) = true := bne_iff_ne.mpr c6
        have c6b2 : ¬ (l0 = []) := fun h_ => c6 (by rw [h_]; rfl)
        (first | rw [c6b0] | (simp only [i64_w, i32_w]; rw [c6b0]) | skip)
        have H' := Aside0.mk H
        clear H
        go_wp2
        go_meet
        case rel => exact ⟨_, (((l1.length : Int) != (l0.length : Int))), (by first | rfl | (simp; done) | (simp [*]; done)), H', ⟨by first | omega | exact Nat.le_refl _⟩, ⟨by repeat (first | (with_reducible first | exact HB.out | apply below_alloc | apply pw_below_drewN | apply below_drew1) | exact HB.out)⟩⟩
    case rest =>
      clear HC5
      try clear c1
      try clear c2
      try clear p2
      try clear c3
      try clear c4
      try clear c4b0
      try clear c4b1
      try clear c6
      try clear c6b0
      try clear c6b1
      try clear c6b2
      obtain ⟨kq, x25_4, rfl, HA, HJ4, HB⟩ := hcut
      cases kq with
      | zero => exact absurd HA.out (by simp [swarfref38_Bound.j0])
      | succ kj4 =>
        have H := HA.out
        clear HA
        simp only [swarfref38_Bound.j0] at H
        by_cases c7 : x25_4 = true
        · subst c7
          have H1 : (some (0, 1)) = some (r1, r2) := by rw [if_pos rfl] at H; exact H
          clear H
          have H := H1
          clear H1
          simp only [Option.some.injEq, Prod.mk.injEq] at H
          obtain ⟨rfl, rfl⟩ := H
          go_wp2
          go_ret2
          exact ⟨by first | rfl | (simp [errW_none, errW_some] <;> rfl) | (simp [*, errW_none, errW_some] <;> rfl), by repeat (first | (with_reducible first | exact HB.out | apply below_alloc | apply pw_below_drewN | apply below_drew1) | exact HB.out)⟩
        · replace c7 := Bool.eq_false_iff.mpr c7
          subst c7
          have H1 : (swarfref38_Bound.l0 kj4 l0 l1 0 0) = some (r1, r2) := by rw [if_neg (show ¬ (false = true) by decide)] at H; exact H
          clear H
          have H := H1
          clear H1
          have H' := Aside0.mk H
          clear H
          go_wp2
          go_loopg [7, 8] kj4 (fun kq v7 v8 w' => ∃ (x7_2 : Int) (x8_2 : Int), v7 = .int .i64 x7_2 ∧ v8 = .int .i64 x8_2 ∧ Aside0 (swarfref38_Bound.l0 kq l0 l1 x7_2 x8_2 = some (r1, r2)) ∧ Aside0 (kq ≤ kj4) ∧ Aside0 (Below w.heap.size w w'))
          case atStart => exact ⟨(0), (0), (by first | rfl | (simp; done) | (simp [*]; done)), (by first | rfl | (simp; done) | (simp [*]; done)), H', ⟨Nat.le_refl _⟩, ⟨by repeat (first | (with_reducible first | exact HB.out | apply below_alloc | apply pw_below_drewN | apply below_drew1) | exact HB.out)⟩⟩
          case round =>
            clear H'
            try clear c1
            try clear c2
            try clear p2
            try clear c3
            try clear c4
            try clear c4b0
            try clear c4b1
            try clear c6
            try clear c6b0
            try clear c6b1
            try clear c6b2
            try clear c7
            try clear p2
            obtain ⟨x7_2, x8_2, rfl, rfl, HA, HK2, HB⟩ := hrel
            cases gk with
            | zero => exact absurd HA.out (by simp [swarfref38_Bound.l0])
            | succ k2 =>
              have H := HA.out
              clear HA
              simp only [swarfref38_Bound.l0] at H
              by_cases c8 : x8_2 < (l1.length : Int)
              · rw [if_pos c8] at H
                have c8b0 : decide (x8_2 < (l1.length : Int)) = true := decide_eq_true c8
                clear c8
                by_cases c9 : 0 ≤ x8_2
                · rw [if_pos c9] at H
                  have c9b0 : decide (0 ≤ x8_2) = true := decide_eq_true c9
                  clear c9
                  by_cases c10 : (rd l1 x8_2) > 20000000
                  · rw [if_pos c10] at H
                    have c10b0 : decide (20000000 < (rd l1 x8_2)) = true := decide_eq_true c10
                    clear c10
                    simp only [Option.some.injEq, Prod.mk.injEq] at H
                    obtain ⟨rfl, rfl⟩ := H
                    have p422 : 0 ≤ (x8_2 : Int) := of_decide_eq_true (by first | (with_reducible assumption) | assumption)
                    have q422 : x8_2 < (l1.length : Int) := of_decide_eq_true (by first | (with_reducible assumption) | assumption)
                    obtain ⟨ad422, e422, hx422_0⟩ := Kd.at_int HR1.out x8_2 p422 q422
                    cases e422
                    replace hx422_0 := (HB.out.cell (World.block_lt_of_cell? w _ hx422_0)).trans hx422_0
                    replace p422 := eq_true p422
                    replace q422 := eq_true q422
                    go_wp2
                    go_ret2
                    exact ⟨by first | rfl | (simp [errW_none, errW_some] <;> rfl) | (simp [*, errW_none, errW_some] <;> rfl), by repeat (first | (with_reducible first | exact HB.out | apply below_alloc | apply pw_below_drewN | apply below_drew1) | exact HB.out)⟩
                  · rw [if_neg c10] at H
                    have c10b0 : decide (20000000 < (rd l1 x8_2)) = false := decide_eq_false c10
                    clear c10
                    by_cases c11 : (rd l1 x8_2) < (-20000000)
                    · rw [if_pos c11] at H
                      have c11b0 : decide ((rd l1 x8_2) < (-20000000)) = true := decide_eq_true c11
                      clear c11
                      simp only [Option.some.injEq, Prod.mk.injEq] at H
                      obtain ⟨rfl, rfl⟩ := H
                      have p422 : 0 ≤ (x8_2 : Int) := of_decide_eq_true (by first | (with_reducible assumption) | assumption)
                      have q422 : x8_2 < (l1.length : Int) := of_decide_eq_true (by first | (with_reducible assumption) | assumption)
                      obtain ⟨ad422, e422, hx422_0⟩ := Kd.at_int HR1.out x8_2 p422 q422
                      cases e422
                      replace hx422_0 := (HB.out.cell (World.block_lt_of_cell? w _ hx422_0)).trans hx422_0
                      replace p422 := eq_true p422
                      replace q422 := eq_true q422
                      have p423 : 0 ≤ (x8_2 : Int) := of_decide_eq_true (by first | (with_reducible assumption) | assumption)
                      have q423 : x8_2 < (l1.length : Int) := of_decide_eq_true (by first | (with_reducible assumption) | assumption)
                      obtain ⟨ad423, e423, hx423_0⟩ := Kd.at_int HR1.out x8_2 p423 q423
                      obtain rfl : ad422 = ad423 := (by injection e423)
                      replace hx423_0 := (HB.out.cell (World.block_lt_of_cell? w _ hx423_0)).trans hx423_0
                      replace p423 := eq_true p423
                      replace q423 := eq_true q423
                      go_wp2
                      go_ret2
                      exact ⟨by first | rfl | (simp [errW_none, errW_some] <;> rfl) | (simp [*, errW_none, errW_some] <;> rfl), by repeat (first | (with_reducible first | exact HB.out | apply below_alloc | apply pw_below_drewN | apply below_drew1) | exact HB.out)⟩
                    · rw [if_neg c11] at H
                      have c11b0 : decide ((rd l1 x8_2) < (-20000000)) = false := decide_eq_false c11
                      clear c11
                      have H' := Aside0.mk H
                      clear H
                      have p422 : 0 ≤ (x8_2 : Int) := of_decide_eq_true (by first | (with_reducible assumption) | assumption)
                      have q422 : x8_2 < (l1.length : Int) := of_decide_eq_true (by first | (with_reducible assumption) | assumption)
                      obtain ⟨ad422, e422, hx422_0⟩ := Kd.at_int HR1.out x8_2 p422 q422
                      cases e422
                      replace hx422_0 := (HB.out.cell (World.block_lt_of_cell? w _ hx422_0)).trans hx422_0
                      replace p422 := eq_true p422
                      replace q422 := eq_true q422
                      have p423 : 0 ≤ (x8_2 : Int) := of_decide_eq_true (by first | (with_reducible assumption) | assumption)
                      have q423 : x8_2 < (l1.length : Int) := of_decide_eq_true (by first | (with_reducible assumption) | assumption)
                      obtain ⟨ad423, e423, hx423_0⟩ := Kd.at_int HR1.out x8_2 p423 q423
                      obtain rfl : ad422 = ad423 := (by injection e423)
                      replace hx423_0 := (HB.out.cell (World.block_lt_of_cell? w _ hx423_0)).trans hx423_0
                      replace p423 := eq_true p423
                      replace q423 := eq_true q423
                      have p424 : 0 ≤ (x8_2 : Int) := of_decide_eq_true (by first | (with_reducible assumption) | assumption)
                      have q424 : x8_2 < (l1.length : Int) := of_decide_eq_true (by first | (with_reducible assumption) | assumption)
                      obtain ⟨ad424, e424, hx424_0⟩ := Kd.at_int HR1.out x8_2 p424 q424
                      obtain rfl : ad422 = ad424 := (by injection e424)
                      replace hx424_0 := (HB.out.cell (World.block_lt_of_cell? w _ hx424_0)).trans hx424_0
                      replace p424 := eq_true p424
                      replace q424 := eq_true q424
                      go_wp2
                      go_roundg k2
                      case measure => have := HJ4.out; have := HK2.out; omega
                      case rel => exact ⟨(wrap64 (x7_2 + (rd l1 x8_2))), (wrap64 (x8_2 + 1)), (by first | rfl | (simp; done) | (simp [*]; done)), (by first | rfl | (simp; done) | (simp [*]; done)), H', ⟨by have := HJ4.out; have := HK2.out; omega⟩, ⟨by repeat (first | (with_reducible first | exact HB.out | apply below_alloc | apply pw_below_drewN | apply below_drew1) | exact HB.out)⟩⟩
                · rw [if_neg c9] at H
                  exact absurd H (by simp)
              · rw [if_neg c8] at H
                have c8b0 : decide (x8_2 < (l1.length : Int)) = false := decide_eq_false c8
                clear c8
                by_cases c12 : (l0.length : Int) = 1
                · rw [if_pos c12] at H
                  have c12b0 : ((l0.length : Int) == 1) = true := beq_iff_eq.mpr c12
                  have c12b1 : ((l0.length : Int) != 1) = false := bne_eq_false_iff_eq.mpr c12
                  clear c12
                  simp only [Option.some.injEq, Prod.mk.injEq] at H
                  obtain ⟨rfl, rfl⟩ := H
                  go_wp2
                  go_ret2
                  exact ⟨by first | rfl | (simp [errW_none, errW_some] <;> rfl) | (simp [*, errW_none, errW_some] <;> rfl), by repeat (first | (with_reducible first | exact HB.out | apply below_alloc | apply pw_below_drewN | apply below_drew1) | exact HB.out)⟩
                · rw [if_neg c12] at H
                  have c12b0 : ((l0.length : Int) == 1) = false := beq_eq_false_iff_ne.mpr c12
                  have c12b1 : ((l0.length : Int) != 1) = true := bne_iff_ne.mpr c12
                  by_cases c13 : 1 < (l1.length : Int)
                  · rw [if_pos c13] at H
                    have c13b0 : decide (1 < (l1.length : Int)) = true := decide_eq_true c13
                    have c13b1 : decide (1 < l1.length) = true := decide_eq_true (by omega)
                    clear c13
                    have H' := Aside0.mk H
                    clear H
                    have p425 : 0 ≤ (1 : Int) := (by omega)
                    have q425 : 1 < (l1.length : Int) := of_decide_eq_true (by first | (with_reducible assumption) | assumption)
                    obtain ⟨ad425, e425, hx425_0⟩ := Kd.at_int HR1.out 1 p425 q425
                    cases e425
                    (try simp only [show (1 : Int).toNat = 1 from rfl, Nat.reduceMul, Nat.reduceEqDiff, Go.Addr.add, ↓reduceIte] at hx425_0)
                    have qi425 : (1 < l1.length) = True := eq_true (by omega)
                    (try rw [show ((1 : Int)).toNat = 1 from rfl] at hx425_0)
                    replace hx425_0 := (HB.out.cell (World.block_lt_of_cell? w _ hx425_0)).trans hx425_0
                    replace p425 := eq_true p425
                    replace q425 := eq_true q425
                    go_wp2
                    go_loopg [9, 10] k2 (fun kq v9 v10 w' => ∃ (x9_3 : Int) (x10_3 : Int), v9 = .int .i64 x9_3 ∧ v10 = .int .i64 x10_3 ∧ Aside0 (swarfref38_Bound.l1 kq l0 l1 x7_2 x9_3 x10_3 = some (r1, r2)) ∧ Aside0 (kq ≤ k2) ∧ Aside0 (Below w.heap.size w w'))
                    case atStart => exact ⟨(rd l1 1), (1), (by first | rfl | (simp; done) | (simp [*]; done)), (by first | rfl | (simp; done) | (simp [*]; done)), H', ⟨Nat.le_refl _⟩, ⟨by repeat (first | (with_reducible first | exact HB.out | apply below_alloc | apply pw_below_drewN | apply below_drew1) | exact HB.out)⟩⟩
                    case round =>
                      clear H'
                      try clear c1
                      try clear c2
                      try clear p2
                      try clear c3
                      try clear c4
                      try clear c4b0
                      try clear c4b1
                      try clear p4
                      try clear q4
                      try clear hx4
                      try clear qi4
                      try clear c6
                      try clear c6b0
                      try clear c6b1
                      try clear c6b2
                      try clear p6
                      try clear c7
                      try clear c8
                      try clear c8b0
                      try clear c9
                      try clear c9b0
                      try clear c10
                      try clear c10b0
                      try clear c11
                      try clear c11b0
                      try clear c12
                      try clear c12b0
                      try clear c12b1
                      try clear c13
                      try clear c13b0
                      try clear c13b1
                      try clear hx422_0
                      try clear hx423_0
                      try clear hx424_0
                      try clear hx425_0
                      try clear p2
                      try clear p422
                      try clear p423
                      try clear p424
                      try clear p425
                      try clear q422
                      try clear q423
                      try clear q424
                      try clear q425
                      obtain ⟨x9_3, x10_3, rfl, rfl, HA, HK3, HB⟩ := hrel
                      cases gk with
                      | zero => exact absurd HA.out (by simp [swarfref38_Bound.l1])
                      | succ k3 =>
                        have H := HA.out
                        clear HA
                        simp only [swarfref38_Bound.l1] at H
                        by_cases c14 : x10_3 < (l1.length : Int)
                        · rw [if_pos c14] at H
                          have c14b0 : decide (x10_3 < (l1.length : Int)) = true := decide_eq_true c14
                          clear c14
                          by_cases c15 : 0 ≤ x10_3
                          · rw [if_pos c15] at H
                            have c15b0 : decide (0 ≤ x10_3) = true := decide_eq_true c15
                            clear c15
                            obtain ⟨ji16, hji16⟩ : ∃ j_ : Int, (mn x9_3 (rd l1 x10_3)) = j_ := ⟨_, rfl⟩
                            replace H : (swarfref38_Bound.l1 k3 l0 l1 x7_2 ji16 (wrap64 (x10_3 + 1))) = some (r1, r2) := by first | (rw [hji16] at H; exact H) | (simp only [hji16] at H ⊢; exact H)
                            have hji16_ : (if (rd l1 x10_3) < x9_3 then (rd l1 x10_3) else x9_3) = ji16 := hji16
                            have H' := Aside0.mk H
                            clear H
                            have p426 : 0 ≤ (x10_3 : Int) := of_decide_eq_true (by first | (with_reducible assumption) | assumption)
                            have q426 : x10_3 < (l1.length : Int) := of_decide_eq_true (by first | (with_reducible assumption) | assumption)
                            obtain ⟨ad426, e426, hx426_0⟩ := Kd.at_int HR1.out x10_3 p426 q426
                            obtain rfl : ad425 = ad426 := (by injection e426)
                            replace hx426_0 := (HB.out.cell (World.block_lt_of_cell? w _ hx426_0)).trans hx426_0
                            replace p426 := eq_true p426
                            replace q426 := eq_true q426
                            go_wp2
                            go_roundg k3
                            case measure => have := HJ4.out; have := HK2.out; have := HK3.out; omega
                            case rel => exact ⟨(ji16), (wrap64 (x10_3 + 1)), (by first | rfl | (simp; done) | (simp only [← hji16] <;> (first | rfl | simp)) | (simp [*]; done)), (by first | rfl | (simp; done) | (simp [*]; done)), H', ⟨by have := HJ4.out; have := HK2.out; have := HK3.out; omega⟩, ⟨by repeat (first | (with_reducible first | exact HB.out | apply below_alloc | apply pw_below_drewN | apply below_drew1) | exact HB.out)⟩⟩
                          · rw [if_neg c15] at H
                            exact absurd H (by simp)
                        · rw [if_neg c14] at H
                          have c14b0 : decide (x10_3 < (l1.length : Int)) = false := decide_eq_false c14
                          clear c14
                          replace H := Option.bind_eq_some_iff.mp H
                          obtain ⟨t427, A170, H⟩ := H
                          replace H : (if 0 < (l1.length : Int) then (some (wrap64 ((wrap64 ((wrap64 (t427 - (wrap64 (2 * x7_2)))) + (rd l1 0))) + x9_3), 0)) else (none)) = some (r1, r2) := H
                          have A17 := Aside0.mk A170
                          clear A170
                          by_cases c18 : 0 < (l1.length : Int)
                          · rw [if_pos c18] at H
                            have c18b0 : decide (0 < (l1.length : Int)) = true := decide_eq_true c18
                            have c18b1 : decide (0 < l1.length) = true := decide_eq_true (by omega)
                            clear c18
                            simp only [Option.some.injEq, Prod.mk.injEq] at H
                            obtain ⟨rfl, rfl⟩ := H
                            try go_wp2
                            have n0_ := Aside0.mk (below_drew1 HB.out)
                            clear HB
                            have HB := n0_
                            clear n0_
                            have p428 : 0 ≤ (0 : Int) := (by omega)
                            have q428 : 0 < (l1.length : Int) := of_decide_eq_true (by first | (with_reducible assumption) | assumption)
                            obtain ⟨ad428, e428, hx428_0⟩ := Kd.at_int HR1.out 0 p428 q428
                            have hw428_0 := hx428_0
                            (try rw [show ((0 : Int)).toNat = 0 from rfl] at hw428_0)
                            (try rw [show 0 * 1 = 0 from rfl] at hw428_0)
                            (try rw [Addr.add_zero'] at hw428_0)
                            obtain rfl : ad425 = ad428 := (by injection e428)
                            have qi428 : (0 < l1.length) = True := eq_true (by omega)
                            (try rw [show ((0 : Int)).toNat = 0 from rfl] at hx428_0)
                            (try rw [Addr.add_zero'] at hx428_0)
                            replace hx428_0 := (HB.out.cell (World.block_lt_of_cell? w _ hx428_0)).trans hx428_0
                            replace p428 := eq_true p428
                            replace q428 := eq_true q428
                            refine start_ (n := 14) (S := fun w' => w'.cell? ad425 = some (.int .i64 (rd l1 0))) (ds := []) #[false, false, false, false, false, false, false, false, false, false, false, false, false, false] (by kernel_rfl) rfl rfl (((HB.out.cell (World.block_lt_of_cell? w _ hw428_0)).trans hw428_0)) (fun hHeld => ?_); refine with_tabW swarfref38_Bound.tab20 swarfref38_Bound.bits20 (fun HT_ HW_ => ?_)
                            generalize wr.drew = w19 at HB hx428_0 hHeld ⊢
                            refine pure_ (i := 0) (N := some 68) (v := ?_) (a' := ?_) #[true, false, false, false, false, false, false, false, false, false, false, false, false, false] rfl rfl (any_of HT_.out (by kernel_rfl)) (fun _ _ _ h => h) (Or.inl ⟨by rfl, ?_⟩) ?_ ?_
                            rotate_left
                            · intro w'
                              go_simp
                              with_reducible rfl
                            rotate_left
                            · simp only [Act.put, List.setIfInBounds_toArray, List.set_cons_zero, List.set_cons_succ, i64_w, i32_w]
                              rfl
                            refine pure_ (i := 1) (N := some 69) (v := ?_) (a' := ?_) #[true, true, false, false, false, false, false, false, false, false, false, false, false, false] rfl rfl (any_of HT_.out (by kernel_rfl)) (fun _ _ _ h => h) (Or.inl ⟨by rfl, ?_⟩) ?_ ?_
                            rotate_left
                            · intro w'
                              go_simp
                              with_reducible rfl
                            rotate_left
                            · simp only [Act.put, List.setIfInBounds_toArray, List.set_cons_zero, List.set_cons_succ, i64_w, i32_w]
                              rfl
                            refine pure_ (i := 3) (N := some 71) (v := ?_) (a' := ?_) #[true, true, false, true, false, false, false, false, false, false, false, false, false, false] rfl rfl (any_of HT_.out (by kernel_rfl)) (fun _ _ _ h => h) (Or.inl ⟨by rfl, ?_⟩) ?_ ?_
                            rotate_left
                            · intro w'
                              go_simp
                              with_reducible rfl
                            rotate_left
                            · simp only [Act.put, List.setIfInBounds_toArray, List.set_cons_zero, List.set_cons_succ, i64_w, i32_w]
                              rfl
                            refine pure_ (i := 4) (N := some 72) (v := ?_) (a' := ?_) #[true, true, false, true, true, false, false, false, false, false, false, false, false, false] rfl rfl (any_of HT_.out (by kernel_rfl)) (fun _ _ _ h => h) (Or.inl ⟨by rfl, ?_⟩) ?_ ?_
                            rotate_left
                            · intro w'
                              go_simp
                              with_reducible rfl
                            rotate_left
                            · simp only [Act.put, List.setIfInBounds_toArray, List.set_cons_zero, List.set_cons_succ, i64_w, i32_w]
                              rfl
                            refine pure_ (i := 6) (N := some 74) (v := ?_) (a' := ?_) #[true, true, false, true, true, false, true, false, false, false, false, false, false, false] rfl rfl (any_of HT_.out (by kernel_rfl)) (fun _ _ _ h => h) (Or.inl ⟨by rfl, ?_⟩) ?_ ?_
                            rotate_left
                            · intro w'
                              go_simp
                              with_reducible rfl
                            rotate_left
                            · simp only [Act.put, List.setIfInBounds_toArray, List.set_cons_zero, List.set_cons_succ, i64_w, i32_w]
                              rfl
                            refine pure_ (i := 7) (N := some 75) (v := ?_) (a' := ?_) #[true, true, false, true, true, false, true, true, false, false, false, false, false, false] rfl rfl (any_of HT_.out (by kernel_rfl)) (fun _ _ _ h => h) (Or.inl ⟨by rfl, ?_⟩) ?_ ?_
                            rotate_left
                            · intro w'
                              go_simp
                              with_reducible rfl
                            rotate_left
                            · simp only [Act.put, List.setIfInBounds_toArray, List.set_cons_zero, List.set_cons_succ, i64_w, i32_w]
                              rfl
                            refine pure_ (i := 10) (N := some 78) (v := ?_) (a' := ?_) #[true, true, false, true, true, false, true, true, false, false, true, false, false, false] rfl rfl (any_of HT_.out (by kernel_rfl)) (fun _ _ _ h => h) (Or.inl ⟨by rfl, ?_⟩) ?_ ?_
                            rotate_left
                            · intro w'
                              go_simp
                              with_reducible rfl
                            rotate_left
                            · simp only [Act.put, List.setIfInBounds_toArray, List.set_cons_zero, List.set_cons_succ, i64_w, i32_w]
                              rfl
                            refine take_ (i := 8) (N := some 76) (v := ?_) (a' := ?_) #[true, true, false, true, true, false, true, true, true, false, true, false, false, false] rfl rfl (take_ofW HT_.out HW_.out (by kernel_rfl)) (fun _ _ _ h => h) (Or.inl ⟨by rfl, ?_⟩) hHeld ?_ ?_
                            rotate_left
                            · intro w' s0
                              go_simp
                              with_reducible rfl
                            rotate_left
                            · simp only [Act.put, List.setIfInBounds_toArray, List.set_cons_zero, List.set_cons_succ, i64_w, i32_w]
                              rfl
                            refine one_ (i := 2) (N := some 70) #[true, true, true, true, true, false, true, true, true, false, true, false, false, false] rfl rfl (one_of HT_.out (by kernel_rfl)) (by decide) (fun K hK => ?_)
                            refine goes_ Try.func37 (by kernel_rfl) rfl #[.slice A0 l0.length c0, .slice (some ad425) l1.length c1] (by rfl) rfl rfl (by (try simp only [List.map_toArray, List.map_cons, List.map_nil]); first | done | rfl | (simp only [List.length_drop, List.length_take]; rfl)) ?_
                            with_reducible refine (swarfref38_tree.calls k3 _ _ l0 _ _ l1 t427 _ ?side1 ?side2 ?side3 ?side4 A17.out).mono ?_
                            (case side1 => repeat (first | exact (Kd.C_below HR0.out HB.out) | (with_reducible refine Kd.C_alloc ?_ _) | (with_reducible refine Kd.C_drewN ?_ _) | (with_reducible refine Kd.C_drew ?_)))
                            (case side2 => exact HC0.out)
                            (case side3 => repeat (first | exact (Kd.C_below HR1.out HB.out) | (with_reducible refine Kd.C_alloc ?_ _) | (with_reducible refine Kd.C_drewN ?_ _) | (with_reducible refine Kd.C_drew ?_)))
                            (case side4 => exact HC1.out)
                            rintro e w20 ⟨rfl, hb⟩
                            refine ⟨_, rfl, ?_⟩
                            have n0_ := Aside0.mk (below_step (by repeat (first | (with_reducible first | exact HB.out | apply below_alloc | apply pw_below_drewN | apply below_drew1) | exact HB.out)) hb)
                            clear HB
                            have HB := n0_
                            clear n0_
                            (try clear hb)
                            (try clear hb2)
                            (try clear hk)
                            (try clear hi)
                            refine hK.out _ _ (((HB.out.cell (World.block_lt_of_cell? w _ hw428_0)).trans hw428_0)) (fun hHeld => ?_)
                            clear hK K
                            refine norm_ (a' := ?_) ?_ ?_
                            rotate_left
                            · show Act.put _ (some 70) _ = _
                              simp only [Act.put, List.setIfInBounds_toArray, List.set_cons_zero, List.set_cons_succ, i64_w, i32_w]
                              rfl
                            refine pure_ (i := 5) (N := some 73) (v := ?_) (a' := ?_) #[true, true, true, true, true, true, true, true, true, false, true, false, false, false] rfl rfl (any_of HT_.out (by kernel_rfl)) (fun _ _ _ h => h) (Or.inl ⟨by rfl, ?_⟩) ?_ ?_
                            rotate_left
                            · intro w'
                              go_simp
                              with_reducible rfl
                            rotate_left
                            · simp only [Act.put, List.setIfInBounds_toArray, List.set_cons_zero, List.set_cons_succ, i64_w, i32_w]
                              rfl
                            refine pure_ (i := 9) (N := some 77) (v := ?_) (a' := ?_) #[true, true, true, true, true, true, true, true, true, true, true, false, false, false] rfl rfl (any_of HT_.out (by kernel_rfl)) (fun _ _ _ h => h) (Or.inl ⟨by rfl, ?_⟩) ?_ ?_
                            rotate_left
                            · intro w'
                              go_simp
                              with_reducible rfl
                            rotate_left
                            · simp only [Act.put, List.setIfInBounds_toArray, List.set_cons_zero, List.set_cons_succ, i64_w, i32_w]
                              rfl
                            refine pure_ (i := 11) (N := some 79) (v := ?_) (a' := ?_) #[true, true, true, true, true, true, true, true, true, true, true, true, false, false] rfl rfl (any_of HT_.out (by kernel_rfl)) (fun _ _ _ h => h) (Or.inl ⟨by rfl, ?_⟩) ?_ ?_
                            rotate_left
                            · intro w'
                              go_simp
                              with_reducible rfl
                            rotate_left
                            · simp only [Act.put, List.setIfInBounds_toArray, List.set_cons_zero, List.set_cons_succ, i64_w, i32_w]
                              rfl
                            refine pure_ (i := 12) (N := some 4) (v := ?_) (a' := ?_) #[true, true, true, true, true, true, true, true, true, true, true, true, true, false] rfl rfl (any_of HT_.out (by kernel_rfl)) (fun _ _ _ h => h) (Or.inl ⟨by rfl, ?_⟩) ?_ ?_
                            rotate_left
                            · intro w'
                              go_simp
                              with_reducible rfl
                            rotate_left
                            · simp only [Act.put, List.setIfInBounds_toArray, List.set_cons_zero, List.set_cons_succ, i64_w, i32_w]
                              rfl
                            refine pure_ (i := 13) (N := some 5) (v := ?_) (a' := ?_) #[true, true, true, true, true, true, true, true, true, true, true, true, true, true] rfl rfl (any_of HT_.out (by kernel_rfl)) (fun _ _ _ h => h) (Or.inl ⟨by rfl, ?_⟩) ?_ ?_
                            rotate_left
                            · intro w'
                              go_simp
                              with_reducible rfl
                            rotate_left
                            · simp only [Act.put, List.setIfInBounds_toArray, List.set_cons_zero, List.set_cons_succ, i64_w, i32_w]
                              rfl
                            refine done_ (done_of HT_.out (by kernel_rfl)) ?_
                            try go_wp2
                            go_ret2
                            exact ⟨by first | rfl | (simp [errW_none, errW_some] <;> rfl) | (simp [*, errW_none, errW_some] <;> rfl), by repeat (first | (with_reducible first | exact HB.out | apply below_alloc | apply pw_below_drewN | apply below_drew1) | exact HB.out)⟩
                          · rw [if_neg c18] at H
                            exact absurd H (by simp)
                  · rw [if_neg c13] at H
                    exact absurd H (by simp)
  · rw [if_neg c4] at H
    have c4b0 : (t421 == 0) = false := beq_eq_false_iff_ne.mpr c4
    have c4b1 : (t421 != 0) = true := bne_iff_ne.mpr c4
    simp only [Option.some.injEq, Prod.mk.injEq] at H
    obtain ⟨rfl, rfl⟩ := H
    go_enter Try.func25, Try.ntmps25
    go_wp2_with (first | ((with_reducible refine gate_callee (f := 31) rfl ?_); refine goesL_ (some 12) rfl rfl Try.func31 (by kernel_rfl) rfl #[.slice A0 l0.length c0, .int .i64 200] rfl (by (try simp only [List.map_toArray, List.map_cons, List.map_nil]); first | done | rfl | (simp only [List.length_drop, List.length_take]; rfl)) ?_; (with_reducible refine (swarfref38_Valid.calls k _ _ l0 200 t421 _ ?side1 ?side2 A3.out).mono ?_); (case side1 => repeat (first | exact HR0.out | (with_reducible refine Kd.C_alloc ?_ _) | (with_reducible refine Kd.C_drewN ?_ _) | (with_reducible refine Kd.C_drew ?_))); (case side2 => exact HC0.out); rintro e w' ⟨rfl, ⟨nd, rfl⟩⟩; refine ⟨_, rfl, ?_⟩))
    go_ret2
    exact ⟨by first | rfl | (simp [errW_none, errW_some] <;> rfl) | (simp [*, errW_none, errW_some] <;> rfl), by repeat (first | (with_reducible first | exact HB.out | apply below_alloc | apply pw_below_drewN | apply below_drew1) | exact HB.out)⟩

end Go.Proofs.Ytohjocajaanhaaa.P

/- What Bound answers, in the program and in the reference. Plain numbers and lists. -/

namespace Go.Proofs.Ytohjocajaanhaaa.B
open Go.RowKit Go.Proofs.Ytohjocajaanhaaa.P Go.Proofs.YtohjocajaanhaaaW.PrintWords Go.Proofs.YtohjocajaanhaaaW.PrintLast Go.Proofs.YtohjocajaanhaaaW.PrintMore Go.Proofs.Ytohjocajaanhaaa.Mst
set_option linter.unusedVariables false
set_option linter.unusedSimpArgs false

def sumI : List Int → Int
  | [] => 0
  | x :: xs => x + sumI xs
theorem sumI_bd (w : List Int) (h : ∀ x ∈ w, -20000000 ≤ x ∧ x ≤ 20000000) : -20000000 * (w.length : Int) ≤ sumI w ∧ sumI w ≤ 20000000 * (w.length : Int) := by
  induction w with
  | nil => simp [sumI]
  | cons x w ih =>
    have h1 := h x List.mem_cons_self
    have h2 := ih (fun y hy => h y (List.mem_cons_of_mem _ hy))
    simp only [sumI, List.length_cons]
    omega
/-- The least of the weights behind the first. -/
def lastW (w : List Int) : Int := minL (w.drop 1) (w.length - 2)
theorem rd_drop1 (w : List Int) (k : Nat) : rd (w.drop 1) (k : Int) = rd w ((k : Int) + 1) := by
  unfold rd
  have e : ((k : Int) + 1).toNat = 1 + k := by omega
  rw [e, Int.toNat_natCast, List.getD_eq_getElem?_getD, List.getD_eq_getElem?_getD, List.getElem?_drop]
theorem minL_bd (w : List Int) (h : ∀ x ∈ w, -20000000 ≤ x ∧ x ≤ 20000000) (hl : 1 ≤ w.length) (k : Nat) : k < w.length → -20000000 ≤ minL w k ∧ minL w k ≤ 20000000 := by
  induction k with
  | zero => intro hk; rw [minL_zero]; exact h _ (rd_mem (by omega) (by omega))
  | succ k ih =>
    intro hk
    have h1 := ih (by omega)
    have h2 := h _ (rd_mem (o := w) (i := (k : Int) + 1) (by omega) (by omega))
    rw [minL_succ w k hk]
    unfold mn
    split <;> assumption
theorem minL_le (w : List Int) (k : Nat) : k < w.length → ∀ i : Nat, i ≤ k → minL w k ≤ rd w (i : Int) := by
  induction k with
  | zero => intro hk i hi; rw [minL_zero, show i = 0 by omega]; exact Int.le_refl _
  | succ k ih =>
    intro hk i hi
    rw [minL_succ w k hk]
    by_cases he : i = k + 1
    · rw [he]
      have : ((k + 1 : Nat) : Int) = (k : Int) + 1 := by omega
      rw [this]
      unfold mn; split <;> omega
    · have := ih (by omega) i (by omega)
      unfold mn; split <;> omega
def bndV (t : Int) (w : List Int) : Int := t - 2 * sumI w + rd w 0 + lastW w
/-! ### The program -/
theorem tbound_l0 (w : List Int) (p : List Int) (hw : ∀ x ∈ w, -20000000 ≤ x ∧ x ≤ 20000000) (hl0 : 2 ≤ w.length) (hl : w.length ≤ 200) (d : Nat) : ∀ (j : Nat) (acc : Int), j + d = w.length → -1000000000000 - 40000000 * (j : Int) ≤ acc → acc ≤ 1000000000000 + 40000000 * (j : Int) →
    Ev (fun k => tour_bound.l0 k w acc p w (w.length : Int) (j : Int)) (acc - 2 * sumI (w.drop j) + rd w 0 + lastW w, p) := by
  induction d with
  | zero =>
    intro j acc hj h0 h1
    rw [List.drop_eq_nil_of_le (by omega)]
    have k0 := hw _ (rd_mem (o := w) (i := 0) (by omega) (by omega))
    have kl := minL_bd (w.drop 1) (fun x hx => hw x (List.mem_of_mem_drop hx)) (by rw [List.length_drop]; omega) (w.length - 2) (by rw [List.length_drop]; omega)
    refine ev_end (fun k => ?_)
    simp only [tour_bound.l0]
    rw [if_neg (by omega), if_pos (by omega), if_pos (by omega)]
    unfold slices_Min_int64_int64.f
    rw [if_pos (by rw [List.length_drop]; omega)]
    simp only [Option.bind_some, List.length_drop, sumI]
    unfold lastW
    rw [show w.length - 1 - 1 = w.length - 2 by omega, wrap_mid (acc + rd w 0) (by omega) (by omega), wrap_mid _ (by omega) (by omega)]
    congr 2
    omega
  | succ d ih =>
    intro j acc hj h0 h1
    have hwj : wrap64 ((j : Int) + 1) = ((j + 1 : Nat) : Int) := by rw [wrap_mid _ (by omega) (by omega)]; omega
    have kj := hw _ (rd_mem (o := w) (i := (j : Int)) (by omega) (by omega))
    have hi := ih (j + 1) (acc - 2 * rd w (j : Int)) (by omega) (by omega) (by omega)
    rw [drop_rd w j (by omega)]
    have e : acc - 2 * sumI (rd w (j : Int) :: w.drop (j + 1)) + rd w 0 + lastW w = acc - 2 * rd w (j : Int) - 2 * sumI (w.drop (j + 1)) + rd w 0 + lastW w := by simp only [sumI]; omega
    rw [e]
    refine Ev.step (fun k => ?_) hi
    simp only [tour_bound.l0]
    rw [if_pos (by omega), if_pos (by omega), if_pos (by omega), hwj, wrap_mid (2 * rd w (j : Int)) (by omega) (by omega), wrap_mid (acc - 2 * rd w (j : Int)) (by omega) (by omega)]
theorem run_bd {c : Nat → Nat → Int} {n : Nat} {S : Nat → Prop} {k : Nat} {t B : Int} (h : Run c n S k t) (hB : 0 ≤ B) (hc : ∀ a b, a < n → b < n → -B ≤ c a b ∧ c a b ≤ B) : -B * (k : Int) ≤ t ∧ t ≤ B * (k : Int) := by
  induction h with
  | nil _ => simp
  | @cons S u v k t hu hul hv hvl hm _ ih =>
    have h1 := hc u v hul hvl
    have e1 : -B * ((k + 1 : Nat) : Int) = -B * (k : Int) - B := by rw [Int.natCast_add, Int.mul_add]; simp; omega
    have e2 : B * ((k + 1 : Nat) : Int) = B * (k : Int) + B := by rw [Int.natCast_add, Int.mul_add]; simp
    rw [e1, e2]
    omega
theorem good_run {l : List S31} {w : List Int} (hg : Good l w) {t : Int} (h : Run (cst l w) l.length (fun x => (x : Int) ∈ [(0 : Int)]) (l.length - 1) t) : -12000000000 ≤ t ∧ t ≤ 12000000000 := by
  have := run_bd h (B := 60000000) (by omega) (fun a b ha hb => hg.cst ha hb)
  have := hg.n1
  omega
theorem tbound_ev {l : List S31} {w : List Int} (hg : Good l w) : ∃ t, Ev (fun k => swarfref38_tree.f k l w) t ∧ Run (cst l w) l.length (fun x => (x : Int) ∈ [(0 : Int)]) (l.length - 1) t ∧ ∃ p, Ev (fun k => tour_bound.f k l w) (if l.length < 2 then 0 else bndV t w, p) := by
  obtain ⟨t, p, h1, h2, h3⟩ := trees hg
  have hb := good_run hg h3
  have n1 := hg.n1
  have wl := hg.wl
  refine ⟨t, h2, h3, p, ?_⟩
  unfold tour_bound.f
  refine Ev.bind h1 ?_
  by_cases hl : l.length < 2
  · simp only [if_pos hl, if_pos (show (l.length : Int) < 2 by omega)]
    exact Ev.now _
  · simp only [if_neg hl, if_neg (show ¬ (l.length : Int) < 2 by omega)]
    have := tbound_l0 w p hg.wb (by omega) (by omega) w.length 0 t (by omega) (by omega) (by omega)
    rw [List.drop_zero] at this
    exact this
theorem tBound_ok (l : List S31) (w : List Int) (hl : w.length ≤ 1000) (r : Int × Int) (hr : Ev (fun k => (tour_bound.f k l w).bind fun bt => some (bt.1, 0)) r) (hw : ∀ x ∈ w, -20000000 ≤ x ∧ x ≤ 20000000) (d : Nat) : ∀ j : Nat, j + d = w.length → Ev (fun k => tour_Bound.l0 k l w w (w.length : Int) (j : Int)) r := by
  induction d with
  | zero =>
    intro j hj
    refine Ev.step (fun k => ?_) hr
    simp only [tour_Bound.l0]
    rw [if_neg (by omega)]
  | succ d ih =>
    intro j hj
    have hwj : wrap64 ((j : Int) + 1) = ((j + 1 : Nat) : Int) := by rw [wrap_mid _ (by omega) (by omega)]; omega
    have kj := hw _ (rd_mem (o := w) (i := (j : Int)) (by omega) (by omega))
    refine Ev.step (fun k => ?_) (ih (j + 1) (by omega))
    simp only [tour_Bound.l0]
    rw [if_pos (by omega), if_pos (by omega), if_pos (by omega), if_neg (by omega), if_neg (by omega), hwj]
theorem tBound_bad (l : List S31) (w : List Int) (hl : w.length ≤ 1000) (d : Nat) : ∀ j : Nat, j + d = w.length → ¬ (∀ x ∈ w.drop j, -20000000 ≤ x ∧ x ≤ 20000000) → Ev (fun k => tour_Bound.l0 k l w w (w.length : Int) (j : Int)) (0, 11) := by
  induction d with
  | zero =>
    intro j hj hb
    rw [List.drop_eq_nil_of_le (by omega)] at hb
    exact absurd (fun x hx => by cases hx) hb
  | succ d ih =>
    intro j hj hb
    have hwj : wrap64 ((j : Int) + 1) = ((j + 1 : Nat) : Int) := by rw [wrap_mid _ (by omega) (by omega)]; omega
    rw [drop_rd w j (by omega)] at hb
    by_cases h1 : rd w (j : Int) > 20000000
    · refine ev_end (fun k => ?_)
      simp only [tour_Bound.l0]
      rw [if_pos (by omega), if_pos (by omega), if_pos (by omega), if_pos h1]
    · by_cases h2 : rd w (j : Int) < -20000000
      · refine ev_end (fun k => ?_)
        simp only [tour_Bound.l0]
        rw [if_pos (by omega), if_pos (by omega), if_pos (by omega), if_neg h1, if_pos h2]
      · refine Ev.step (fun k => ?_) (ih (j + 1) (by omega) (fun ha => hb (fun x hx => ?_)))
        · simp only [tour_Bound.l0]
          rw [if_pos (by omega), if_pos (by omega), if_pos (by omega), if_neg h1, if_neg h2, hwj]
        · rcases List.mem_cons.1 hx with rfl | hx
          · omega
          · exact ha x hx
/-! ### The reference -/
theorem rbound_l1 {l : List S31} {w : List Int} (hg : Good l w) (hl2 : 2 ≤ l.length) {t : Int} (ht : Ev (fun k => swarfref38_tree.f k l w) t) (hrun : Run (cst l w) l.length (fun x => (x : Int) ∈ [(0 : Int)]) (l.length - 1) t) (d : Nat) : ∀ (j : Nat), 1 ≤ j → j + d = w.length →
    Ev (fun k => swarfref38_Bound.l1 k l w (sumI w) (if j = 1 then rd w 1 else minL (w.drop 1) (j - 2)) (j : Int)) (bndV t w, 0) := by
  have n1 := hg.n1
  have wl := hg.wl
  induction d with
  | zero =>
    intro j hj1 hj
    have hs := sumI_bd w hg.wb
    have hb := good_run hg hrun
    have k0 := hg.at 0 (by omega) (by omega)
    have kl := minL_bd (w.drop 1) (fun x hx => hg.wb x (List.mem_of_mem_drop hx)) (by rw [List.length_drop]; omega) (w.length - 2) (by rw [List.length_drop]; omega)
    refine Ev.step (f := fun k => (swarfref38_tree.f k l w).bind fun t427 => (if 0 < (w.length : Int) then (some (wrap64 ((wrap64 ((wrap64 (t427 - (wrap64 (2 * sumI w)))) + (rd w 0))) + (if j = 1 then rd w 1 else minL (w.drop 1) (j - 2))), (0 : Int))) else (none))) (fun k => ?_) (Ev.bind ht ?_)
    · simp only [swarfref38_Bound.l1]
      rw [if_neg (by omega)]
    · simp only [if_pos (show 0 < (w.length : Int) by omega), if_neg (show ¬ j = 1 by omega)]
      have hjw : j - 2 = w.length - 2 := by omega
      rw [hjw, wrap_mid (2 * sumI w) (by omega) (by omega), wrap_mid (t - 2 * sumI w) (by omega) (by omega), wrap_mid (t - 2 * sumI w + rd w 0) (by omega) (by omega), wrap_mid _ (by omega) (by omega)]
      unfold bndV lastW
      exact Ev.now _
  | succ d ih =>
    intro j hj1 hj
    have hwj : wrap64 ((j : Int) + 1) = ((j + 1 : Nat) : Int) := by rw [wrap_mid _ (by omega) (by omega)]; omega
    refine Ev.step (fun k => ?_) (ih (j + 1) (by omega) (by omega))
    simp only [swarfref38_Bound.l1]
    rw [if_pos (by omega), if_pos (by omega), hwj, if_neg (show ¬ j + 1 = 1 by omega)]
    congr 1
    by_cases h1 : j = 1
    · subst h1
      rw [if_pos rfl]
      have e : minL (w.drop 1) (1 + 1 - 2) = rd w 1 := by
        show minL (w.drop 1) 0 = _
        rw [minL_zero]
        have := rd_drop1 w 0
        simpa using this
      rw [e]
      unfold mn
      split <;> rfl
    · rw [if_neg h1, show j + 1 - 2 = (j - 2) + 1 by omega, minL_succ (w.drop 1) (j - 2) (by rw [List.length_drop]; omega)]
      have := rd_drop1 w (j - 2 + 1)
      have e1 : ((j - 2 + 1 : Nat) : Int) = ((j - 2 : Nat) : Int) + 1 := by omega
      have e2 : ((j - 2 + 1 : Nat) : Int) + 1 = (j : Int) := by omega
      rw [e2, e1] at this
      rw [this]
theorem rBound_ok {l : List S31} {w : List Int} (hg : Good l w) {t : Int} (ht : Ev (fun k => swarfref38_tree.f k l w) t) (hrun : Run (cst l w) l.length (fun x => (x : Int) ∈ [(0 : Int)]) (l.length - 1) t) (d : Nat) : ∀ (j : Nat) (acc : Int), j + d = w.length → -20000000 * (j : Int) ≤ acc → acc ≤ 20000000 * (j : Int) → acc + sumI (w.drop j) = sumI w →
    Ev (fun k => swarfref38_Bound.l0 k l w acc (j : Int)) (if l.length < 2 then 0 else bndV t w, 0) := by
  have n0 := hg.n0
  have n1 := hg.n1
  have wl := hg.wl
  induction d with
  | zero =>
    intro j acc hj h0 h1 hs
    rw [List.drop_eq_nil_of_le (by omega)] at hs
    have hs' : acc = sumI w := by simpa [sumI] using hs
    by_cases hl : l.length < 2
    · rw [if_pos hl]
      refine ev_end (fun k => ?_)
      simp only [swarfref38_Bound.l0]
      rw [if_neg (by omega), if_pos (by omega)]
    · rw [if_neg hl]
      refine Ev.step (fun k => ?_) (rbound_l1 hg (by omega) ht hrun (w.length - 1) 1 (by omega) (by omega))
      simp only [swarfref38_Bound.l0]
      rw [if_neg (by omega), if_neg (by omega), if_pos (by omega), hs']
      rfl
  | succ d ih =>
    intro j acc hj h0 h1 hs
    have hwj : wrap64 ((j : Int) + 1) = ((j + 1 : Nat) : Int) := by rw [wrap_mid _ (by omega) (by omega)]; omega
    have kj := hg.at (j : Int) (by omega) (by omega)
    rw [drop_rd w j (by omega)] at hs
    refine Ev.step (fun k => ?_) (ih (j + 1) (acc + rd w (j : Int)) (by omega) (by omega) (by omega) (by simp only [sumI] at hs; omega))
    simp only [swarfref38_Bound.l0]
    rw [if_pos (by omega), if_pos (by omega), if_neg (by omega), if_neg (by omega), hwj, wrap_mid (acc + rd w (j : Int)) (by omega) (by omega)]
theorem rBound_bad (l : List S31) (w : List Int) (hl : w.length ≤ 1000) (d : Nat) : ∀ (j : Nat) (acc : Int), j + d = w.length → ¬ (∀ x ∈ w.drop j, -20000000 ≤ x ∧ x ≤ 20000000) → Ev (fun k => swarfref38_Bound.l0 k l w acc (j : Int)) (0, 11) := by
  induction d with
  | zero =>
    intro j acc hj hb
    rw [List.drop_eq_nil_of_le (by omega)] at hb
    exact absurd (fun x hx => by cases hx) hb
  | succ d ih =>
    intro j acc hj hb
    have hwj : wrap64 ((j : Int) + 1) = ((j + 1 : Nat) : Int) := by rw [wrap_mid _ (by omega) (by omega)]; omega
    rw [drop_rd w j (by omega)] at hb
    by_cases h1 : rd w (j : Int) > 20000000
    · refine ev_end (fun k => ?_)
      simp only [swarfref38_Bound.l0]
      rw [if_pos (by omega), if_pos (by omega), if_pos h1]
    · by_cases h2 : rd w (j : Int) < -20000000
      · refine ev_end (fun k => ?_)
        simp only [swarfref38_Bound.l0]
        rw [if_pos (by omega), if_pos (by omega), if_neg h1, if_pos h2]
      · refine Ev.step (fun k => ?_) (ih (j + 1) (wrap64 (acc + rd w (j : Int))) (by omega) (fun ha => hb (fun x hx => ?_)))
        · simp only [swarfref38_Bound.l0]
          rw [if_pos (by omega), if_pos (by omega), if_neg h1, if_neg h2, hwj]
        · rcases List.mem_cons.1 hx with rfl | hx
          · omega
          · exact ha x hx
/-- Both answers are one, and where there is no error it is the sum of a run, weighed. -/
theorem Bounds (l : List S31) (w : List Int) (hl : l.length ≤ 1000) (hw : w.length ≤ 1000) : ∃ r : Int × Int, Ev (fun k => tour_Bound.f k l w) r ∧ Ev (fun k => swarfref38_Bound.f k l w) r ∧
    ((Good l w ∧ r.2 = 0 ∧ ∃ t, Run (cst l w) l.length (fun x => (x : Int) ∈ [(0 : Int)]) (l.length - 1) t ∧ r.1 = if l.length < 2 then 0 else bndV t w) ∨ (¬ Good l w ∧ ¬ r.2 = 0)) := by
  by_cases hc : chkE l 200 = 0
  · obtain ⟨c1, c2⟩ := chkE_zero hc
    by_cases hb : l.length = 0 ∨ w.length ≠ l.length
    · refine ⟨(0, 1), ?_, ?_, .inr ⟨fun hg => ?_, by decide⟩⟩
      · unfold tour_Bound.f
        refine Ev.bind (check_ev l 200 hl) ?_
        simp only [if_pos hc]
        by_cases h0 : (l.length : Int) = 0
        · simp only [if_pos h0]
          exact ev_end (fun k => by simp only [tour_Bound.j0]; rfl)
        · simp only [if_neg h0, show ((w.length : Int) != (l.length : Int)) = true by simp; omega]
          exact ev_end (fun k => by simp only [tour_Bound.j0]; rfl)
      · unfold swarfref38_Bound.f
        refine Ev.bind (rvalid_ev l 200 hl) ?_
        simp only [if_pos hc]
        by_cases h0 : (l.length : Int) = 0
        · simp only [if_pos h0]
          exact ev_end (fun k => by simp only [swarfref38_Bound.j0]; rfl)
        · simp only [if_neg h0, show ((w.length : Int) != (l.length : Int)) = true by simp; omega]
          exact ev_end (fun k => by simp only [swarfref38_Bound.j0]; rfl)
      · have := hg.n0
        have := hg.wl
        omega
    · have h0 : ¬ (l.length : Int) = 0 := by omega
      have hne : ((w.length : Int) != (l.length : Int)) = false := by simp; omega
      by_cases hok : ∀ x ∈ w, -20000000 ≤ x ∧ x ≤ 20000000
      · have hg : Good l w := ⟨c2, by omega, by omega, by omega, hok⟩
        obtain ⟨t, h1, h2, p, h3⟩ := tbound_ev hg
        refine ⟨(if l.length < 2 then 0 else bndV t w, 0), ?_, ?_, .inl ⟨hg, rfl, t, h2, rfl⟩⟩
        · unfold tour_Bound.f
          refine Ev.bind (check_ev l 200 hl) ?_
          simp only [if_pos hc, if_neg h0, hne]
          refine Ev.step (f := fun k => tour_Bound.l0 k l w w (w.length : Int) ((0 : Nat) : Int)) (fun k => by simp only [tour_Bound.j0]; rw [if_neg (by decide)]; rfl) ?_
          exact tBound_ok l w hw _ (Ev.bind h3 (Ev.now _)) hok w.length 0 (by omega)
        · unfold swarfref38_Bound.f
          refine Ev.bind (rvalid_ev l 200 hl) ?_
          simp only [if_pos hc, if_neg h0, hne]
          refine Ev.step (f := fun k => swarfref38_Bound.l0 k l w 0 ((0 : Nat) : Int)) (fun k => by simp only [swarfref38_Bound.j0]; rw [if_neg (by decide)]; rfl) ?_
          exact rBound_ok hg h1 h2 w.length 0 0 (by omega) (by omega) (by omega) (by simp)
      · refine ⟨(0, 11), ?_, ?_, .inr ⟨fun hg => hok hg.wb, by decide⟩⟩
        · unfold tour_Bound.f
          refine Ev.bind (check_ev l 200 hl) ?_
          simp only [if_pos hc, if_neg h0, hne]
          refine Ev.step (f := fun k => tour_Bound.l0 k l w w (w.length : Int) ((0 : Nat) : Int)) (fun k => by simp only [tour_Bound.j0]; rw [if_neg (by decide)]; rfl) ?_
          exact tBound_bad l w hw w.length 0 (by omega) hok
        · unfold swarfref38_Bound.f
          refine Ev.bind (rvalid_ev l 200 hl) ?_
          simp only [if_pos hc, if_neg h0, hne]
          refine Ev.step (f := fun k => swarfref38_Bound.l0 k l w 0 ((0 : Nat) : Int)) (fun k => by simp only [swarfref38_Bound.j0]; rw [if_neg (by decide)]; rfl) ?_
          exact rBound_bad l w hw w.length 0 0 (by omega) hok
  · refine ⟨(0, chkE l 200), ?_, ?_, .inr ⟨fun hg => hc ?_, hc⟩⟩
    · unfold tour_Bound.f
      refine Ev.bind (check_ev l 200 hl) ?_
      simp only [if_neg hc]
      exact Ev.now _
    · unfold swarfref38_Bound.f
      refine Ev.bind (rvalid_ev l 200 hl) ?_
      simp only [if_neg hc]
      exact Ev.now _
    · have := hg.n1
      unfold chkE
      rw [if_neg (by omega), if_pos hg.v]
end Go.Proofs.Ytohjocajaanhaaa.B

-- PRINTED by print.py (a twelfth state) out of the translation. Not trusted: Lean checks it.

namespace Go.Proofs.Ytohjocajaanhaaa.P
open Go.RowKit Go.Proofs.YtohjocajaanhaaaW.PrintWords Go.Proofs.YtohjocajaanhaaaW.PrintLast Go.Proofs.YtohjocajaanhaaaW.PrintMore
attribute [local go_sem] max2_int min2_int max_two min_two max_three min_three max_four min_four   -- for this text's walks alone
set_option linter.unusedVariables false
set_option linter.unusedSimpArgs false

/-! ### swarfref38_search: function 39 -/
mutual
def swarfref38_search.l0 : Nat → List (S31) → List Int → List Int → Int → Option (List Int)
  | 0, _, _, _, _ => none
  | k + 1, x0, x1, x2, x7 => if x7 < (x0.length : Int) then ((swarfref38_has.f k x1 x7).bind fun t387 => (if t387 = true then (swarfref38_search.l0 k x0 x1 x2 (wrap64 (x7 + 1))) else ((some (([] : List Int) : List Int)).bind fun y388 => (if y388.length + x1.length < 17592186044416 then ((some (y388 ++ x1 : List Int)).bind fun y391 => (if y391.length < 17592186044416 then ((swarfref38_search.f k x0 (y391 ++ [x7]) x2).bind fun t397 => (swarfref38_search.l0 k x0 x1 t397 (wrap64 (x7 + 1)))) else (none))) else (none))))) else (some x2)
def swarfref38_search.f : Nat → List (S31) → List Int → List Int → Option (List Int)
  | 0, _, _, _ => none
  | k + 1, l0, l1, l2 => if (l1.length : Int) = (l0.length : Int) then (if (l2.length : Int) = 0 then ((some (([] : List Int) : List Int)).bind fun y373 => (if y373.length + l1.length < 17592186044416 then (some (y373 ++ l1)) else (none))) else ((swarfref38_way.f k l0 l1).bind fun t379 => ((swarfref38_way.f k l0 l2).bind fun t380 => (if t379 < t380 then ((some (([] : List Int) : List Int)).bind fun y381 => (if y381.length + l1.length < 17592186044416 then (some (y381 ++ l1)) else (none))) else (some l2))))) else (swarfref38_search.l0 k l0 l1 l2 0)
end
theorem swarfref38_search.mono_l : ∀ k, (∀ y0 y1 y2, LeO (swarfref38_search.f k y0 y1 y2) (swarfref38_search.f (k + 1) y0 y1 y2)) ∧ (∀ y0 y1 y2 y3, LeO (swarfref38_search.l0 k y0 y1 y2 y3) (swarfref38_search.l0 (k + 1) y0 y1 y2 y3))
  | 0 => ⟨fun _ _ _ r h => by simp [swarfref38_search.f] at h, fun _ _ _ _ r h => by simp [swarfref38_search.l0] at h⟩
  | k + 1 => by
    obtain ⟨ih0, ih1⟩ := swarfref38_search.mono_l k
    refine ⟨?_, ?_⟩
    · intro y0 y1 y2
      unfold swarfref38_search.f
      repeat' first
      | (with_reducible exact ih0 _ _ _)
      | (with_reducible exact ih1 _ _ _ _)
      | (with_reducible exact swarfref38_has.mono _ _ _)
      | (with_reducible exact swarfref38_way.mono _ _ _)
      | (with_reducible exact LeO.refl _)
      | (with_reducible exact LeO.none _)
      | (with_reducible refine LeO.ite ?_ ?_)
      | (with_reducible refine LeO.bind ?_ (fun _ => ?_))
      | exact ih0 _ _ _
      | exact ih1 _ _ _ _
      | exact swarfref38_has.mono _ _ _
      | exact swarfref38_way.mono _ _ _
      | exact LeO.none _
      | refine LeO.ite ?_ ?_
      | refine LeO.bind ?_ (fun _ => ?_)
    · intro y0 y1 y2 y3
      unfold swarfref38_search.l0
      repeat' first
      | (with_reducible exact ih0 _ _ _)
      | (with_reducible exact ih1 _ _ _ _)
      | (with_reducible exact swarfref38_has.mono _ _ _)
      | (with_reducible exact swarfref38_way.mono _ _ _)
      | (with_reducible exact LeO.refl _)
      | (with_reducible exact LeO.none _)
      | (with_reducible refine LeO.ite ?_ ?_)
      | (with_reducible refine LeO.bind ?_ (fun _ => ?_))
      | exact ih0 _ _ _
      | exact ih1 _ _ _ _
      | exact swarfref38_has.mono _ _ _
      | exact swarfref38_way.mono _ _ _
      | exact LeO.none _
      | refine LeO.ite ?_ ?_
      | refine LeO.bind ?_ (fun _ => ?_)
theorem swarfref38_search.mono : ∀ a0 a1 a2 k, LeO (swarfref38_search.f k a0 a1 a2) (swarfref38_search.f (k + 1) a0 a1 a2) := by
  intro a0 a1 a2 k
  obtain ⟨ih0, ih1⟩ := swarfref38_search.mono_l k
  exact ih0 a0 a1 a2
set_option maxHeartbeats 8000000 in
set_option maxRecDepth 100000 in
theorem swarfref38_search.calls (k : Nat) : ∀ (A0 : Option Addr) (c0 : Nat) (l0 : List (S31)) (A1 : Option Addr) (c1 : Nat) (l1 : List Int) (P2_ : Nat → Prop) (A2 : Option Addr) (c2 : Nat) (l2 : List Int) (r : List Int) (w : World) (hr0 : Kd.C k31 w A0 l0.length l0) (hc0 : l0.length ≤ c0) (hr1 : Kd.C (Kd.int .i64) w A1 l1.length l1) (hc1 : l1.length ≤ c1) (hs2 : Kd.V (Kd.int .i64) 3 w w.heap.size (fun k_ => P2_ k_) (.slice A2 l2.length c2) l2) (h : swarfref38_search.f k l0 l1 l2 = some r),
    Calls Try.prog 39 #[.slice A0 l0.length c0, .slice A1 l1.length c1, .slice A2 l2.length c2] w fun e w' => ∃ v0_ : Value, e = .returned (v0_) ∧ Kd.V (Kd.int .i64) 3 w' w.heap.size (fun k_ => (P2_ k_ ∨ w.heap.size ≤ k_)) v0_ r ∧ Below w.heap.size w w' := by
  induction k using Nat.strongRecOn with
  | _ k ih =>
  intro A0 c0 l0 A1 c1 l1 P2_ A2 c2 l2 r w hr0 hc0 hr1 hc1 hs2 h
  cases k with
  | zero => exact absurd h (by simp [swarfref38_search.f])
  | succ k =>
  simp only [swarfref38_search.f] at h
  have HR0 := Aside0.mk hr0
  have HC0 := Aside0.mk hc0
  clear hr0 hc0
  have HR1 := Aside0.mk hr1
  have HC1 := Aside0.mk hc1
  clear hr1 hc1
  have HO2 := Aside0.mk (show Kd.V (Kd.int .i64) 3 w w.heap.size (fun k_ => (P2_ k_ ∨ w.heap.size ≤ k_)) (.slice A2 l2.length c2) l2 from Kd.V_mono hs2 (fun k_ hk => .inl hk))
  have HB := Aside0.mk (Below.refl w.heap.size w)
  have H : (if (l1.length : Int) = (l0.length : Int) then (if (l2.length : Int) = 0 then ((some (([] : List Int) : List Int)).bind fun y373 => (if y373.length + l1.length < 17592186044416 then (some (y373 ++ l1)) else (none))) else ((swarfref38_way.f k l0 l1).bind fun t379 => ((swarfref38_way.f k l0 l2).bind fun t380 => (if t379 < t380 then ((some (([] : List Int) : List Int)).bind fun y381 => (if y381.length + l1.length < 17592186044416 then (some (y381 ++ l1)) else (none))) else (some l2))))) else (swarfref38_search.l0 k l0 l1 l2 0)) = some r := h
  clear h
  by_cases c4 : (l1.length : Int) = (l0.length : Int)
  · rw [if_pos c4] at H
    have c4b0 : ((l1.length : Int) == (l0.length : Int)) = true := beq_iff_eq.mpr c4
    have c4b1 : ((l1.length : Int) != (l0.length : Int)) = false := bne_eq_false_iff_eq.mpr c4
    have c4b2 : (l1.length == l0.length) = true := by first | simpa using c4 | (simp at c4 ⊢; omega)
    clear c4
    by_cases c5 : (l2.length : Int) = 0
    · rw [if_pos c5] at H
      have c5b0 : ((l2.length : Int) == 0) = true := beq_iff_eq.mpr c5
      have c5b1 : ((l2.length : Int) != 0) = false := bne_eq_false_iff_eq.mpr c5
      clear c5
      obtain ⟨y373, hy373⟩ : ∃ y_ : List Int, y_ = (([] : List Int)) := ⟨_, rfl⟩
      replace H : (if y373.length + l1.length < 17592186044416 then (some (y373 ++ l1)) else (none)) = some r := by first | (rw [hy373]; with_reducible exact H) | (have H2_ := (Option.bind_some _ _).symm.trans H; rw [hy373]; with_reducible exact H2_) | (have H2_ := (Option.bind_some _ _).symm.trans H; with_reducible exact H2_) | with_reducible exact H | (rw [hy373]; exact H) | exact H
      have Ny373 := Aside0.mk hy373
      clear hy373
      by_cases c6 : y373.length + l1.length < 17592186044416
      · rw [if_pos c6] at H
        have LMc6 := Aside0.mk c6
        clear c6
        obtain ⟨y376, hy376⟩ : ∃ y_ : List Int, y_ = (y373 ++ l1) := ⟨_, rfl⟩
        replace H : (some y376) = some r := by first | (rw [hy376]; with_reducible exact H) | (have H2_ := (Option.bind_some _ _).symm.trans H; rw [hy376]; with_reducible exact H2_) | (have H2_ := (Option.bind_some _ _).symm.trans H; with_reducible exact H2_) | with_reducible exact H | (rw [hy376]; exact H) | exact H
        have Ny376 := Aside0.mk hy376
        clear hy376
        obtain rfl := Option.some.inj H
        go_enter Try.func39, Try.ntmps39
        go_wp2_with (first | ((with_reducible refine gate_dst (N := 25) rfl ?_); refine Kd.R_lit (Kd.int .i64) _ 3 ?hg (N := 25) ?hd (xs := ([] : List Int)) (inner := []) (ok := fun _ => True) (okp := fun _ => True) ?hr ?hp (fun _ hk => hk) trivial (Below.refl _ _) (Nat.le_refl _) (by simp) ?_; (case hd => rfl); (case hg => rfl); (case hr => first | (go_simp; done) | (go_simp; rfl)); (case hp => exact (Reps.none _ _)); intro v374 w7 ho8 hb hg_ hnew_; clear hg_ hnew_; (first | rw [← Ny373.out] at ho8 | (simp only [Int.reduceToNat] at ho8; rw [← Ny373.out] at ho8)); have n0_ := Aside0.mk (Kd.V_elder' (by (with_reducible repeat (first | apply Kd.V_alloc | apply Kd.V_drewN | apply Kd.V_drew)); exact HO2.out) (Kd.R_base ho8) hb); have n1_ := Aside0.mk (Kd.R_lower (Kd.R_newM (M := fun k_ => (w.heap.size ≤ k_)) ho8 (below_size (by repeat (first | (with_reducible first | exact HB.out | apply below_alloc | apply pw_below_drewN | apply below_drew1) | exact HB.out))) (fun k_ h_ => h_)) (below_size (by repeat (first | (with_reducible first | exact HB.out | apply below_alloc | apply pw_below_drewN | apply below_drew1) | exact HB.out)))); have n2_ := Aside0.mk (below_step (by repeat (first | (with_reducible first | exact HB.out | apply below_alloc | apply pw_below_drewN | apply below_drew1) | exact HB.out)) hb); clear HO2; clear HB; have HO2 := n0_; have HO375 := n1_; have HB := n2_; clear n0_ n1_ n2_; clear hb ho8) | ((with_reducible refine gate_builtin (b := .append) (xs := #[.tmp 25, .tmp 26]) rfl ?_); at_builtin; refine Kd.R_append_rows (Kd.int .i64) (w0 := w) w.heap.size rfl (.tmp 25) (.tmp 26) 23 3 (.int .i64 0) 8 rfl Try.underlying23 info3 rfl (by decide) (by omega) v374 y373 l1 _ _ _ (fun k_ => (w.heap.size ≤ k_)) (fun _ => False) rfl rfl ?aO ?aR (fun _ _ h => h) (fun _ h => h.elim) ?aF ?aB ?aS ?aL ?_; (case aR => repeat (first | exact (Kd.C_below HR1.out HB.out) | (with_reducible refine Kd.C_alloc ?_ _) | (with_reducible refine Kd.C_drewN ?_ _) | (with_reducible refine Kd.C_drew ?_))); (case aB => exact (by repeat (first | (with_reducible first | exact HB.out | apply below_alloc | apply pw_below_drewN | apply below_drew1) | exact HB.out))); (case aF => exact (fun k_ hk => (Nat.le_trans (below_size (by repeat (first | (with_reducible first | exact HB.out | apply below_alloc | apply pw_below_drewN | apply below_drew1) | exact HB.out))) hk))); (case aO => exact (by (with_reducible repeat (first | apply Kd.R_alloc | apply Kd.R_drewN | apply Kd.R_drew)); exact Kd.R_mono HO375.out (fun _ hk => hk.1))); (case aS => exact (below_size (by repeat (first | (with_reducible first | exact HB.out | apply below_alloc | apply pw_below_drewN | apply below_drew1) | exact HB.out)))); (case aL => have := LMc6.out; omega); intro v377 w9 ho hb hg hat; rw [← Ny376.out] at ho; have n0_ := Aside0.mk (Kd.V_afterv (ok := (fun k_ => (P2_ k_ ∨ w.heap.size ≤ k_))) (by (with_reducible repeat (first | apply Kd.V_alloc | apply Kd.V_drewN | apply Kd.V_drew)); exact HO2.out) hg hat); have n1_ := Aside0.mk (hb); have n2_ := Aside0.mk (ho); clear HO2; clear HB; clear HO375; have HO2 := n0_; have HB := n1_; have HO378 := n2_; clear n0_ n1_ n2_; clear ho hb hg hat))
        go_ret
        exact ⟨_, by first | rfl | (simp [errW_none, errW_some] <;> rfl) | (simp [*, errW_none, errW_some] <;> rfl), Kd.V_mono (Kd.R_V (by (with_reducible repeat (first | apply Kd.R_alloc | apply Kd.R_drewN | apply Kd.R_drew)); exact HO378.out)) (fun k_ hk => by first | exact ⟨(.inr (hk.1)), hk.2⟩ | exact (.inr (hk))), by repeat (first | (with_reducible first | exact HB.out | apply below_alloc | apply pw_below_drewN | apply below_drew1) | exact HB.out)⟩
      · rw [if_neg c6] at H
        exact absurd H (by simp)
    · rw [if_neg c5] at H
      have c5b0 : ((l2.length : Int) == 0) = false := beq_eq_false_iff_ne.mpr c5
      have c5b1 : ((l2.length : Int) != 0) = true := bne_iff_ne.mpr c5
      have c5b2 : ¬ (l2 = []) := fun h_ => c5 (by rw [h_]; rfl)
      replace H := Option.bind_eq_some_iff.mp H
      obtain ⟨t379, A100, H⟩ := H
      replace H : ((swarfref38_way.f k l0 l2).bind fun t380 => (if t379 < t380 then ((some (([] : List Int) : List Int)).bind fun y381 => (if y381.length + l1.length < 17592186044416 then (some (y381 ++ l1)) else (none))) else (some l2))) = some r := H
      have A10 := Aside0.mk A100
      clear A100
      replace H := Option.bind_eq_some_iff.mp H
      obtain ⟨t380, A110, H⟩ := H
      replace H : (if t379 < t380 then ((some (([] : List Int) : List Int)).bind fun y381 => (if y381.length + l1.length < 17592186044416 then (some (y381 ++ l1)) else (none))) else (some l2)) = some r := H
      have A11 := Aside0.mk A110
      clear A110
      by_cases c12 : t379 < t380
      · rw [if_pos c12] at H
        have c12b0 : decide (t379 < t380) = true := decide_eq_true c12
        clear c12
        obtain ⟨y381, hy381⟩ : ∃ y_ : List Int, y_ = (([] : List Int)) := ⟨_, rfl⟩
        replace H : (if y381.length + l1.length < 17592186044416 then (some (y381 ++ l1)) else (none)) = some r := by first | (rw [hy381]; with_reducible exact H) | (have H2_ := (Option.bind_some _ _).symm.trans H; rw [hy381]; with_reducible exact H2_) | (have H2_ := (Option.bind_some _ _).symm.trans H; with_reducible exact H2_) | with_reducible exact H | (rw [hy381]; exact H) | exact H
        have Ny381 := Aside0.mk hy381
        clear hy381
        by_cases c13 : y381.length + l1.length < 17592186044416
        · rw [if_pos c13] at H
          have LMc13 := Aside0.mk c13
          clear c13
          obtain ⟨y384, hy384⟩ : ∃ y_ : List Int, y_ = (y381 ++ l1) := ⟨_, rfl⟩
          replace H : (some y384) = some r := by first | (rw [hy384]; with_reducible exact H) | (have H2_ := (Option.bind_some _ _).symm.trans H; rw [hy384]; with_reducible exact H2_) | (have H2_ := (Option.bind_some _ _).symm.trans H; with_reducible exact H2_) | with_reducible exact H | (rw [hy384]; exact H) | exact H
          have Ny384 := Aside0.mk hy384
          clear hy384
          obtain rfl := Option.some.inj H
          go_enter Try.func39, Try.ntmps39
          go_wp2_with (first | (go_at_call 33; (with_reducible refine (swarfref38_way.calls k _ _ l0 _ _ l1 t379 _ ?side1 ?side2 ?side3 ?side4 A10.out).mono ?_); (case side1 => repeat (first | exact HR0.out | (with_reducible refine Kd.C_alloc ?_ _) | (with_reducible refine Kd.C_drewN ?_ _) | (with_reducible refine Kd.C_drew ?_))); (case side2 => exact HC0.out); (case side3 => repeat (first | exact HR1.out | (with_reducible refine Kd.C_alloc ?_ _) | (with_reducible refine Kd.C_drewN ?_ _) | (with_reducible refine Kd.C_drew ?_))); (case side4 => exact HC1.out); rintro e w14 ⟨rfl, hb⟩; have n0_ := Aside0.mk (Kd.V_below (by (with_reducible repeat (first | apply Kd.V_alloc | apply Kd.V_drewN | apply Kd.V_drew)); exact HO2.out) hb); have n1_ := Aside0.mk (below_step (by repeat (first | (with_reducible first | exact HB.out | apply below_alloc | apply pw_below_drewN | apply below_drew1) | exact HB.out)) hb); clear HO2; clear HB; have HO2 := n0_; have HB := n1_; clear n0_ n1_; (try clear hb); (try clear hb2); (try clear hk); (try clear hi)) | (go_at_call 33; (with_reducible refine (swarfref38_way.calls k _ _ l0 _ _ l2 t380 _ ?side1 ?side2 ?side3 ?side4 A11.out).mono ?_); (case side1 => repeat (first | exact (Kd.C_below HR0.out HB.out) | (with_reducible refine Kd.C_alloc ?_ _) | (with_reducible refine Kd.C_drewN ?_ _) | (with_reducible refine Kd.C_drew ?_))); (case side2 => exact HC0.out); (case side3 => repeat (first | exact (Kd.V_reads' HO2.out).2.2 | (with_reducible refine Kd.C_alloc ?_ _) | (with_reducible refine Kd.C_drewN ?_ _) | (with_reducible refine Kd.C_drew ?_))); (case side4 => exact (Kd.V_reads' HO2.out).2.1); rintro e w15 ⟨rfl, hb⟩; have n0_ := Aside0.mk (Kd.V_below (by (with_reducible repeat (first | apply Kd.V_alloc | apply Kd.V_drewN | apply Kd.V_drew)); exact HO2.out) hb); have n1_ := Aside0.mk (below_step (by repeat (first | (with_reducible first | exact HB.out | apply below_alloc | apply pw_below_drewN | apply below_drew1) | exact HB.out)) hb); clear HO2; clear HB; have HO2 := n0_; have HB := n1_; clear n0_ n1_; (try clear hb); (try clear hb2); (try clear hk); (try clear hi)) | ((with_reducible refine gate_dst (N := 25) rfl ?_); refine Kd.R_lit (Kd.int .i64) _ 3 ?hg (N := 25) ?hd (xs := ([] : List Int)) (inner := []) (ok := fun _ => True) (okp := fun _ => True) ?hr ?hp (fun _ hk => hk) trivial (Below.refl _ _) (Nat.le_refl _) (by simp) ?_; (case hd => rfl); (case hg => rfl); (case hr => first | (go_simp; done) | (go_simp; rfl)); (case hp => exact (Reps.none _ _)); intro v382 w16 ho17 hb hg_ hnew_; clear hg_ hnew_; (first | rw [← Ny381.out] at ho17 | (simp only [Int.reduceToNat] at ho17; rw [← Ny381.out] at ho17)); have n0_ := Aside0.mk (Kd.V_elder' (by (with_reducible repeat (first | apply Kd.V_alloc | apply Kd.V_drewN | apply Kd.V_drew)); exact HO2.out) (Kd.R_base ho17) hb); have n1_ := Aside0.mk (Kd.R_lower (Kd.R_newM (M := fun k_ => (w.heap.size ≤ k_)) ho17 (below_size (by repeat (first | (with_reducible first | exact HB.out | apply below_alloc | apply pw_below_drewN | apply below_drew1) | exact HB.out))) (fun k_ h_ => h_)) (below_size (by repeat (first | (with_reducible first | exact HB.out | apply below_alloc | apply pw_below_drewN | apply below_drew1) | exact HB.out)))); have n2_ := Aside0.mk (below_step (by repeat (first | (with_reducible first | exact HB.out | apply below_alloc | apply pw_below_drewN | apply below_drew1) | exact HB.out)) hb); clear HO2; clear HB; have HO2 := n0_; have HO383 := n1_; have HB := n2_; clear n0_ n1_ n2_; clear hb ho17) | ((with_reducible refine gate_builtin (b := .append) (xs := #[.tmp 25, .tmp 26]) rfl ?_); at_builtin; refine Kd.R_append_rows (Kd.int .i64) (w0 := w) w.heap.size rfl (.tmp 25) (.tmp 26) 23 3 (.int .i64 0) 8 rfl Try.underlying23 info3 rfl (by decide) (by omega) v382 y381 l1 _ _ _ (fun k_ => (w.heap.size ≤ k_)) (fun _ => False) rfl rfl ?aO ?aR (fun _ _ h => h) (fun _ h => h.elim) ?aF ?aB ?aS ?aL ?_; (case aR => repeat (first | exact (Kd.C_below HR1.out HB.out) | (with_reducible refine Kd.C_alloc ?_ _) | (with_reducible refine Kd.C_drewN ?_ _) | (with_reducible refine Kd.C_drew ?_))); (case aB => exact (by repeat (first | (with_reducible first | exact HB.out | apply below_alloc | apply pw_below_drewN | apply below_drew1) | exact HB.out))); (case aF => exact (fun k_ hk => (Nat.le_trans (below_size (by repeat (first | (with_reducible first | exact HB.out | apply below_alloc | apply pw_below_drewN | apply below_drew1) | exact HB.out))) hk))); (case aO => exact (by (with_reducible repeat (first | apply Kd.R_alloc | apply Kd.R_drewN | apply Kd.R_drew)); exact Kd.R_mono HO383.out (fun _ hk => hk.1))); (case aS => exact (below_size (by repeat (first | (with_reducible first | exact HB.out | apply below_alloc | apply pw_below_drewN | apply below_drew1) | exact HB.out)))); (case aL => have := LMc13.out; omega); intro v385 w18 ho hb hg hat; rw [← Ny384.out] at ho; have n0_ := Aside0.mk (Kd.V_afterv (ok := (fun k_ => (P2_ k_ ∨ w.heap.size ≤ k_))) (by (with_reducible repeat (first | apply Kd.V_alloc | apply Kd.V_drewN | apply Kd.V_drew)); exact HO2.out) hg hat); have n1_ := Aside0.mk (hb); have n2_ := Aside0.mk (ho); clear HO2; clear HB; clear HO383; have HO2 := n0_; have HB := n1_; have HO386 := n2_; clear n0_ n1_ n2_; clear ho hb hg hat))
          go_ret
          exact ⟨_, by first | rfl | (simp [errW_none, errW_some] <;> rfl) | (simp [*, errW_none, errW_some] <;> rfl), Kd.V_mono (Kd.R_V (by (with_reducible repeat (first | apply Kd.R_alloc | apply Kd.R_drewN | apply Kd.R_drew)); exact HO386.out)) (fun k_ hk => by first | exact ⟨(.inr (hk.1)), hk.2⟩ | exact (.inr (hk))), by repeat (first | (with_reducible first | exact HB.out | apply below_alloc | apply pw_below_drewN | apply below_drew1) | exact HB.out)⟩
        · rw [if_neg c13] at H
          exact absurd H (by simp)
      · rw [if_neg c12] at H
        have c12b0 : decide (t379 < t380) = false := decide_eq_false c12
        clear c12
        obtain rfl := Option.some.inj H
        go_enter Try.func39, Try.ntmps39
        go_wp2_with (first | (go_at_call 33; (with_reducible refine (swarfref38_way.calls k _ _ l0 _ _ l1 t379 _ ?side1 ?side2 ?side3 ?side4 A10.out).mono ?_); (case side1 => repeat (first | exact HR0.out | (with_reducible refine Kd.C_alloc ?_ _) | (with_reducible refine Kd.C_drewN ?_ _) | (with_reducible refine Kd.C_drew ?_))); (case side2 => exact HC0.out); (case side3 => repeat (first | exact HR1.out | (with_reducible refine Kd.C_alloc ?_ _) | (with_reducible refine Kd.C_drewN ?_ _) | (with_reducible refine Kd.C_drew ?_))); (case side4 => exact HC1.out); rintro e w19 ⟨rfl, hb⟩; have n0_ := Aside0.mk (Kd.V_below (by (with_reducible repeat (first | apply Kd.V_alloc | apply Kd.V_drewN | apply Kd.V_drew)); exact HO2.out) hb); have n1_ := Aside0.mk (below_step (by repeat (first | (with_reducible first | exact HB.out | apply below_alloc | apply pw_below_drewN | apply below_drew1) | exact HB.out)) hb); clear HO2; clear HB; have HO2 := n0_; have HB := n1_; clear n0_ n1_; (try clear hb); (try clear hb2); (try clear hk); (try clear hi)) | (go_at_call 33; (with_reducible refine (swarfref38_way.calls k _ _ l0 _ _ l2 t380 _ ?side1 ?side2 ?side3 ?side4 A11.out).mono ?_); (case side1 => repeat (first | exact (Kd.C_below HR0.out HB.out) | (with_reducible refine Kd.C_alloc ?_ _) | (with_reducible refine Kd.C_drewN ?_ _) | (with_reducible refine Kd.C_drew ?_))); (case side2 => exact HC0.out); (case side3 => repeat (first | exact (Kd.V_reads' HO2.out).2.2 | (with_reducible refine Kd.C_alloc ?_ _) | (with_reducible refine Kd.C_drewN ?_ _) | (with_reducible refine Kd.C_drew ?_))); (case side4 => exact (Kd.V_reads' HO2.out).2.1); rintro e w20 ⟨rfl, hb⟩; have n0_ := Aside0.mk (Kd.V_below (by (with_reducible repeat (first | apply Kd.V_alloc | apply Kd.V_drewN | apply Kd.V_drew)); exact HO2.out) hb); have n1_ := Aside0.mk (below_step (by repeat (first | (with_reducible first | exact HB.out | apply below_alloc | apply pw_below_drewN | apply below_drew1) | exact HB.out)) hb); clear HO2; clear HB; have HO2 := n0_; have HB := n1_; clear n0_ n1_; (try clear hb); (try clear hb2); (try clear hk); (try clear hi)))
        go_ret
        exact ⟨_, by first | rfl | (simp [errW_none, errW_some] <;> rfl) | (simp [*, errW_none, errW_some] <;> rfl), by (with_reducible repeat (first | apply Kd.V_alloc | apply Kd.V_drewN | apply Kd.V_drew)); exact HO2.out, by repeat (first | (with_reducible first | exact HB.out | apply below_alloc | apply pw_below_drewN | apply below_drew1) | exact HB.out)⟩
  · rw [if_neg c4] at H
    have c4b0 : ((l1.length : Int) == (l0.length : Int)) = false := beq_eq_false_iff_ne.mpr c4
    have c4b1 : ((l1.length : Int) != (l0.length : Int)) = true := bne_iff_ne.mpr c4
    have c4b2 : (l1.length == l0.length) = false := by first | simpa using c4 | (simp at c4 ⊢; omega)
    have H' := Aside0.mk H
    clear H
    go_enter Try.func39, Try.ntmps39
    go_wp2
    go_loopg [2, 7] k (fun kq v2 v7 w' => ∃ (x2_1 : List Int) (x7_1 : Int), v7 = .int .i64 x7_1 ∧ Aside0 (swarfref38_search.l0 kq l0 l1 x2_1 x7_1 = some r) ∧ Aside0 (kq ≤ k) ∧ Aside0 (Kd.V (Kd.int .i64) 3 w' w.heap.size (fun k_ => (P2_ k_ ∨ w.heap.size ≤ k_)) v2 x2_1) ∧ Aside0 (Below w.heap.size w w'))
    case atStart => exact ⟨(l2), (0), (by first | rfl | (simp; done) | (simp [*]; done)), H', ⟨Nat.le_refl _⟩, ⟨by (with_reducible repeat (first | apply Kd.V_alloc | apply Kd.V_drewN | apply Kd.V_drew)); exact HO2.out⟩, ⟨by repeat (first | (with_reducible first | exact HB.out | apply below_alloc | apply pw_below_drewN | apply below_drew1) | exact HB.out)⟩⟩
    case round =>
      clear H'
      try clear c1
      try clear c2
      try clear p2
      try clear c3
      try clear c4
      try clear c4b0
      try clear c4b1
      try clear c4b2
      try clear c5
      try clear c5b0
      try clear c5b1
      try clear c5b2
      try clear c6
      try clear c12
      try clear c12b0
      try clear c13
      obtain ⟨x2_1, x7_1, rfl, HA, HK1, HO_2, HB⟩ := hrel
      cases gk with
      | zero => exact absurd HA.out (by simp [swarfref38_search.l0])
      | succ k1 =>
        have H := HA.out
        clear HA
        simp only [swarfref38_search.l0] at H
        by_cases c21 : x7_1 < (l0.length : Int)
        · rw [if_pos c21] at H
          have c21b0 : decide (x7_1 < (l0.length : Int)) = true := decide_eq_true c21
          clear c21
          replace H := Option.bind_eq_some_iff.mp H
          obtain ⟨t387, A220, H⟩ := H
          replace H : (if t387 = true then (swarfref38_search.l0 k1 l0 l1 x2_1 (wrap64 (x7_1 + 1))) else ((some (([] : List Int) : List Int)).bind fun y388 => (if y388.length + l1.length < 17592186044416 then ((some (y388 ++ l1 : List Int)).bind fun y391 => (if y391.length < 17592186044416 then ((swarfref38_search.f k1 l0 (y391 ++ [x7_1]) x2_1).bind fun t397 => (swarfref38_search.l0 k1 l0 l1 t397 (wrap64 (x7_1 + 1)))) else (none))) else (none)))) = some r := H
          have A22 := Aside0.mk A220
          clear A220
          by_cases c23 : t387 = true
          · subst c23
            have H1 : (swarfref38_search.l0 k1 l0 l1 x2_1 (wrap64 (x7_1 + 1))) = some r := by rw [if_pos rfl] at H; exact H
            clear H
            have H := H1
            clear H1
            have H' := Aside0.mk H
            clear H
            go_wp2_with (first | ((with_reducible refine gate_callee (f := 35) rfl ?_); refine goesL_ (some 37) rfl rfl Try.func35 (by kernel_rfl) rfl #[.slice A1 l1.length c1, .int .i64 x7_1] rfl (by (try simp only [List.map_toArray, List.map_cons, List.map_nil]); first | done | rfl | (simp only [List.length_drop, List.length_take]; rfl)) ?_; (with_reducible refine (swarfref38_has.calls k1 _ _ l1 x7_1 true _ ?side1 ?side2 A22.out).mono ?_); (case side1 => repeat (first | exact (Kd.C_below HR1.out HB.out) | (with_reducible refine Kd.C_alloc ?_ _) | (with_reducible refine Kd.C_drewN ?_ _) | (with_reducible refine Kd.C_drew ?_))); (case side2 => exact HC1.out); rintro e w' ⟨rfl, ⟨nd, rfl⟩⟩; refine ⟨_, rfl, ?_⟩))
            go_roundg k1
            case measure => have := HK1.out; omega
            case rel => exact ⟨(x2_1), (wrap64 (x7_1 + 1)), (by first | rfl | (simp; done) | (simp [*]; done)), H', ⟨by have := HK1.out; omega⟩, ⟨by (with_reducible repeat (first | apply Kd.V_alloc | apply Kd.V_drewN | apply Kd.V_drew)); exact HO_2.out⟩, ⟨by repeat (first | (with_reducible first | exact HB.out | apply below_alloc | apply pw_below_drewN | apply below_drew1) | exact HB.out)⟩⟩
          · replace c23 := Bool.eq_false_iff.mpr c23
            subst c23
            have H1 : ((some (([] : List Int) : List Int)).bind fun y388 => (if y388.length + l1.length < 17592186044416 then ((some (y388 ++ l1 : List Int)).bind fun y391 => (if y391.length < 17592186044416 then ((swarfref38_search.f k1 l0 (y391 ++ [x7_1]) x2_1).bind fun t397 => (swarfref38_search.l0 k1 l0 l1 t397 (wrap64 (x7_1 + 1)))) else (none))) else (none))) = some r := by rw [if_neg (show ¬ (false = true) by decide)] at H; exact H
            clear H
            have H := H1
            clear H1
            obtain ⟨y388, hy388⟩ : ∃ y_ : List Int, y_ = (([] : List Int)) := ⟨_, rfl⟩
            replace H : (if y388.length + l1.length < 17592186044416 then ((some (y388 ++ l1 : List Int)).bind fun y391 => (if y391.length < 17592186044416 then ((swarfref38_search.f k1 l0 (y391 ++ [x7_1]) x2_1).bind fun t397 => (swarfref38_search.l0 k1 l0 l1 t397 (wrap64 (x7_1 + 1)))) else (none))) else (none)) = some r := by first | (rw [hy388]; with_reducible exact H) | (have H2_ := (Option.bind_some _ _).symm.trans H; rw [hy388]; with_reducible exact H2_) | (have H2_ := (Option.bind_some _ _).symm.trans H; with_reducible exact H2_) | with_reducible exact H | (rw [hy388]; exact H) | exact H
            have Ny388 := Aside0.mk hy388
            clear hy388
            by_cases c24 : y388.length + l1.length < 17592186044416
            · rw [if_pos c24] at H
              have LMc24 := Aside0.mk c24
              clear c24
              obtain ⟨y391, hy391⟩ : ∃ y_ : List Int, y_ = (y388 ++ l1) := ⟨_, rfl⟩
              replace H : (if y391.length < 17592186044416 then ((swarfref38_search.f k1 l0 (y391 ++ [x7_1]) x2_1).bind fun t397 => (swarfref38_search.l0 k1 l0 l1 t397 (wrap64 (x7_1 + 1)))) else (none)) = some r := by first | (rw [hy391]; with_reducible exact H) | (have H2_ := (Option.bind_some _ _).symm.trans H; rw [hy391]; with_reducible exact H2_) | (have H2_ := (Option.bind_some _ _).symm.trans H; with_reducible exact H2_) | with_reducible exact H | (rw [hy391]; exact H) | exact H
              have Ny391 := Aside0.mk hy391
              clear hy391
              by_cases c25 : y391.length < 17592186044416
              · rw [if_pos c25] at H
                have LMc25 := Aside0.mk c25
                clear c25
                obtain ⟨y394, hy394⟩ : ∃ y_ : List Int, y_ = (y391 ++ [x7_1]) := ⟨_, rfl⟩
                replace H : ((swarfref38_search.f k1 l0 y394 x2_1).bind fun t397 => (swarfref38_search.l0 k1 l0 l1 t397 (wrap64 (x7_1 + 1)))) = some r := by first | (rw [hy394]; with_reducible exact H) | (have H2_ := (Option.bind_some _ _).symm.trans H; rw [hy394]; with_reducible exact H2_) | (have H2_ := (Option.bind_some _ _).symm.trans H; with_reducible exact H2_) | with_reducible exact H | (rw [hy394]; exact H) | exact H
                have Ny394 := Aside0.mk hy394
                clear hy394
                replace H := Option.bind_eq_some_iff.mp H
                obtain ⟨t397, A260, H⟩ := H
                replace H : (swarfref38_search.l0 k1 l0 l1 t397 (wrap64 (x7_1 + 1))) = some r := H
                have A26 := Aside0.mk A260
                clear A260
                have H' := Aside0.mk H
                clear H
                go_wp2_with (first | ((with_reducible refine gate_callee (f := 35) rfl ?_); refine goesL_ (some 37) rfl rfl Try.func35 (by kernel_rfl) rfl #[.slice A1 l1.length c1, .int .i64 x7_1] rfl (by (try simp only [List.map_toArray, List.map_cons, List.map_nil]); first | done | rfl | (simp only [List.length_drop, List.length_take]; rfl)) ?_; (with_reducible refine (swarfref38_has.calls k1 _ _ l1 x7_1 false _ ?side1 ?side2 A22.out).mono ?_); (case side1 => repeat (first | exact (Kd.C_below HR1.out HB.out) | (with_reducible refine Kd.C_alloc ?_ _) | (with_reducible refine Kd.C_drewN ?_ _) | (with_reducible refine Kd.C_drew ?_))); (case side2 => exact HC1.out); rintro e w' ⟨rfl, ⟨nd, rfl⟩⟩; refine ⟨_, rfl, ?_⟩) | ((with_reducible refine gate_dst (N := 40) rfl ?_); refine Kd.R_lit (Kd.int .i64) _ 3 ?hg (N := 40) ?hd (xs := ([] : List Int)) (inner := []) (ok := fun _ => True) (okp := fun _ => True) ?hr ?hp (fun _ hk => hk) trivial (Below.refl _ _) (Nat.le_refl _) (by simp) ?_; (case hd => rfl); (case hg => rfl); (case hr => first | (go_simp; done) | (go_simp; rfl)); (case hp => exact (Reps.none _ _)); intro v389 w27 ho28 hb hg_ hnew_; clear hg_ hnew_; (first | rw [← Ny388.out] at ho28 | (simp only [Int.reduceToNat] at ho28; rw [← Ny388.out] at ho28)); have n0_ := Aside0.mk (Kd.V_elder' (by (with_reducible repeat (first | apply Kd.V_alloc | apply Kd.V_drewN | apply Kd.V_drew)); exact HO_2.out) (Kd.R_base ho28) hb); have n1_ := Aside0.mk (Kd.R_lower (Kd.R_newM (M := fun k_ => (w.heap.size ≤ k_)) ho28 (below_size (by repeat (first | (with_reducible first | exact HB.out | apply below_alloc | apply pw_below_drewN | apply below_drew1) | exact HB.out))) (fun k_ h_ => h_)) (below_size (by repeat (first | (with_reducible first | exact HB.out | apply below_alloc | apply pw_below_drewN | apply below_drew1) | exact HB.out)))); have n2_ := Aside0.mk (below_step (by repeat (first | (with_reducible first | exact HB.out | apply below_alloc | apply pw_below_drewN | apply below_drew1) | exact HB.out)) hb); clear HO_2; clear HB; have HO_2 := n0_; have HO390 := n1_; have HB := n2_; clear n0_ n1_ n2_; clear hb ho28) | ((with_reducible refine gate_builtin (b := .append) (xs := #[.tmp 40, .tmp 41]) rfl ?_); at_builtin; refine Kd.R_append_rows (Kd.int .i64) (w0 := w) w.heap.size rfl (.tmp 40) (.tmp 41) 23 3 (.int .i64 0) 8 rfl Try.underlying23 info3 rfl (by decide) (by omega) v389 y388 l1 _ _ _ (fun k_ => (w.heap.size ≤ k_)) (fun _ => False) rfl rfl ?aO ?aR (fun _ _ h => h) (fun _ h => h.elim) ?aF ?aB ?aS ?aL ?_; (case aR => repeat (first | exact (Kd.C_below HR1.out HB.out) | (with_reducible refine Kd.C_alloc ?_ _) | (with_reducible refine Kd.C_drewN ?_ _) | (with_reducible refine Kd.C_drew ?_))); (case aB => exact (by repeat (first | (with_reducible first | exact HB.out | apply below_alloc | apply pw_below_drewN | apply below_drew1) | exact HB.out))); (case aF => exact (fun k_ hk => (Nat.le_trans (below_size (by repeat (first | (with_reducible first | exact HB.out | apply below_alloc | apply pw_below_drewN | apply below_drew1) | exact HB.out))) hk))); (case aO => exact (by (with_reducible repeat (first | apply Kd.R_alloc | apply Kd.R_drewN | apply Kd.R_drew)); exact Kd.R_mono HO390.out (fun _ hk => hk.1))); (case aS => exact (below_size (by repeat (first | (with_reducible first | exact HB.out | apply below_alloc | apply pw_below_drewN | apply below_drew1) | exact HB.out)))); (case aL => have := LMc24.out; omega); intro v392 w29 ho hb hg hat; rw [← Ny391.out] at ho; have n0_ := Aside0.mk (Kd.V_afterv (ok := (fun k_ => (P2_ k_ ∨ w.heap.size ≤ k_))) (by (with_reducible repeat (first | apply Kd.V_alloc | apply Kd.V_drewN | apply Kd.V_drew)); exact HO_2.out) hg hat); have n1_ := Aside0.mk (hb); have n2_ := Aside0.mk (ho); clear HO_2; clear HB; clear HO390; have HO_2 := n0_; have HB := n1_; have HO393 := n2_; clear n0_ n1_ n2_; clear ho hb hg hat) | ((with_reducible refine gate_builtin (b := .append) (xs := #[.tmp 42, .tmp 44]) rfl ?_); at_builtin; refine Kd.R_append (Kd.int .i64) (w0 := w) w.heap.size rfl (.tmp 42) (.tmp 44) 23 3 (.int .i64 0) 8 rfl Try.underlying23 info3 rfl (by decide) (by omega) v392 y391 x7_1 [.int .i64 x7_1] (fun k_ => (w.heap.size ≤ k_)) (fun _ => False) rfl rfl ?aP (fun _ hk => hk.elim) ?aF ?aO ?aB ?aS ?aL ?_; (case aP => exact rfl); (case aB => exact (by repeat (first | (with_reducible first | exact HB.out | apply below_alloc | apply pw_below_drewN | apply below_drew1) | exact HB.out))); (case aF => exact (fun k_ hk => (Nat.le_trans (below_size (by repeat (first | (with_reducible first | exact HB.out | apply below_alloc | apply pw_below_drewN | apply below_drew1) | exact HB.out))) hk))); (case aO => exact (by (with_reducible repeat (first | apply Kd.R_alloc | apply Kd.R_drewN | apply Kd.R_drew)); exact HO393.out)); (case aS => exact (below_size (by repeat (first | (with_reducible first | exact HB.out | apply below_alloc | apply pw_below_drewN | apply below_drew1) | exact HB.out)))); (case aL => have := LMc25.out; omega); intro v395 w30 ho hb hg hat; rw [← Ny394.out] at ho; have n0_ := Aside0.mk (Kd.V_afterv (ok := (fun k_ => (P2_ k_ ∨ w.heap.size ≤ k_))) (by (with_reducible repeat (first | apply Kd.V_alloc | apply Kd.V_drewN | apply Kd.V_drew)); exact HO_2.out) hg hat); have n1_ := Aside0.mk (hb); have n2_ := Aside0.mk (ho); clear HO_2; clear HB; clear HO393; have HO_2 := n0_; have HB := n1_; have HO396 := n2_; clear n0_ n1_ n2_; clear ho hb hg hat; obtain ⟨Ao31, co31, eo31⟩ := Kd.R_slice HO396.out; subst eo31; obtain ⟨Ao32, co32, eo32⟩ := Kd.V_slice HO_2.out; subst eo32) | ((with_reducible refine gate_callee (f := 39) rfl ?_); refine goesL_ (some 47) rfl rfl Try.func39 (by kernel_rfl) rfl #[.slice A0 l0.length c0, .slice Ao31 y394.length co31, .slice Ao32 x2_1.length co32] rfl (by (try simp only [List.map_toArray, List.map_cons, List.map_nil]); first | done | rfl | (simp only [List.length_drop, List.length_take]; rfl)) ?_; (with_reducible refine (ih k1 (by have := HK1.out; omega) _ _ l0 _ _ y394 (fun k_ => ((P2_ k_ ∨ w.heap.size ≤ k_) ∧ some k_ ≠ (.slice Ao31 y394.length co31 : Value).ownBlock)) _ _ x2_1 t397 _ ?side1 ?side2 ?side3 ?side4 ?side5 A26.out).mono ?_); (case side1 => repeat (first | exact (Kd.C_below HR0.out HB.out) | (with_reducible refine Kd.C_alloc ?_ _) | (with_reducible refine Kd.C_drewN ?_ _) | (with_reducible refine Kd.C_drew ?_))); (case side2 => exact HC0.out); (case side3 => repeat (first | exact (Kd.R_reads' HO396.out).2.2 | (with_reducible refine Kd.C_alloc ?_ _) | (with_reducible refine Kd.C_drewN ?_ _) | (with_reducible refine Kd.C_drew ?_))); (case side4 => exact (Kd.R_reads' HO396.out).2.1); (case side5 => exact HO_2.out); rintro e w33 ⟨v398, rfl, ho0, hb⟩; refine ⟨_, rfl, ?_⟩; have n0_ := Aside0.mk (Kd.V_below (by (with_reducible repeat (first | apply Kd.V_alloc | apply Kd.V_drewN | apply Kd.V_drew)); exact HO_2.out) hb); have n1_ := Aside0.mk (Kd.R_below (by (with_reducible repeat (first | apply Kd.R_alloc | apply Kd.R_drewN | apply Kd.R_drew)); exact HO396.out) hb); have n2_ := Aside0.mk (Kd.V_lower (Kd.V_mono (ok' := fun k_ => (P2_ k_ ∨ w.heap.size ≤ k_) ∧ some k_ ≠ (.slice Ao31 y394.length co31 : Value).ownBlock) ho0 (fun k_ hk_ => ⟨Or.elim hk_ (fun hs_ => hs_.1) (fun hn_ => (.inr (Nat.le_trans (below_size (by repeat (first | (with_reducible first | exact HB.out | apply below_alloc | apply pw_below_drewN | apply below_drew1) | exact HB.out))) hn_))), Or.elim hk_ (fun hs_ => hs_.2) (fun hn_ => (Kd.fresh' (Kd.R_lt (by (with_reducible repeat (first | apply Kd.R_alloc | apply Kd.R_drewN | apply Kd.R_drew)); exact HO396.out)) k_ hn_))⟩)) (below_size (by repeat (first | (with_reducible first | exact HB.out | apply below_alloc | apply pw_below_drewN | apply below_drew1) | exact HB.out)))); have n3_ := Aside0.mk (below_step (by repeat (first | (with_reducible first | exact HB.out | apply below_alloc | apply pw_below_drewN | apply below_drew1) | exact HB.out)) hb); clear HO_2; clear HO396; clear HB; have HO_2 := n0_; have HO396 := n1_; have HO399 := n2_; have HB := n3_; clear n0_ n1_ n2_ n3_; (try clear hb); (try clear hb2); (try clear hk); (try clear hi); (try clear ho0)))
                go_roundg k1
                case measure => have := HK1.out; omega
                case rel => exact ⟨(t397), (wrap64 (x7_1 + 1)), (by first | rfl | (simp; done) | (simp [*]; done)), H', ⟨by have := HK1.out; omega⟩, ⟨by (with_reducible repeat (first | apply Kd.V_alloc | apply Kd.V_drewN | apply Kd.V_drew)); exact Kd.V_mono HO399.out (fun _ hk => hk.1)⟩, ⟨by repeat (first | (with_reducible first | exact HB.out | apply below_alloc | apply pw_below_drewN | apply below_drew1) | exact HB.out)⟩⟩
              · rw [if_neg c25] at H
                exact absurd H (by simp)
            · rw [if_neg c24] at H
              exact absurd H (by simp)
        · rw [if_neg c21] at H
          have c21b0 : decide (x7_1 < (l0.length : Int)) = false := decide_eq_false c21
          clear c21
          obtain rfl := Option.some.inj H
          go_wp2
          go_ret
          exact ⟨_, by first | rfl | (simp [errW_none, errW_some] <;> rfl) | (simp [*, errW_none, errW_some] <;> rfl), by (with_reducible repeat (first | apply Kd.V_alloc | apply Kd.V_drewN | apply Kd.V_drew)); exact HO_2.out, by repeat (first | (with_reducible first | exact HB.out | apply below_alloc | apply pw_below_drewN | apply below_drew1) | exact HB.out)⟩

end Go.Proofs.Ytohjocajaanhaaa.P
