import Derived.Test.YtbbkclcfmcjlgaaT9M21
import Derived.Test.YtbbkclcfmcjlgaaT9M26
import Derived.Test.YtbbkclcfmcjlgaaT9M29
import Derived.Test.YtbbkclcfmcjlgaaT9M23
import Derived.Test.YtbbkclcfmcjlgaaT9Px31
import Derived.Test.YtbbkclcfmcjlgaaT9GRead
namespace Go.Proofs.Ytbbkclcfmcjlgaa.Gr
set_option linter.unusedVariables false

inductive Tc (R : Int → Int → Prop) : Int → Int → Prop
 | one {a b : Int} : R a b → Tc R a b
 | step {a c b : Int} : R a c → Tc R c b → Tc R a b
section
variable {R R' : Int → Int → Prop} {n a b c : Int}
theorem Tc.trans (h : Tc R a b) : Tc R b c → Tc R a c := by
 induction h with
 | one h => exact fun k => .step h k
 | step h _ ih => exact fun k => .step h (ih k)
theorem Tc.mono (hr : ∀ a b, R a b → R' a b) (h : Tc R a b) : Tc R' a b := by
 induction h with
 | one h => exact .one (hr _ _ h)
 | step h _ ih => exact .step (hr _ _ h) ih
def Inn (R : Int → Int → Prop) (n : Int) : Prop := ∀ a b, R a b → (0 ≤ a ∧ a < n) ∧ (0 ≤ b ∧ b < n)
theorem Tc.inn (hr : Inn R n) (h : Tc R a b) : (0 ≤ a ∧ a < n) ∧ (0 ≤ b ∧ b < n) := by
 induction h with
 | one h => exact hr _ _ h
 | step h _ ih => exact ⟨(hr _ _ h).1, ih.2⟩
theorem Tc.head (h : Tc R a b) : ∃ c, R a c ∧ (c = b ∨ Tc R c b) := by
 cases h with
 | one h => exact ⟨_, h, .inl rfl⟩
 | step h k => exact ⟨_, h, .inr k⟩
inductive Pk (R : Int → Int → Prop) (k : Int) : Int → Int → Prop
 | one {a b : Int} : R a b → Pk R k a b
 | step {a c b : Int} : R a c → c < k → Pk R k c b → Pk R k a b
variable {k : Int}
theorem Pk.tc (h : Pk R k a b) : Tc R a b := by
 induction h with
 | one h => exact .one h
 | step h _ _ ih => exact .step h ih
theorem Pk.mono {k' : Int} (hk : k ≤ k') (h : Pk R k a b) : Pk R k' a b := by
 induction h with
 | one h => exact .one h
 | step h hc _ ih => exact .step h (by omega) ih
theorem Pk.of_tc (hr : Inn R n) (h : Tc R a b) : Pk R n a b := by
 induction h with
 | one h => exact .one h
 | step h _ ih => exact .step h (hr _ _ h).2.2 ih
theorem Pk.split (h : Pk R (k + 1) a b) : Pk R k a b ∨ (Pk R k a k ∧ Pk R k k b) := by
 induction h with
 | one h => exact .inl (.one h)
 | @step a c b h hc _ ih =>
  by_cases e : c = k
  ·subst e
   rcases ih with ih | ih
   ·exact .inr ⟨.one h, ih⟩
   ·exact .inr ⟨.one h, ih.2⟩
  ·have hc' : c < k := by omega
   rcases ih with ih | ih
   ·exact .inl (.step h hc' ih)
   ·exact .inr ⟨.step h hc' ih.1, ih.2⟩
theorem Pk.zero (hr : Inn R n) (h : Pk R 0 a b) : R a b := by
 cases h with
 | one h => exact h
 | step h hc _ => have := (hr _ _ h).2.1; omega
end

theorem pig (n : Nat) : ∀ o : List Int, o.Nodup → (∀ x ∈ o, 0 ≤ x ∧ x < (n : Int)) → o.length ≤ n := by
 induction n with
 | zero =>
  intro o _ h
  cases o with
  | nil => exact Nat.le_refl _
  | cons x o => have := h x List.mem_cons_self; omega
 | succ n ih =>
  intro o hd h
  by_cases hm : (n : Int) ∈ o
  ·have h1 := ih (o.erase (n : Int)) (hd.erase _) (fun x hx => by
    have h2 := (hd.mem_erase_iff).1 hx
    have h3 := h x h2.2
    have : x ≠ (n : Int) := h2.1
    omega)
   rw [List.length_erase_of_mem hm] at h1
   omega
  ·have h1 := ih o hd (fun x hx => by
    have h3 := h x hx
    have : x ≠ (n : Int) := fun e => hm (e ▸ hx)
    omega)
   omega
theorem all_in (n : Nat) : ∀ o : List Int, (∀ i : Int, 0 ≤ i → i < (n : Int) → i ∈ o) → n ≤ o.length := by
 induction n with
 | zero => intro o _; omega
 | succ n ih =>
  intro o h
  have hm := h n (by omega) (by omega)
  have h1 := ih (o.erase (n : Int)) (fun i h0 hi => (List.mem_erase_of_ne (by omega)).2 (h i h0 (by omega)))
  rw [List.length_erase_of_mem hm] at h1
  have := List.length_pos_of_mem hm
  omega
theorem some_out {n : Int} {o : List Int} (h : (o.length : Int) < n) : ∃ i : Int, (0 ≤ i ∧ i < n) ∧ ¬ i ∈ o := by
 by_cases hx : ∃ i : Int, (0 ≤ i ∧ i < n) ∧ ¬ i ∈ o
 ·exact hx
 ·have := all_in n.toNat o (fun i h0 hi => by
   by_cases hm : i ∈ o
   ·exact hm
   ·exact absurd ⟨i, ⟨h0, by omega⟩, hm⟩ hx)
  omega
theorem full_in {n : Int} {o : List Int} (hd : o.Nodup) (h : ∀ x ∈ o, 0 ≤ x ∧ x < n) (hl : (o.length : Int) = n) (i : Int) (h0 : 0 ≤ i) (hi : i < n) : i ∈ o := by
 by_cases hm : i ∈ o
 ·exact hm
 ·have := pig n.toNat (i :: o) (List.nodup_cons.2 ⟨hm, hd⟩) (fun x hx => by
   rcases List.mem_cons.1 hx with rfl | hx
   ·omega
   ·have := h x hx; omega)
  simp only [List.length_cons] at this
  omega

def Acyc (R : Int → Int → Prop) : Prop := ∀ a, ¬ Tc R a a
def Topo (R : Int → Int → Prop) (o : List Int) : Prop := ∀ (i : Nat) (x : Int), o[i]? = some x → ∀ j, R j x → j ∈ o.take i
theorem Topo.tc {R : Int → Int → Prop} {o : List Int} (ht : Topo R o) {a b : Int} (h : Tc R a b) : ∀ i : Nat, o[i]? = some b → a ∈ o.take i := by
 induction h with
 | one h => exact fun i hi => ht i _ hi _ h
 | @step a c b h _ ih =>
  intro i hi
  have hc := ih i hi
  obtain ⟨j, hj⟩ := List.getElem?_of_mem hc
  have hji : j < i := by
   rw [List.getElem?_take] at hj
   split at hj
   ·assumption
   ·cases hj
  have hj' : o[j]? = some c := by
   rw [List.getElem?_take, if_pos hji] at hj
   exact hj
  have := ht j c hj' a h
  exact (List.take_subset_take_left o (by omega)) this
theorem Topo.acyc {R : Int → Int → Prop} {o : List Int} {n : Int} (ht : Topo R o) (hd : o.Nodup) (hin : Inn R n) (hall : ∀ i, 0 ≤ i → i < n → i ∈ o) : Acyc R := by
 intro a h
 have ha := (h.inn hin).1
 obtain ⟨i, hi⟩ := List.getElem?_of_mem (hall a ha.1 ha.2)
 have h1 := ht.tc h i hi
 obtain ⟨j, hj⟩ := List.getElem?_of_mem h1
 have hji : j < i := by
  rw [List.getElem?_take] at hj
  split at hj
  ·assumption
  ·cases hj
 rw [List.getElem?_take, if_pos hji] at hj
 obtain ⟨hil, hi2⟩ := List.getElem?_eq_some_iff.1 hi
 obtain ⟨hjl, hj2⟩ := List.getElem?_eq_some_iff.1 hj
 have := (List.getElem_inj (xs := o) (h₀ := hjl) (h₁ := hil) hd).1 (hj2.trans hi2.symm)
 omega
theorem source {R : Int → Int → Prop} {n : Int} (hin : Inn R n) (hac : Acyc R) (o : List Int) (hx : ∃ i : Int, (0 ≤ i ∧ i < n) ∧ ¬ i ∈ o) : ∃ i : Int, (0 ≤ i ∧ i < n) ∧ ¬ i ∈ o ∧ ∀ j, R j i → j ∈ o := by
 by_cases hz : ∃ i : Int, (0 ≤ i ∧ i < n) ∧ ¬ i ∈ o ∧ ∀ j, R j i → j ∈ o
 ·exact hz
 ·exfalso
  have step : ∀ i : Int, (0 ≤ i ∧ i < n) → ¬ i ∈ o → ∃ j, R j i ∧ ¬ j ∈ o := by
   intro i hi ho
   by_cases he : ∃ j, R j i ∧ ¬ j ∈ o
   ·exact he
   ·exact absurd ⟨i, hi, ho, fun j hj => by
     by_cases hm : j ∈ o
     ·exact hm
     ·exact absurd ⟨j, hj, hm⟩ he⟩ hz
  have chain : ∀ m : Nat, ∃ (h : Int) (L : List Int), (h :: L).length = m + 1 ∧ (h :: L).Nodup ∧ (∀ x ∈ h :: L, 0 ≤ x ∧ x < n) ∧ ¬ h ∈ o ∧ ∀ y ∈ L, Tc R h y := by
   intro m
   induction m with
   | zero =>
    obtain ⟨i, hi, ho⟩ := hx
    exact ⟨i, [], rfl, by simp, by simpa using hi, ho, by simp⟩
   | succ m ih =>
    obtain ⟨h, L, hl, hd, hb, ho, ht⟩ := ih
    obtain ⟨j, hj, hjo⟩ := step h (hb h List.mem_cons_self) ho
    refine ⟨j, h :: L, by simp only [List.length_cons] at hl ⊢; omega, List.nodup_cons.2 ⟨fun hm => ?_, hd⟩, fun x hx => ?_, hjo, fun y hy => ?_⟩
    ·rcases List.mem_cons.1 hm with rfl | hm
     ·exact hac _ (.one hj)
     ·exact hac _ (.step hj (ht _ hm))
    ·rcases List.mem_cons.1 hx with rfl | hx
     ·exact (hin _ _ hj).1
     ·exact hb x hx
    ·rcases List.mem_cons.1 hy with rfl | hy
     ·exact .one hj
     ·exact .step hj (ht y hy)
  obtain ⟨h, L, hl, hd, hb, _, _⟩ := chain n.toNat
  have := pig n.toNat (h :: L) hd (fun x hx => by have := hb x hx; omega)
  omega

end Go.Proofs.Ytbbkclcfmcjlgaa.Gr



namespace Go.Proofs.Ytbbkclcfmcjlgaa.P
open Go.RowKit Go.Proofs.YtbbkclcfmcjlgaaW.PrintWords Go.Proofs.YtbbkclcfmcjlgaaW.PrintLast Go.Proofs.YtbbkclcfmcjlgaaW.PrintMore
attribute [local go_sem] max2_int min2_int max_two min_two max_three min_three max_four min_four
set_option linter.unusedVariables false
set_option linter.unusedSimpArgs false

def swarfref29_fault.f (k : Nat) (a0 : Int) (l1 : List (S47)) : Option (Int) := (swarfref29_Valid.f k a0 l1).bind fun t325 => (if t325 = 0 then ((swarfref29_Cyclic.f k a0 l1).bind fun t326 => (if t326 = true then (some 12) else (some 0))) else (some t325))
set_option maxHeartbeats 8000000 in
set_option maxRecDepth 100000 in
theorem swarfref29_fault.calls (k : Nat) (a0 : Int) (A1 : Option Addr) (c1 : Nat) (l1 : List (S47)) (r : Int) (w : World) (hr1 : Kd.C k47 w A1 l1.length l1) (hc1 : l1.length ≤ c1) (h : swarfref29_fault.f k a0 l1 = some r) :
  Calls Try.prog 47 #[.int .i64 a0, .slice A1 l1.length c1] w fun e w' => e = .returned (.int .i64 r) ∧ Below w.heap.size w w' := by
 have HR1 := aK hr1
 have HC1 := aK hc1
 clear hr1 hc1
 have HB := aK (Below.refl w.heap.size w)
 have H : ((swarfref29_Valid.f k a0 l1).bind fun t325 => (if t325 = 0 then ((swarfref29_Cyclic.f k a0 l1).bind fun t326 => (if t326 = true then (some 12) else (some 0))) else (some t325))) = some r := h
 clear h
 replace H := oB_ H
 obtain ⟨t325, A30, H⟩ := H
 replace H : (if t325 = 0 then ((swarfref29_Cyclic.f k a0 l1).bind fun t326 => (if t326 = true then (some 12) else (some 0))) else (some t325)) = some r := H
 have A3 := aK A30
 clear A30
 by_cases c4 : t325 = 0
 ·rw [if_pos c4] at H
  have c4b0 : (t325 == 0) = true := beq_iff_eq.mpr c4
  have c4b1 : (t325 != 0) = false := bne_eq_false_iff_eq.mpr c4
  clear c4; replace H := oB_ H
  obtain ⟨t326, A50, H⟩ := H
  replace H : (if t326 = true then (some 12) else (some 0)) = some r := H
  have A5 := aK A50; clear A50
  by_cases c6 : t326 = true
  ·subst c6
   have H1 : (some 12) = some r := by rw [if_pos rfl] at H; exact H
   clear H; have H := H1; clear H1; obtain rfl := Option.some.inj H
   go_enter Try.func47, Try.ntmps47
   go_wp2_with (first | ((with_reducible refine gate_callee (f := 21) rfl ?_); refine goesL_ (some 8) rfl rfl Try.func21 (by kernel_rfl) rfl #[.int .i64 a0, .slice A1 l1.length c1] rfl (by (try simp only [List.map_toArray, List.map_cons, List.map_nil]); first | done | rfl | (simp only [List.length_drop, List.length_take]; rfl)) ?_; (with_reducible refine (swarfref29_Valid.calls k a0 _ _ l1 t325 _ ?side1 ?side2 A3.out).mono ?_); (case side1 => repeat (first | exact HR1.out | (with_reducible refine Kd.C_alloc ?_ _) | (with_reducible refine Kd.C_drewN ?_ _) | (with_reducible refine Kd.C_drew ?_))); (case side2 => exact HC1.out); rintro e w' ⟨rfl, ⟨nd, rfl⟩⟩; refine ⟨_, rfl, ?_⟩) | ((with_reducible refine gate_callee (f := 23) rfl ?_); refine goesL_ (some 14) rfl rfl Try.func23 (by kernel_rfl) rfl #[.int .i64 a0, .slice A1 l1.length c1] rfl (by (try simp only [List.map_toArray, List.map_cons, List.map_nil]); first | done | rfl | (simp only [List.length_drop, List.length_take]; rfl)) ?_; (with_reducible refine (swarfref29_Cyclic.calls k a0 _ _ l1 true _ ?side1 ?side2 A5.out).mono ?_); (case side1 => repeat (first | exact HR1.out | (with_reducible refine Kd.C_alloc ?_ _) | (with_reducible refine Kd.C_drewN ?_ _) | (with_reducible refine Kd.C_drew ?_))); (case side2 => exact HC1.out); rintro e w7 ⟨rfl, hb⟩; refine ⟨_, rfl, ?_⟩; have n0_ := aK (bT_ (by repeat (first | (with_reducible first | exact HB.out | apply bA_ | apply bN_ | apply bD_) | exact HB.out)) hb); clear HB; have HB := n0_; clear n0_; (try clear hb); (try clear hb2); (try clear hk); (try clear hi)))
   go_ret
   exact ⟨by first | rfl | (simp [errW_none, errW_some] <;> rfl) | (simp [*, errW_none, errW_some] <;> rfl), by repeat (first | (with_reducible first | exact HB.out | apply bA_ | apply bN_ | apply bD_) | exact HB.out)⟩
  ·replace c6 := Bool.eq_false_iff.mpr c6
   subst c6
   have H1 : (some 0) = some r := by rw [if_neg (show ¬ (false = true) by decide)] at H; exact H
   clear H; have H := H1; clear H1; obtain rfl := Option.some.inj H
   go_enter Try.func47, Try.ntmps47
   go_wp2_with (first | ((with_reducible refine gate_callee (f := 21) rfl ?_); refine goesL_ (some 8) rfl rfl Try.func21 (by kernel_rfl) rfl #[.int .i64 a0, .slice A1 l1.length c1] rfl (by (try simp only [List.map_toArray, List.map_cons, List.map_nil]); first | done | rfl | (simp only [List.length_drop, List.length_take]; rfl)) ?_; (with_reducible refine (swarfref29_Valid.calls k a0 _ _ l1 t325 _ ?side1 ?side2 A3.out).mono ?_); (case side1 => repeat (first | exact HR1.out | (with_reducible refine Kd.C_alloc ?_ _) | (with_reducible refine Kd.C_drewN ?_ _) | (with_reducible refine Kd.C_drew ?_))); (case side2 => exact HC1.out); rintro e w' ⟨rfl, ⟨nd, rfl⟩⟩; refine ⟨_, rfl, ?_⟩) | ((with_reducible refine gate_callee (f := 23) rfl ?_); refine goesL_ (some 14) rfl rfl Try.func23 (by kernel_rfl) rfl #[.int .i64 a0, .slice A1 l1.length c1] rfl (by (try simp only [List.map_toArray, List.map_cons, List.map_nil]); first | done | rfl | (simp only [List.length_drop, List.length_take]; rfl)) ?_; (with_reducible refine (swarfref29_Cyclic.calls k a0 _ _ l1 false _ ?side1 ?side2 A5.out).mono ?_); (case side1 => repeat (first | exact HR1.out | (with_reducible refine Kd.C_alloc ?_ _) | (with_reducible refine Kd.C_drewN ?_ _) | (with_reducible refine Kd.C_drew ?_))); (case side2 => exact HC1.out); rintro e w8 ⟨rfl, hb⟩; refine ⟨_, rfl, ?_⟩; have n0_ := aK (bT_ (by repeat (first | (with_reducible first | exact HB.out | apply bA_ | apply bN_ | apply bD_) | exact HB.out)) hb); clear HB; have HB := n0_; clear n0_; (try clear hb); (try clear hb2); (try clear hk); (try clear hi)))
   go_ret
   exact ⟨by first | rfl | (simp [errW_none, errW_some] <;> rfl) | (simp [*, errW_none, errW_some] <;> rfl), by repeat (first | (with_reducible first | exact HB.out | apply bA_ | apply bN_ | apply bD_) | exact HB.out)⟩
 ·rw [if_neg c4] at H
  have c4b0 : (t325 == 0) = false := beq_eq_false_iff_ne.mpr c4
  have c4b1 : (t325 != 0) = true := bne_iff_ne.mpr c4
  obtain rfl := Option.some.inj H
  go_enter Try.func47, Try.ntmps47
  go_wp2_with (first | ((with_reducible refine gate_callee (f := 21) rfl ?_); refine goesL_ (some 8) rfl rfl Try.func21 (by kernel_rfl) rfl #[.int .i64 a0, .slice A1 l1.length c1] rfl (by (try simp only [List.map_toArray, List.map_cons, List.map_nil]); first | done | rfl | (simp only [List.length_drop, List.length_take]; rfl)) ?_; (with_reducible refine (swarfref29_Valid.calls k a0 _ _ l1 t325 _ ?side1 ?side2 A3.out).mono ?_); (case side1 => repeat (first | exact HR1.out | (with_reducible refine Kd.C_alloc ?_ _) | (with_reducible refine Kd.C_drewN ?_ _) | (with_reducible refine Kd.C_drew ?_))); (case side2 => exact HC1.out); rintro e w' ⟨rfl, ⟨nd, rfl⟩⟩; refine ⟨_, rfl, ?_⟩))
  go_ret
  exact ⟨by first | rfl | (simp [errW_none, errW_some] <;> rfl) | (simp [*, errW_none, errW_some] <;> rfl), by repeat (first | (with_reducible first | exact HB.out | apply bA_ | apply bN_ | apply bD_) | exact HB.out)⟩

end Go.Proofs.Ytbbkclcfmcjlgaa.P



namespace Go.Proofs.Ytbbkclcfmcjlgaa.B
open Go.RowKit Go.Proofs.Ytbbkclcfmcjlgaa.P Go.Proofs.Ytbbkclcfmcjlgaa.Gr Go.Proofs.YtbbkclcfmcjlgaaW.PrintWords Go.Proofs.YtbbkclcfmcjlgaaW.PrintLast Go.Proofs.YtbbkclcfmcjlgaaW.PrintMore
set_option linter.unusedVariables false
set_option linter.unusedSimpArgs false

def Rl (l : List S47) (a b : Int) : Prop := (⟨a, b⟩ : S47) ∈ l
theorem rl_inn {n : Int} {l : List S47} (h : ∀ p ∈ l, okp n p = true) : Inn (Rl l) n := fun a b hab => ((okp_iff _ _).1 (h _ hab)).2
def mt (m : List (List Bool)) (a b : Int) : Bool := rdOf false (rd_L7 m a) b
def st (m : List (List Bool)) (a b : Int) (v : Bool) : List (List Bool) := m.set a.toNat ((rd_L7 m a).set b.toNat v)
def Sq (n : Int) (m : List (List Bool)) : Prop := (m.length : Int) = n ∧ ∀ a, 0 ≤ a → a < n → ((rd_L7 m a).length : Int) = n
theorem rd_set_self (m : List (List Bool)) (a : Int) (y : List Bool) (h0 : 0 ≤ a) (h1 : a < (m.length : Int)) : rd_L7 (m.set a.toNat y) a = y := by
 unfold rd_L7
 rw [List.getD_eq_getElem?_getD, List.getElem?_set_self (by omega)]; rfl
theorem rd_set_ne (m : List (List Bool)) (a b : Int) (y : List Bool) (h0 : 0 ≤ a) (hb : 0 ≤ b) (h : b ≠ a) : rd_L7 (m.set a.toNat y) b = rd_L7 m b := by
 unfold rd_L7
 rw [List.getD_eq_getElem?_getD, List.getElem?_set_ne (by omega), List.getD_eq_getElem?_getD]
theorem of_set_self (r : List Bool) (b : Int) (v : Bool) (h0 : 0 ≤ b) (h1 : b < (r.length : Int)) : rdOf false (r.set b.toNat v) b = v := by
 unfold rdOf
 rw [List.getD_eq_getElem?_getD, List.getElem?_set_self (by omega)]; rfl
theorem of_set_ne (r : List Bool) (b c : Int) (v : Bool) (h0 : 0 ≤ b) (hc : 0 ≤ c) (h : c ≠ b) : rdOf false (r.set b.toNat v) c = rdOf false r c := by
 unfold rdOf
 rw [List.getD_eq_getElem?_getD, List.getElem?_set_ne (by omega), List.getD_eq_getElem?_getD]
theorem Sq.st {n : Int} {m : List (List Bool)} (h : Sq n m) {a b : Int} (a0 : 0 ≤ a) (a1 : a < n) (v : Bool) : Sq n (B.st m a b v) := by
 refine ⟨by unfold B.st; rw [List.length_set]; exact h.1, fun c c0 c1 => ?_⟩
 unfold B.st
 by_cases e : c = a
 ·subst e
  rw [rd_set_self _ _ _ a0 (by rw [h.1]; exact a1), List.length_set]
  exact h.2 c c0 c1
 ·rw [rd_set_ne _ _ _ _ a0 c0 e]
  exact h.2 c c0 c1
theorem mt_st {n : Int} {m : List (List Bool)} (h : Sq n m) {a b : Int} (a0 : 0 ≤ a) (a1 : a < n) (b0 : 0 ≤ b) (b1 : b < n) (v : Bool) {c d : Int} (c0 : 0 ≤ c) (d0 : 0 ≤ d) : mt (st m a b v) c d = if c = a ∧ d = b then v else mt m c d := by
 unfold mt st
 by_cases e : c = a
 ·subst e
  rw [rd_set_self _ _ _ a0 (by rw [h.1]; exact a1)]
  by_cases e2 : d = b
  ·subst e2
   rw [if_pos ⟨rfl, rfl⟩, of_set_self _ _ _ b0 (by rw [h.2 c a0 a1]; exact b1)]
  ·rw [if_neg (fun h => e2 h.2), of_set_ne _ _ _ _ b0 d0 e2]
 ·rw [if_neg (fun h => e h.1), rd_set_ne _ _ _ _ a0 c0 e]

def Inv2 (n : Int) (l : List S47) (k : Int) (m : List (List Bool)) : Prop :=
 Sq n m ∧ (∀ a b, 0 ≤ a → 0 ≤ b → mt m a b = true → Tc (Rl l) a b) ∧ (∀ a b, Pk (Rl l) k a b → mt m a b = true)
def Inv4 (n : Int) (l : List S47) (k a b : Int) (m : List (List Bool)) : Prop :=
 Inv2 n l k m ∧ ∀ a' b', (a' < a ∨ (a' = a ∧ b' < b)) → Pk (Rl l) (k + 1) a' b' → mt m a' b' = true
theorem inv4_set {n : Int} {l : List S47} (hin : Inn (Rl l) n) {k a b : Int} {m : List (List Bool)} (h : Inv4 n l k a b m) (a0 : 0 ≤ a) (a1 : a < n) (b0 : 0 ≤ b) (b1 : b < n) (k0 : 0 ≤ k) (v : Bool) (hv : v = (mt m a b || (mt m a k && mt m k b))) : Inv4 n l k a (b + 1) (st m a b v) := by
 obtain ⟨⟨hs, hd, hc⟩, hx⟩ := h
 have hm := fun {c d : Int} (c0 : 0 ≤ c) (d0 : 0 ≤ d) => mt_st hs a0 a1 b0 b1 v c0 d0
 refine ⟨⟨hs.st a0 a1 v, fun c d c0 d0 hcd => ?_, fun c d hcd => ?_⟩, fun c d hlt hcd => ?_⟩
 ·rw [hm c0 d0] at hcd
  split at hcd
  ·rename_i e
   obtain ⟨rfl, rfl⟩ := e
   rw [hv, Bool.or_eq_true, Bool.and_eq_true] at hcd
   rcases hcd with h1 | ⟨h1, h2⟩
   ·exact hd _ _ a0 b0 h1
   ·exact (hd _ _ a0 k0 h1).trans (hd _ _ k0 b0 h2)
  ·exact hd c d c0 d0 hcd
 ·have hr := (hcd.tc.inn hin)
  rw [hm hr.1.1 hr.2.1]
  split
  ·rename_i e
   obtain ⟨rfl, rfl⟩ := e
   rw [hv, hc _ _ hcd]; rfl
  ·exact hc c d hcd
 ·have hr := (hcd.tc.inn hin)
  rw [hm hr.1.1 hr.2.1]
  split
  ·rename_i e
   obtain ⟨rfl, rfl⟩ := e
   rw [hv]
   rcases hcd.split with h1 | ⟨h1, h2⟩
   ·rw [hc _ _ h1]; rfl
   ·rw [hc _ _ h1, hc _ _ h2]; simp
  ·rename_i e
   exact hx c d (by omega) hcd
theorem dep_l4 {n : Int} {l : List S47} (hn : 0 ≤ n ∧ n ≤ 200) (hin : Inn (Rl l) n) (k a : Int) (k0 : 0 ≤ k) (k1 : k < n) (a0 : 0 ≤ a) (a1 : a < n) (Post : List (List Bool) → Prop)
  (hk : ∀ m, Inv4 n l k (a + 1) 0 m → EvP (fun f => swarfref29_Depends.l3 f n m k (a + 1)) Post) (d : Nat) : ∀ (b : Int) (m : List (List Bool)), 0 ≤ b → b + d = n → Inv4 n l k a b m → EvP (fun f => swarfref29_Depends.l4 f n m k a b) Post := by
 induction d with
 | zero =>
  intro b m b0 hb h
  refine EvP.step (fun f => ?_) (hk m ⟨h.1, fun c e hlt hp => h.2 c e ?_ hp⟩)
  ·simp only [swarfref29_Depends.l4]
   rw [if_neg (by omega), wrap_succ a a0 (by omega)]
  ·have := hp.tc.inn hin
   omega
 | succ d ih =>
  intro b m b0 hb h
  have hw := wrap_succ b b0 (by omega)
  have hs := h.1.1
  have la := hs.2 a a0 a1
  have lk := hs.2 k k0 k1
  have lm := hs.1
  by_cases c1 : mt m a b = true
  ·refine EvP.step (fun f => ?_) (ih (b + 1) _ (by omega) (by omega) (inv4_set hin h a0 a1 b0 (by omega) k0 true (by rw [c1]; rfl)))
   simp only [swarfref29_Depends.l4]
   rw [if_pos (by omega), if_pos a0, if_pos (by omega), if_pos b0, if_pos (by omega), if_pos (show rdOf false (rd_L7 m a) b = true from c1), hw]
   rfl
  ·have c1' : mt m a b = false := by simpa using c1
   by_cases c2 : mt m a k = true
   ·refine EvP.step (fun f => ?_) (ih (b + 1) _ (by omega) (by omega) (inv4_set hin h a0 a1 b0 (by omega) k0 (mt m k b) (by rw [c1', c2]; simp)))
    simp only [swarfref29_Depends.l4]
    rw [if_pos (by omega), if_pos a0, if_pos (by omega), if_pos b0, if_pos (by omega), if_neg (show ¬ rdOf false (rd_L7 m a) b = true from c1), if_pos k0, if_pos (by omega), if_pos (show rdOf false (rd_L7 m a) k = true from c2), if_pos (by omega), if_pos (by omega), hw]
    rfl
   ·have c2' : mt m a k = false := by simpa using c2
    refine EvP.step (fun f => ?_) (ih (b + 1) _ (by omega) (by omega) (inv4_set hin h a0 a1 b0 (by omega) k0 false (by rw [c1', c2']; simp)))
    simp only [swarfref29_Depends.l4]
    rw [if_pos (by omega), if_pos a0, if_pos (by omega), if_pos b0, if_pos (by omega), if_neg (show ¬ rdOf false (rd_L7 m a) b = true from c1), if_pos k0, if_pos (by omega), if_neg (show ¬ rdOf false (rd_L7 m a) k = true from c2), hw]
    rfl
theorem dep_l3 {n : Int} {l : List S47} (hn : 0 ≤ n ∧ n ≤ 200) (hin : Inn (Rl l) n) (k : Int) (k0 : 0 ≤ k) (k1 : k < n) (Post : List (List Bool) → Prop)
  (hk : ∀ m, Inv2 n l (k + 1) m → EvP (fun f => swarfref29_Depends.l2 f n m (k + 1)) Post) (d : Nat) : ∀ (a : Int) (m : List (List Bool)), 0 ≤ a → a + d = n → Inv4 n l k a 0 m → EvP (fun f => swarfref29_Depends.l3 f n m k a) Post := by
 induction d with
 | zero =>
  intro a m a0 ha h
  refine EvP.step (fun f => ?_) (hk m ⟨h.1.1, h.1.2.1, fun c e hp => h.2 c e ?_ hp⟩)
  ·simp only [swarfref29_Depends.l3]
   rw [if_neg (by omega), wrap_succ k k0 (by omega)]
  ·have := hp.tc.inn hin
   omega
 | succ d ih =>
  intro a m a0 ha h
  refine EvP.step (fun f => ?_) (dep_l4 hn hin k a k0 k1 a0 (by omega) Post (fun m' h' => ih (a + 1) m' (by omega) (by omega) h') n.toNat 0 m (by omega) (by omega) h)
  simp only [swarfref29_Depends.l3]
  rw [if_pos (by omega)]
def Tab (n : Int) (R : Int → Int → Prop) (m : List (List Bool)) : Prop := Sq n m ∧ ∀ a b, 0 ≤ a → 0 ≤ b → (mt m a b = true ↔ Tc R a b)
theorem dep_l2 {n : Int} {l : List S47} (hn : 0 ≤ n ∧ n ≤ 200) (hin : Inn (Rl l) n) (d : Nat) : ∀ (k : Int) (m : List (List Bool)), 0 ≤ k → k + d = n → Inv2 n l k m → EvP (fun f => swarfref29_Depends.l2 f n m k) (Tab n (Rl l)) := by
 induction d with
 | zero =>
  intro k m k0 hk h
  refine EvP.stop m (fun f => ?_) ⟨h.1, fun a b a0 b0 => ⟨h.2.1 a b a0 b0, fun ht => h.2.2 a b ?_⟩⟩
  ·simp only [swarfref29_Depends.l2]
   rw [if_neg (by omega)]
  ·have : k = n := by omega
   rw [this]
   exact Pk.of_tc hin ht
 | succ d ih =>
  intro k m k0 hk h
  refine EvP.step (fun f => ?_) (dep_l3 hn hin k k0 (by omega) _ (fun m' h' => ih (k + 1) m' (by omega) (by omega) h') n.toNat 0 m (by omega) (by omega) ⟨h, fun c e hlt hp => ?_⟩)
  ·simp only [swarfref29_Depends.l2]
   rw [if_pos (by omega)]
  ·have := hp.tc.inn hin
   omega
theorem dep_l1 {n : Int} {l : List S47} (hn : 0 ≤ n ∧ n ≤ 200) (hl : l.length ≤ 2000) (hok : ∀ p ∈ l, okp n p = true) (d : Nat) : ∀ (j : Int) (m : List (List Bool)), 0 ≤ j → j + d = l.length → Sq n m → (∀ a b, 0 ≤ a → 0 ≤ b → (mt m a b = true ↔ (⟨a, b⟩ : S47) ∈ l.take j.toNat)) → EvP (fun f => swarfref29_Depends.l1 f n l m j) (Tab n (Rl l)) := by
 induction d with
 | zero =>
  intro j m j0 hj hs h
  have hin := rl_inn hok
  rw [show l.take j.toNat = l from List.take_of_length_le (by omega)] at h
  refine EvP.step (fun f => ?_) (dep_l2 hn hin n.toNat 0 m (by omega) (by omega) ⟨hs, fun a b a0 b0 hab => .one ((h a b a0 b0).1 hab), fun a b hab => ?_⟩)
  ·simp only [swarfref29_Depends.l1]
   rw [if_neg (by omega)]
  ·have hr := hab.tc.inn hin
   exact (h a b hr.1.1 hr.2.1).2 (Pk.zero hin hab)
 | succ d ih =>
  intro j m j0 hj hs h
  have hw := wrap_succ j j0 (by omega)
  have hmem : rd_T47 l j ∈ l := by
   have := drop_T47 l j j0 (by omega)
   exact List.mem_of_mem_drop (by rw [this]; exact List.mem_cons_self)
  have ho := (okp_iff _ _).1 (hok _ hmem)
  have htake : l.take (j + 1).toNat = l.take j.toNat ++ [rd_T47 l j] := by
   rw [show (j + 1).toNat = j.toNat + 1 by omega, List.take_succ_eq_append_getElem (by omega)]
   congr 2
   unfold rd_T47
   rw [List.getD_eq_getElem?_getD, List.getElem?_eq_getElem (by omega)]
   rfl
  generalize hp : rd_T47 l j = p at hmem ho htake
  have lm := hs.1
  have lp := hs.2 p.f0 ho.2.1.1 ho.2.1.2
  refine EvP.step (fun f => ?_) (ih (j + 1) (st m p.f0 p.f1 true) (by omega) (by omega) (hs.st ho.2.1.1 ho.2.1.2 true) (fun a b a0 b0 => ?_))
  ·simp only [swarfref29_Depends.l1]
   rw [hp, if_pos (by omega), if_pos j0, if_pos ho.2.1.1, if_pos (by omega), if_pos ho.2.2.1, if_pos (by omega), hw]
   rfl
  ·rw [mt_st hs ho.2.1.1 ho.2.1.2 ho.2.2.1 ho.2.2.2 true a0 b0, htake, List.mem_append, List.mem_singleton, ← h a b a0 b0]
   have e : (⟨a, b⟩ : S47) = p ↔ a = p.f0 ∧ b = p.f1 := S47.eta _ _
   rw [e]
   split
   ·rename_i hc; simp [hc]
   ·rename_i hc; simp [hc]
theorem dep_l0 {n : Int} {l : List S47} (hn : 0 ≤ n ∧ n ≤ 200) (hl : l.length ≤ 2000) (hok : ∀ p ∈ l, okp n p = true) (d : Nat) : ∀ (j : Int) (m : List (List Bool)), 0 ≤ j → j + d = n → (m.length : Int) = n → (∀ a, 0 ≤ a → a < j → rd_L7 m a = List.replicate n.toNat false) → EvP (fun f => swarfref29_Depends.l0 f n l m j) (Tab n (Rl l)) := by
 induction d with
 | zero =>
  intro j m j0 hj hm h
  refine EvP.step (fun f => ?_) (dep_l1 hn hl hok l.length 0 m (by omega) (by omega) ⟨hm, fun a a0 a1 => ?_⟩ (fun a b a0 b0 => ?_))
  ·simp only [swarfref29_Depends.l0]
   rw [if_neg (by omega)]
  ·rw [h a a0 (by omega), List.length_replicate]; omega
  ·have : mt m a b = false := by
    unfold mt
    by_cases ha : a < n
    ·rw [h a a0 (by omega)]
     unfold rdOf
     rw [List.getD_eq_getElem?_getD, List.getElem?_replicate]
     split <;> rfl
    ·have : rd_L7 m a = [] := by
      unfold rd_L7
      rw [List.getD_eq_getElem?_getD, List.getElem?_eq_none (by omega)]; rfl
     rw [this]; unfold rdOf; simp
   simp [this]
 | succ d ih =>
  intro j m j0 hj hm h
  have hw := wrap_succ j j0 (by omega)
  refine EvP.step (fun f => ?_) (ih (j + 1) (m.set j.toNat (List.replicate n.toNat false)) (by omega) (by omega) (by rw [List.length_set]; exact hm) (fun a a0 a1 => ?_))
  ·simp only [swarfref29_Depends.l0]
   rw [if_pos (by omega), if_pos (by omega), if_pos (by omega), if_pos (by omega), if_pos (by omega), hw]
  ·by_cases e : a = j
   ·subst e
    exact rd_set_self _ _ _ a0 (by omega)
   ·rw [rd_set_ne _ _ _ _ j0 a0 e]
    exact h a a0 (by omega)
theorem depends_ev {n : Int} {l : List S47} (h : vErr n l = 0) : EvP (fun f => swarfref29_Depends.f f n l) (Tab n (Rl l)) := by
 obtain ⟨h1, h2, h3, h4⟩ := vErr_zero h
 unfold swarfref29_Depends.f
 simp only [if_pos h1, if_pos (show n.toNat ≤ 11728124029610 by omega)]
 exact dep_l0 ⟨h1, h2⟩ h3 h4 n.toNat 0 _ (by omega) (by omega) (by simp; omega) (fun a a0 a1 => by omega)
theorem cyclic_l0 {n : Int} {R : Int → Int → Prop} {m : List (List Bool)} (hn : 0 ≤ n ∧ n ≤ 200) (hin : Inn R n) (ht : Tab n R m) (d : Nat) : ∀ j : Int, 0 ≤ j → j + d = n → (∀ a, a < j → ¬ Tc R a a) → EvP (fun f => swarfref29_Cyclic.l0 f n m j) (fun r => r = true ↔ ¬ Acyc R) := by
 induction d with
 | zero =>
  intro j j0 hj h
  refine EvP.stop false (fun f => ?_) ⟨(fun h => by cases h), (fun hx => absurd (fun a ha => ?_) hx)⟩
  ·simp only [swarfref29_Cyclic.l0]
   rw [if_neg (by omega)]
  ·exact h a (by have := (ha.inn hin).1; omega) ha
 | succ d ih =>
  intro j j0 hj h
  have hw := wrap_succ j j0 (by omega)
  have lm := ht.1.1
  have lj := ht.1.2 j j0 (by omega)
  by_cases c : mt m j j = true
  ·refine EvP.stop true (fun f => ?_) ⟨fun _ hx => hx j ((ht.2 j j j0 j0).1 c), fun _ => rfl⟩
   simp only [swarfref29_Cyclic.l0]
   rw [if_pos (by omega), if_pos j0, if_pos (by omega), if_pos (by omega)]
   exact if_pos c
  ·refine EvP.step (fun f => ?_) (ih (j + 1) (by omega) (by omega) (fun a ha => ?_))
   ·simp only [swarfref29_Cyclic.l0]
    rw [if_pos (by omega), if_pos j0, if_pos (by omega), if_pos (by omega), hw]
    exact if_neg c
   ·by_cases e : a = j
    ·subst e
     exact fun hx => c ((ht.2 a a j0 j0).2 hx)
    ·exact h a (by omega)
theorem cyclic_ev {n : Int} {l : List S47} (h : vErr n l = 0) : EvP (fun f => swarfref29_Cyclic.f f n l) (fun r => r = true ↔ ¬ Acyc (Rl l)) := by
 obtain ⟨h1, h2, h3, h4⟩ := vErr_zero h
 unfold swarfref29_Cyclic.f
 exact EvP.bindP (depends_ev h) (fun m hm => cyclic_l0 ⟨h1, h2⟩ (rl_inn h4) hm n.toNat 0 (by omega) (by omega) (fun a ha hx => by have := (hx.inn (rl_inn h4)).1; omega))
end Go.Proofs.Ytbbkclcfmcjlgaa.B



namespace Go.Proofs.Ytbbkclcfmcjlgaa.P
open Go.RowKit Go.Proofs.YtbbkclcfmcjlgaaW.PrintWords Go.Proofs.YtbbkclcfmcjlgaaW.PrintLast Go.Proofs.YtbbkclcfmcjlgaaW.PrintMore
attribute [local go_sem] max2_int min2_int max_two min_two max_three min_three max_four min_four
set_option linter.unusedVariables false
set_option linter.unusedSimpArgs false

mutual
def swarfref29_Order.l0 : Nat → Int → List (S47) → List Int → Option (List Int × Int)
 | 0, _, _, _ => none
 | k + 1, x0, x1, x7 => if (x7.length : Int) < x0 then (swarfref29_Order.l1 k x0 x1 x7 0) else (some (x7, 0))
def swarfref29_Order.l1 : Nat → Int → List (S47) → List Int → Int → Option (List Int × Int)
 | 0, _, _, _, _ => none
 | k + 1, x0, x1, x7, x8 => (swarfref29_in.f k x7 x8).bind fun t328 => (if t328 = true then (swarfref29_Order.l1 k x0 x1 x7 (wrap64 (x8 + 1))) else ((swarfref29_ready.f k x1 x7 x8).bind fun t329 => (if t329 = true then (if x7.length < 17592186044416 then (swarfref29_Order.l0 k x0 x1 (x7 ++ [x8])) else (none)) else (swarfref29_Order.l1 k x0 x1 x7 (wrap64 (x8 + 1))))))
end
def swarfref29_Order.f (k : Nat) (a0 : Int) (l1 : List (S47)) : Option (List Int × Int) := (swarfref29_fault.f k a0 l1).bind fun t327 => (if t327 = 0 then (swarfref29_Order.l0 k a0 l1 ([] : List Int)) else (some (([] : List Int), t327)))
set_option maxHeartbeats 8000000 in
set_option maxRecDepth 100000 in
theorem swarfref29_Order.calls (k : Nat) (a0 : Int) (A1 : Option Addr) (c1 : Nat) (l1 : List (S47)) (r1 : List Int) (r2 : Int) (w : World) (hr1 : Kd.C k47 w A1 l1.length l1) (hc1 : l1.length ≤ c1) (h : swarfref29_Order.f k a0 l1 = some (r1, r2)) :
  Calls Try.prog 26 #[.int .i64 a0, .slice A1 l1.length c1] w fun e w' => ∃ v0_ : Value, e = .returned (.tuple #[v0_, .int .i64 r2]) ∧ Kd.R (Kd.int .i64) 3 w' w.heap.size (fun _ => True) v0_ r1 ∧ Below w.heap.size w w' := by
 have HR1 := aK hr1
 have HC1 := aK hc1
 clear hr1 hc1
 have HB := aK (Below.refl w.heap.size w)
 have H : ((swarfref29_fault.f k a0 l1).bind fun t327 => (if t327 = 0 then (swarfref29_Order.l0 k a0 l1 ([] : List Int)) else (some (([] : List Int), t327)))) = some (r1, r2) := h
 clear h
 replace H := oB_ H
 obtain ⟨t327, A30, H⟩ := H
 replace H : (if t327 = 0 then (swarfref29_Order.l0 k a0 l1 ([] : List Int)) else (some (([] : List Int), t327))) = some (r1, r2) := H
 have A3 := aK A30
 clear A30
 by_cases c4 : t327 = 0
 ·rw [if_pos c4] at H
  have c4b0 : (t327 == 0) = true := beq_iff_eq.mpr c4
  have c4b1 : (t327 != 0) = false := bne_eq_false_iff_eq.mpr c4
  clear c4; have H' := aK H; clear H
  go_enter Try.func26, Try.ntmps26
  go_wp2_with (first | ((with_reducible refine gate_callee (f := 47) rfl ?_); refine goesL_ (some 11) rfl rfl Try.func47 (by kernel_rfl) rfl #[.int .i64 a0, .slice A1 l1.length c1] rfl (by (try simp only [List.map_toArray, List.map_cons, List.map_nil]); first | done | rfl | (simp only [List.length_drop, List.length_take]; rfl)) ?_; (with_reducible refine (swarfref29_fault.calls k a0 _ _ l1 t327 _ ?side1 ?side2 A3.out).mono ?_); (case side1 => repeat (first | exact HR1.out | (with_reducible refine Kd.C_alloc ?_ _) | (with_reducible refine Kd.C_drewN ?_ _) | (with_reducible refine Kd.C_drew ?_))); (case side2 => exact HC1.out); rintro e w5 ⟨rfl, hb⟩; refine ⟨_, rfl, ?_⟩; have n0_ := aK (bT_ (by repeat (first | (with_reducible first | exact HB.out | apply bA_ | apply bN_ | apply bD_) | exact HB.out)) hb); clear HB; have HB := n0_; clear n0_; (try clear hb); (try clear hb2); (try clear hk); (try clear hi)))
  go_loopg [7] k (fun kq v7 w' => ∃ (x7_1 : List Int), Aside0 (swarfref29_Order.l0 kq a0 l1 x7_1 = some (r1, r2)) ∧ Aside0 (kq ≤ k) ∧ Aside0 (Kd.R (Kd.int .i64) 3 w' w.heap.size (fun _ => True) v7 x7_1) ∧ Aside0 (Below w.heap.size w w'))
  case atStart => exact ⟨(([] : List Int)), H', ⟨Nat.le_refl _⟩, ⟨by first | exact Kd.R_nil _ _ _ _ _ | exact Kd.N_nil _ _ _ _ _ | exact Kd.V_nil _ _ _ _ _ | exact Kd.Q_nil _ _ _ _ _ | exact Kd.S_nil _ _ _ _ _⟩, ⟨by repeat (first | (with_reducible first | exact HB.out | apply bA_ | apply bN_ | apply bD_) | exact HB.out)⟩⟩
  case round =>
   clear H'; try clear c1; try clear c2; try clear p2; try clear c4; try clear c4b0; try clear c4b1
   obtain ⟨x7_1, HA, HK1, HO_7, HB⟩ := hrel
   cases gk with
   | zero => exact absurd HA.out (by simp [swarfref29_Order.l0])
   | succ k1 =>
    have H := HA.out
    clear HA
    simp only [swarfref29_Order.l0] at H
    by_cases c6 : (x7_1.length : Int) < a0
    ·rw [if_pos c6] at H
     have c6b0 : decide ((x7_1.length : Int) < a0) = true := decide_eq_true c6
     clear c6; have H' := aK H; clear H
     obtain ⟨Ao7, co7, eo7⟩ := Kd.R_slice HO_7.out
     subst eo7; go_wp2
     go_loopg [8] k1 (fun kq v8 w' => ∃ (x8_2 : Int), v8 = .int .i64 x8_2 ∧ Aside0 (swarfref29_Order.l1 kq a0 l1 x7_1 x8_2 = some (r1, r2)) ∧ Aside0 (kq ≤ k1) ∧ Aside0 (Kd.R (Kd.int .i64) 3 w' w.heap.size (fun _ => True) (.slice Ao7 x7_1.length co7) x7_1) ∧ Aside0 (Below w.heap.size w w'))
     case atStart => exact ⟨(0), (by first | rfl | (simp; done) | (simp [*]; done)), H', ⟨Nat.le_refl _⟩, ⟨by (with_reducible repeat (first | apply Kd.R_alloc | apply Kd.R_drewN | apply Kd.R_drew)); exact HO_7.out⟩, ⟨by repeat (first | (with_reducible first | exact HB.out | apply bA_ | apply bN_ | apply bD_) | exact HB.out)⟩⟩
     case round =>
      clear H'; try clear c1; try clear c2; try clear p2; try clear c4; try clear c4b0; try clear c4b1; try clear c6; try clear c6b0; try clear p2
      obtain ⟨x8_2, rfl, HA, HK2, HO_7, HB⟩ := hrel
      cases gk with
      | zero => exact absurd HA.out (by simp [swarfref29_Order.l1])
      | succ k2 =>
       have H := HA.out
       clear HA
       simp only [swarfref29_Order.l1] at H
       replace H := oB_ H
       obtain ⟨t328, A80, H⟩ := H
       replace H : (if t328 = true then (swarfref29_Order.l1 k2 a0 l1 x7_1 (wrap64 (x8_2 + 1))) else ((swarfref29_ready.f k2 l1 x7_1 x8_2).bind fun t329 => (if t329 = true then (if x7_1.length < 17592186044416 then (swarfref29_Order.l0 k2 a0 l1 (x7_1 ++ [x8_2])) else (none)) else (swarfref29_Order.l1 k2 a0 l1 x7_1 (wrap64 (x8_2 + 1)))))) = some (r1, r2) := H
       have A8 := aK A80; clear A80
       by_cases c9 : t328 = true
       ·subst c9
        have H1 : (swarfref29_Order.l1 k2 a0 l1 x7_1 (wrap64 (x8_2 + 1))) = some (r1, r2) := by rw [if_pos rfl] at H; exact H
        clear H; have H := H1; clear H1; have H' := aK H; clear H
        go_wp2_with (first | ((with_reducible refine gate_callee (f := 40) rfl ?_); refine goesL_ (some 21) rfl rfl Try.func40 (by kernel_rfl) rfl #[.slice Ao7 x7_1.length co7, .int .i64 x8_2] rfl (by (try simp only [List.map_toArray, List.map_cons, List.map_nil]); first | done | rfl | (simp only [List.length_drop, List.length_take]; rfl)) ?_; (with_reducible refine (swarfref29_in.calls k2 _ _ x7_1 x8_2 true _ ?side1 ?side2 A8.out).mono ?_); (case side1 => repeat (first | exact (Kd.R_reads' HO_7.out).2.2 | (with_reducible refine Kd.C_alloc ?_ _) | (with_reducible refine Kd.C_drewN ?_ _) | (with_reducible refine Kd.C_drew ?_))); (case side2 => exact (Kd.R_reads' HO_7.out).2.1); rintro e w' ⟨rfl, ⟨nd, rfl⟩⟩; refine ⟨_, rfl, ?_⟩))
        go_roundg k2
        case measure => have := HK1.out; have := HK2.out; omega
        case rel => exact ⟨(wrap64 (x8_2 + 1)), (by first | rfl | (simp; done) | (simp [*]; done)), H', ⟨by have := HK1.out; have := HK2.out; omega⟩, ⟨by (with_reducible repeat (first | apply Kd.R_alloc | apply Kd.R_drewN | apply Kd.R_drew)); exact HO_7.out⟩, ⟨by repeat (first | (with_reducible first | exact HB.out | apply bA_ | apply bN_ | apply bD_) | exact HB.out)⟩⟩
       ·replace c9 := Bool.eq_false_iff.mpr c9
        subst c9
        have H1 : ((swarfref29_ready.f k2 l1 x7_1 x8_2).bind fun t329 => (if t329 = true then (if x7_1.length < 17592186044416 then (swarfref29_Order.l0 k2 a0 l1 (x7_1 ++ [x8_2])) else (none)) else (swarfref29_Order.l1 k2 a0 l1 x7_1 (wrap64 (x8_2 + 1))))) = some (r1, r2) := by rw [if_neg (show ¬ (false = true) by decide)] at H; exact H
        clear H; have H := H1; clear H1; replace H := oB_ H
        obtain ⟨t329, A100, H⟩ := H
        replace H : (if t329 = true then (if x7_1.length < 17592186044416 then (swarfref29_Order.l0 k2 a0 l1 (x7_1 ++ [x8_2])) else (none)) else (swarfref29_Order.l1 k2 a0 l1 x7_1 (wrap64 (x8_2 + 1)))) = some (r1, r2) := H
        have A10 := aK A100; clear A100
        by_cases c11 : t329 = true
        ·subst c11
         have H1 : (if x7_1.length < 17592186044416 then (swarfref29_Order.l0 k2 a0 l1 (x7_1 ++ [x8_2])) else (none)) = some (r1, r2) := by rw [if_pos rfl] at H; exact H
         clear H; have H := H1; clear H1
         by_cases c12 : x7_1.length < 17592186044416
         ·rw [if_pos c12] at H; have LMc12 := aK c12; clear c12
          obtain ⟨y330, hy330⟩ : ∃ y_ : List Int, y_ = (x7_1 ++ [x8_2]) := ⟨_, rfl⟩
          replace H : (swarfref29_Order.l0 k2 a0 l1 y330) = some (r1, r2) := by first | (rw [hy330]; with_reducible exact H) | (have H2_ := (Option.bind_some _ _).symm.trans H; rw [hy330]; with_reducible exact H2_) | (have H2_ := (Option.bind_some _ _).symm.trans H; with_reducible exact H2_) | with_reducible exact H | (rw [hy330]; exact H) | exact H
          have Ny330 := aK hy330; clear hy330; have H' := aK H; clear H
          go_wp2_with (first | ((with_reducible refine gate_callee (f := 40) rfl ?_); refine goesL_ (some 21) rfl rfl Try.func40 (by kernel_rfl) rfl #[.slice Ao7 x7_1.length co7, .int .i64 x8_2] rfl (by (try simp only [List.map_toArray, List.map_cons, List.map_nil]); first | done | rfl | (simp only [List.length_drop, List.length_take]; rfl)) ?_; (with_reducible refine (swarfref29_in.calls k2 _ _ x7_1 x8_2 false _ ?side1 ?side2 A8.out).mono ?_); (case side1 => repeat (first | exact (Kd.R_reads' HO_7.out).2.2 | (with_reducible refine Kd.C_alloc ?_ _) | (with_reducible refine Kd.C_drewN ?_ _) | (with_reducible refine Kd.C_drew ?_))); (case side2 => exact (Kd.R_reads' HO_7.out).2.1); rintro e w' ⟨rfl, ⟨nd, rfl⟩⟩; refine ⟨_, rfl, ?_⟩) | (go_at_call 41; (with_reducible refine (swarfref29_ready.calls k2 _ _ l1 _ _ x7_1 x8_2 true _ ?side1 ?side2 ?side3 ?side4 A10.out).mono ?_); (case side1 => repeat (first | exact (Kd.C_below HR1.out (by repeat (first | (with_reducible first | exact HB.out | apply bA_ | apply bN_ | apply bD_) | exact HB.out))) | (with_reducible refine Kd.C_alloc ?_ _) | (with_reducible refine Kd.C_drewN ?_ _) | (with_reducible refine Kd.C_drew ?_))); (case side2 => exact HC1.out); (case side3 => repeat (first | exact (Kd.R_reads' HO_7.out).2.2 | (with_reducible refine Kd.C_alloc ?_ _) | (with_reducible refine Kd.C_drewN ?_ _) | (with_reducible refine Kd.C_drew ?_))); (case side4 => exact (Kd.R_reads' HO_7.out).2.1); rintro e w' ⟨rfl, ⟨nd, rfl⟩⟩) | ((with_reducible refine gate_builtin (b := .append) (xs := #[.tmp 31, .tmp 33]) rfl ?_); at_builtin; refine Kd.R_append (Kd.int .i64) (w0 := w) w.heap.size rfl (.tmp 31) (.tmp 33) 31 3 (.int .i64 0) 8 rfl Try.underlying31 info3 rfl (by decide) (by omega) (.slice Ao7 x7_1.length co7) x7_1 x8_2 [.int .i64 x8_2] (fun _ => True) (fun _ => False) rfl rfl ?aP (fun _ hk => hk.elim) ?aF ?aO ?aB ?aS ?aL ?_; (case aP => exact rfl); (case aB => exact (by repeat (first | (with_reducible first | exact HB.out | apply bA_ | apply bN_ | apply bD_) | exact HB.out))); (case aF => exact (fun _ _ => trivial)); (case aO => exact (by (with_reducible repeat (first | apply Kd.R_alloc | apply Kd.R_drewN | apply Kd.R_drew)); exact HO_7.out)); (case aS => exact (bZ_ (by repeat (first | (with_reducible first | exact HB.out | apply bA_ | apply bN_ | apply bD_) | exact HB.out)))); (case aL => have := LMc12.out; omega); intro v331 w13 ho hb hg hat; rw [← Ny330.out] at ho; have n0_ := aK (hb); have n1_ := aK (ho); clear HB; clear HO_7; have HB := n0_; have HO332 := n1_; clear n0_ n1_; clear ho hb hg hat))
          go_roundg k2
          case measure => have := HK1.out; have := HK2.out; omega
          case rel => exact ⟨(y330), H', ⟨by have := HK1.out; have := HK2.out; omega⟩, ⟨by (with_reducible repeat (first | apply Kd.R_alloc | apply Kd.R_drewN | apply Kd.R_drew)); exact HO332.out⟩, ⟨by repeat (first | (with_reducible first | exact HB.out | apply bA_ | apply bN_ | apply bD_) | exact HB.out)⟩⟩
         ·rw [if_neg c12] at H
          exact absurd H (by simp)
        ·replace c11 := Bool.eq_false_iff.mpr c11
         subst c11
         have H1 : (swarfref29_Order.l1 k2 a0 l1 x7_1 (wrap64 (x8_2 + 1))) = some (r1, r2) := by rw [if_neg (show ¬ (false = true) by decide)] at H; exact H
         clear H; have H := H1; clear H1; have H' := aK H; clear H
         go_wp2_with (first | ((with_reducible refine gate_callee (f := 40) rfl ?_); refine goesL_ (some 21) rfl rfl Try.func40 (by kernel_rfl) rfl #[.slice Ao7 x7_1.length co7, .int .i64 x8_2] rfl (by (try simp only [List.map_toArray, List.map_cons, List.map_nil]); first | done | rfl | (simp only [List.length_drop, List.length_take]; rfl)) ?_; (with_reducible refine (swarfref29_in.calls k2 _ _ x7_1 x8_2 false _ ?side1 ?side2 A8.out).mono ?_); (case side1 => repeat (first | exact (Kd.R_reads' HO_7.out).2.2 | (with_reducible refine Kd.C_alloc ?_ _) | (with_reducible refine Kd.C_drewN ?_ _) | (with_reducible refine Kd.C_drew ?_))); (case side2 => exact (Kd.R_reads' HO_7.out).2.1); rintro e w' ⟨rfl, ⟨nd, rfl⟩⟩; refine ⟨_, rfl, ?_⟩) | (go_at_call 41; (with_reducible refine (swarfref29_ready.calls k2 _ _ l1 _ _ x7_1 x8_2 false _ ?side1 ?side2 ?side3 ?side4 A10.out).mono ?_); (case side1 => repeat (first | exact (Kd.C_below HR1.out (by repeat (first | (with_reducible first | exact HB.out | apply bA_ | apply bN_ | apply bD_) | exact HB.out))) | (with_reducible refine Kd.C_alloc ?_ _) | (with_reducible refine Kd.C_drewN ?_ _) | (with_reducible refine Kd.C_drew ?_))); (case side2 => exact HC1.out); (case side3 => repeat (first | exact (Kd.R_reads' HO_7.out).2.2 | (with_reducible refine Kd.C_alloc ?_ _) | (with_reducible refine Kd.C_drewN ?_ _) | (with_reducible refine Kd.C_drew ?_))); (case side4 => exact (Kd.R_reads' HO_7.out).2.1); rintro e w' ⟨rfl, ⟨nd, rfl⟩⟩))
         go_roundg k2
         case measure => have := HK1.out; have := HK2.out; omega
         case rel => exact ⟨(wrap64 (x8_2 + 1)), (by first | rfl | (simp; done) | (simp [*]; done)), H', ⟨by have := HK1.out; have := HK2.out; omega⟩, ⟨by (with_reducible repeat (first | apply Kd.R_alloc | apply Kd.R_drewN | apply Kd.R_drew)); exact HO_7.out⟩, ⟨by repeat (first | (with_reducible first | exact HB.out | apply bA_ | apply bN_ | apply bD_) | exact HB.out)⟩⟩
    ·rw [if_neg c6] at H
     have c6b0 : decide ((x7_1.length : Int) < a0) = false := decide_eq_false c6
     clear c6
     simp only [Option.some.injEq, Prod.mk.injEq] at H
     obtain ⟨rfl, rfl⟩ := H
     obtain ⟨Ao14, co14, eo14⟩ := Kd.R_slice HO_7.out
     subst eo14; go_wp2
     go_ret2
     exact ⟨_, by first | rfl | (simp [errW_none, errW_some] <;> rfl) | (simp [*, errW_none, errW_some] <;> rfl), by (with_reducible repeat (first | apply Kd.R_alloc | apply Kd.R_drewN | apply Kd.R_drew)); exact HO_7.out, by repeat (first | (with_reducible first | exact HB.out | apply bA_ | apply bN_ | apply bD_) | exact HB.out)⟩
 ·rw [if_neg c4] at H
  have c4b0 : (t327 == 0) = false := beq_eq_false_iff_ne.mpr c4
  have c4b1 : (t327 != 0) = true := bne_iff_ne.mpr c4
  simp only [Option.some.injEq, Prod.mk.injEq] at H
  obtain ⟨rfl, rfl⟩ := H
  go_enter Try.func26, Try.ntmps26
  go_wp2_with (first | ((with_reducible refine gate_callee (f := 47) rfl ?_); refine goesL_ (some 11) rfl rfl Try.func47 (by kernel_rfl) rfl #[.int .i64 a0, .slice A1 l1.length c1] rfl (by (try simp only [List.map_toArray, List.map_cons, List.map_nil]); first | done | rfl | (simp only [List.length_drop, List.length_take]; rfl)) ?_; (with_reducible refine (swarfref29_fault.calls k a0 _ _ l1 t327 _ ?side1 ?side2 A3.out).mono ?_); (case side1 => repeat (first | exact HR1.out | (with_reducible refine Kd.C_alloc ?_ _) | (with_reducible refine Kd.C_drewN ?_ _) | (with_reducible refine Kd.C_drew ?_))); (case side2 => exact HC1.out); rintro e w15 ⟨rfl, hb⟩; refine ⟨_, rfl, ?_⟩; have n0_ := aK (bT_ (by repeat (first | (with_reducible first | exact HB.out | apply bA_ | apply bN_ | apply bD_) | exact HB.out)) hb); clear HB; have HB := n0_; clear n0_; (try clear hb); (try clear hb2); (try clear hk); (try clear hi)))
  go_ret2
  exact ⟨_, by first | rfl | (simp [errW_none, errW_some] <;> rfl) | (simp [*, errW_none, errW_some] <;> rfl), by first | exact Kd.R_nil _ _ _ _ _ | exact Kd.N_nil _ _ _ _ _ | exact Kd.V_nil _ _ _ _ _ | exact Kd.Q_nil _ _ _ _ _ | exact Kd.S_nil _ _ _ _ _, by repeat (first | (with_reducible first | exact HB.out | apply bA_ | apply bN_ | apply bD_) | exact HB.out)⟩

end Go.Proofs.Ytbbkclcfmcjlgaa.P



namespace Go.Proofs.Ytbbkclcfmcjlgaa.B
open Go.RowKit Go.Proofs.Ytbbkclcfmcjlgaa.P Go.Proofs.Ytbbkclcfmcjlgaa.Gr Go.Proofs.YtbbkclcfmcjlgaaW.PrintWords Go.Proofs.YtbbkclcfmcjlgaaW.PrintLast Go.Proofs.YtbbkclcfmcjlgaaW.PrintMore
set_option linter.unusedVariables false
set_option linter.unusedSimpArgs false

def bef (l : List S47) (i : Int) : List Int := (l.filter fun p => p.f1 == i).map fun p => p.f0
def beh (l : List S47) (i : Int) : List Int := (l.filter fun p => p.f0 == i).map fun p => p.f1
theorem mem_beh (l : List S47) (i k : Int) : k ∈ beh l i ↔ Rl l i k := by
 unfold beh Rl
 simp only [List.mem_map, List.mem_filter, beq_iff_eq]
 constructor
 ·rintro ⟨p, ⟨hp, rfl⟩, rfl⟩; exact hp
 ·intro h; exact ⟨_, ⟨h, rfl⟩, rfl⟩
theorem bef_snoc (l : List S47) (p : S47) (i : Int) : bef (l ++ [p]) i = if p.f1 = i then bef l i ++ [p.f0] else bef l i := by
 unfold bef
 rw [List.filter_append, List.map_append]
 by_cases h : p.f1 = i <;> simp [h]
theorem beh_snoc (l : List S47) (p : S47) (i : Int) : beh (l ++ [p]) i = if p.f0 = i then beh l i ++ [p.f1] else beh l i := by
 unfold beh
 rw [List.filter_append, List.map_append]
 by_cases h : p.f0 = i <;> simp [h]
theorem bef_len (l : List S47) (i : Int) : (bef l i).length ≤ l.length := by unfold bef; rw [List.length_map]; exact List.length_filter_le _ _
theorem beh_len (l : List S47) (i : Int) : (beh l i).length ≤ l.length := by unfold beh; rw [List.length_map]; exact List.length_filter_le _ _
theorem rd3_set_self (m : List (List Int)) (a : Int) (y : List Int) (h0 : 0 ≤ a) (h1 : a < (m.length : Int)) : rd_L3 (m.set a.toNat y) a = y := by
 unfold rd_L3
 rw [List.getD_eq_getElem?_getD, List.getElem?_set_self (by omega)]; rfl
theorem rd3_set_ne (m : List (List Int)) (a b : Int) (y : List Int) (h0 : 0 ≤ a) (hb : 0 ≤ b) (h : b ≠ a) : rd_L3 (m.set a.toNat y) b = rd_L3 m b := by
 unfold rd_L3
 rw [List.getD_eq_getElem?_getD, List.getElem?_set_ne (by omega), List.getD_eq_getElem?_getD]
theorem rd_set (m : List Int) (a b x : Int) (h0 : 0 ≤ a) (h1 : a < (m.length : Int)) (hb : 0 ≤ b) : rd (m.set a.toNat x) b = if b = a then x else rd m b := by
 unfold rd
 by_cases e : b = a
 ·subst e
  rw [if_pos rfl, List.getD_eq_getElem?_getD, List.getElem?_set_self (by omega)]; rfl
 ·rw [if_neg e, List.getD_eq_getElem?_getD, List.getElem?_set_ne (by omega), List.getD_eq_getElem?_getD]
theorem T47_mem (l : List S47) (j : Int) (h0 : 0 ≤ j) (h : j < (l.length : Int)) : rd_T47 l j ∈ l := List.mem_of_mem_drop (by rw [drop_T47 l j h0 h]; exact List.mem_cons_self)
theorem rd_mem (l : List Int) (j : Int) (h0 : 0 ≤ j) (h : j < (l.length : Int)) : rd l j ∈ l := List.mem_of_mem_drop (by rw [drop_rd l j h0 h]; exact List.mem_cons_self)
theorem take_T47 (l : List S47) (j : Int) (h0 : 0 ≤ j) (h : j < (l.length : Int)) : l.take (j + 1).toNat = l.take j.toNat ++ [rd_T47 l j] := by
 rw [show (j + 1).toNat = j.toNat + 1 by omega, List.take_succ_eq_append_getElem (by omega)]
 congr 2
 unfold rd_T47
 rw [List.getD_eq_getElem?_getD, List.getElem?_eq_getElem (by omega)]
 rfl
theorem take_rd (l : List Int) (j : Int) (h0 : 0 ≤ j) (h : j < (l.length : Int)) : l.take (j + 1).toNat = l.take j.toNat ++ [rd l j] := by
 rw [show (j + 1).toNat = j.toNat + 1 by omega, List.take_succ_eq_append_getElem (by omega)]
 congr 2
 unfold rd
 rw [List.getD_eq_getElem?_getD, List.getElem?_eq_getElem (by omega)]
 rfl
def RdOk (n : Int) (l : List S47) (u : List (List Int) × List (List Int)) : Prop :=
 (u.1.length : Int) = n ∧ (u.2.length : Int) = n ∧ ∀ i, 0 ≤ i → i < n → rd_L3 u.1 i = bef l i ∧ rd_L3 u.2 i = beh l i
theorem read_l0 {n : Int} {l : List S47} (hn : 0 ≤ n ∧ n ≤ 200) (hl : l.length ≤ 2000) (hok : ∀ p ∈ l, okp n p = true) (d : Nat) : ∀ (j : Int) (x y : List (List Int)), 0 ≤ j → j + d = l.length → RdOk n (l.take j.toNat) (x, y) → EvP (fun f => precedence_read.l0 f l (l.length : Int) j x y) (RdOk n l) := by
 induction d with
 | zero =>
  intro j x y j0 hj h
  rw [show l.take j.toNat = l from List.take_of_length_le (by omega)] at h
  exact EvP.stop (x, y) (fun f => by simp only [precedence_read.l0]; rw [if_neg (by omega)]) h
 | succ d ih =>
  intro j x y j0 hj h
  have hw := wrap_succ j j0 (by omega)
  have ho := (okp_iff _ _).1 (hok _ (T47_mem l j j0 (by omega)))
  have ht := take_T47 l j j0 (by omega)
  generalize hp : rd_T47 l j = p at ho ht
  obtain ⟨h1, h2, h3⟩ := h
  have h4 := h3 p.f0 ho.2.1.1 ho.2.1.2
  have h5 := h3 p.f1 ho.2.2.1 ho.2.2.2
  simp only at h1 h2 h3 h4 h5
  have l1 := bef_len (l.take j.toNat) p.f1
  have l2 := beh_len (l.take j.toNat) p.f0
  have l3 : (l.take j.toNat).length ≤ 2000 := by rw [List.length_take]; omega
  refine EvP.step (fun f => ?_) (ih (j + 1) (x.set p.f1.toNat (rd_L3 x p.f1 ++ [p.f0])) (y.set p.f0.toNat (rd_L3 y p.f0 ++ [p.f1])) (by omega) (by omega) ⟨by rw [List.length_set]; exact h1, by rw [List.length_set]; exact h2, fun i i0 i1 => ?_⟩)
  ·simp only [precedence_read.l0]
   rw [hp, if_pos (by omega), if_pos j0, if_pos (by omega), if_pos ho.2.1.1, if_pos (by omega), if_pos (by rw [h4.2]; omega), if_pos ho.2.2.1, if_pos (by omega), if_pos (by rw [h5.1]; omega), hw]
  ·rw [ht, bef_snoc, beh_snoc]
   refine ⟨?_, ?_⟩
   ·by_cases e : i = p.f1
    ·subst e
     rw [if_pos rfl]
     exact (rd3_set_self _ _ _ i0 (by omega)).trans (by rw [h5.1])
    ·rw [if_neg (Ne.symm e)]
     exact (rd3_set_ne _ _ _ _ ho.2.2.1 i0 e).trans (h3 i i0 i1).1
   ·by_cases e : i = p.f0
    ·subst e
     rw [if_pos rfl]
     exact (rd3_set_self _ _ _ i0 (by omega)).trans (by rw [h4.2])
    ·rw [if_neg (Ne.symm e)]
     exact (rd3_set_ne _ _ _ _ ho.2.1.1 i0 e).trans (h3 i i0 i1).2
theorem rd3_rep (n : Nat) (i : Int) : rd_L3 (List.replicate n []) i = [] := by
 unfold rd_L3
 rw [List.getD_eq_getElem?_getD, List.getElem?_replicate]
 split <;> rfl
theorem read_ev {n : Int} {l : List S47} (h : vErr n l = 0) : EvP (fun f => precedence_read.f f n l) (RdOk n l) := by
 obtain ⟨h1, h2, h3, h4⟩ := vErr_zero h
 unfold precedence_read.f
 simp only [if_pos h1, if_pos (show n.toNat ≤ 11728124029610 by omega)]
 refine read_l0 ⟨h1, h2⟩ h3 h4 l.length 0 _ _ (by omega) (by omega) ⟨by simp; omega, by simp; omega, fun i i0 i1 => ?_⟩
 rw [show (0 : Int).toNat = 0 from rfl, List.take_zero]
 exact ⟨rd3_rep _ _, rd3_rep _ _⟩

def Can (n : Int) (l : List S47) (o : List Int) (i : Int) : Prop := (0 ≤ i ∧ i < n) ∧ ¬ i ∈ o ∧ rdy l o i = true
def Nxt (n : Int) (l : List S47) (o : List Int) (i : Int) : Prop := Can n l o i ∧ ∀ j, j < i → ¬ Can n l o j
theorem least (P : Int → Prop) (h : ∃ i, 0 ≤ i ∧ P i) : ∃ i, (0 ≤ i ∧ P i) ∧ ∀ j, 0 ≤ j → j < i → ¬ P j := by
 obtain ⟨i, i0, hi⟩ := h
 have key : ∀ (m : Nat) (i : Int), 0 ≤ i → i.toNat ≤ m → P i → ∃ i, (0 ≤ i ∧ P i) ∧ ∀ j, 0 ≤ j → j < i → ¬ P j := by
  intro m
  induction m with
  | zero => intro i i0 hm hi; exact ⟨i, ⟨i0, hi⟩, fun j j0 hj => by omega⟩
  | succ m ih =>
   intro i i0 hm hi
   by_cases hx : ∃ j, 0 ≤ j ∧ j < i ∧ P j
   ·obtain ⟨j, j0, hj, hp⟩ := hx
    exact ih j j0 (by omega) hp
   ·exact ⟨i, ⟨i0, hi⟩, fun j j0 hj hp => hx ⟨j, j0, hj, hp⟩⟩
 exact key i.toNat i i0 (Nat.le_refl _) hi
theorem Nxt.of {n : Int} {l : List S47} {o : List Int} (h : ∃ i, Can n l o i) : ∃ i, Nxt n l o i := by
 obtain ⟨i, hi⟩ := h
 obtain ⟨k, hk, hm⟩ := least (Can n l o) ⟨i, hi.1.1, hi⟩
 exact ⟨k, hk.2, fun j hj hc => hm j hc.1.1 hj hc⟩
theorem Nxt.uniq {n : Int} {l : List S47} {o : List Int} {i j : Int} (hi : Nxt n l o i) (hj : Nxt n l o j) : i = j := by
 rcases Int.lt_trichotomy i j with h | h | h
 ·exact absurd hi.1 (hj.2 i h)
 ·exact h
 ·exact absurd hj.1 (hi.2 j h)
inductive Greedy (n : Int) (l : List S47) : List Int → Prop
 | nil : Greedy n l []
 | snoc {o : List Int} {i : Int} : Greedy n l o → Nxt n l o i → Greedy n l (o ++ [i])
theorem Greedy.uniq {n : Int} {l : List S47} : ∀ {o o' : List Int}, Greedy n l o → Greedy n l o' → o.length = o'.length → o = o' := by
 intro o o' h
 induction h generalizing o' with
 | nil => intro h' hl; exact (List.eq_nil_of_length_eq_zero hl.symm).symm
 | @snoc o i h1 h2 ih =>
  intro h' hl
  cases h' with
  | nil => simp at hl
  | @snoc o2 j h3 h4 =>
   have e := ih h3 (by simpa using hl)
   subst e
   rw [h2.uniq h4]
def Lst (n : Int) (l : List S47) (o : List Int) : Prop := o.Nodup ∧ (∀ x ∈ o, 0 ≤ x ∧ x < n) ∧ Topo (Rl l) o
theorem Lst.snoc {n : Int} {l : List S47} {o : List Int} {i : Int} (h : Lst n l o) (hc : Can n l o i) : Lst n l (o ++ [i]) := by
 obtain ⟨h1, h2, h3⟩ := h
 refine ⟨?_, fun x hx => ?_, fun k x hx j hj => ?_⟩
 ·rw [List.nodup_append]
  exact ⟨h1, by simp, fun a ha b hb => by
   rw [List.mem_singleton] at hb
   subst hb
   exact fun e => hc.2.1 (e ▸ ha)⟩
 ·rcases List.mem_append.1 hx with hx | hx
  ·exact h2 x hx
  ·rw [List.mem_singleton] at hx; subst hx; exact hc.1
 ·by_cases hk : k < o.length
  ·rw [List.getElem?_append_left hk] at hx
   rw [List.take_append_of_le_length (by omega)]
   exact h3 k x hx j hj
  ·rw [List.getElem?_append_right (by omega)] at hx
   have hk0 : k - o.length = 0 := by
    rcases Nat.eq_zero_or_pos (k - o.length) with h0 | h0
    ·exact h0
    ·rw [List.getElem?_eq_none (by simp; omega)] at hx; cases hx
   rw [hk0] at hx
   have hxi : i = x := by simpa using hx
   subst hxi
   rw [show k = o.length by omega, List.take_append_of_le_length (Nat.le_refl _), List.take_length]
   exact (rdy_iff _ _ _).1 hc.2.2 j hj
theorem Lst.nil (n : Int) (l : List S47) : Lst n l [] := ⟨by simp, by simp, fun i x hx => by simp at hx⟩
theorem Greedy.lst {n : Int} {l : List S47} {o : List Int} (h : Greedy n l o) : Lst n l o := by
 induction h with
 | nil => exact Lst.nil n l
 | snoc _ h2 ih => exact ih.snoc h2.1
theorem Lst.len {n : Int} {l : List S47} {o : List Int} (h : Lst n l o) (hn : 0 ≤ n) : (o.length : Int) ≤ n := by
 have := pig n.toNat o h.1 (fun x hx => by have := h.2.1 x hx; omega)
 omega
theorem Lst.acyc {n : Int} {l : List S47} {o : List Int} (h : Lst n l o) (hok : ∀ p ∈ l, okp n p = true) (hl : (o.length : Int) = n) : Acyc (Rl l) :=
 h.2.2.acyc h.1 (rl_inn hok) (fun i i0 i1 => full_in h.1 h.2.1 hl i i0 i1)
theorem can_of_acyc {n : Int} {l : List S47} {o : List Int} (hok : ∀ p ∈ l, okp n p = true) (ha : Acyc (Rl l)) (hl : (o.length : Int) < n) : ∃ i, Nxt n l o i := by
 obtain ⟨i, hi, ho, hr⟩ := source (rl_inn hok) ha o (some_out hl)
 exact Nxt.of ⟨i, hi, ho, (rdy_iff _ _ _).2 hr⟩

def OrdOk (n : Int) (l : List S47) (t : List Int × Int) : Prop :=
 (vErr n l ≠ 0 ∧ t = ([], vErr n l)) ∨ (vErr n l = 0 ∧ ¬ Acyc (Rl l) ∧ t = ([], 12)) ∨ (vErr n l = 0 ∧ Acyc (Rl l) ∧ t.2 = 0 ∧ Greedy n l t.1 ∧ (t.1.length : Int) = n)
theorem OrdOk.uniq {n : Int} {l : List S47} {t u : List Int × Int} (ht : OrdOk n l t) (hu : OrdOk n l u) : t = u := by
 rcases ht with ⟨h1, rfl⟩ | ⟨h1, h2, rfl⟩ | ⟨h1, h2, h3, h4, h5⟩ <;> rcases hu with ⟨k1, rfl⟩ | ⟨k1, k2, rfl⟩ | ⟨k1, k2, k3, k4, k5⟩
 ·rfl
 ·exact absurd k1 h1
 ·exact absurd k1 h1
 ·exact absurd h1 k1
 ·rfl
 ·exact absurd k2 h2
 ·exact absurd h1 k1
 ·exact absurd h2 k2
 ·exact Prod.ext (h4.uniq k4 (by omega)) (h3.trans k3.symm)
end Go.Proofs.Ytbbkclcfmcjlgaa.B
