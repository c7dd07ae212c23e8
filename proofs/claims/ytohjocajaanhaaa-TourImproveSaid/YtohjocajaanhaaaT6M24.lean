import Derived.Test.YtohjocajaanhaaaT6M21
import Derived.Test.YtohjocajaanhaaaT6Px8
import Derived.WalkSpells
import Derived.Lib.LazyBuf
-- PRINTED by print.py (a twelfth state) out of the translation. Not trusted: Lean checks it.

namespace Go.Proofs.Ytohjocajaanhaaa.P
open Go.RowKit Go.Proofs.YtohjocajaanhaaaW.PrintWords Go.Proofs.YtohjocajaanhaaaW.PrintLast Go.Proofs.YtohjocajaanhaaaW.PrintMore
attribute [local go_sem] max2_int min2_int max_two min_two max_three min_three max_four min_four   -- for this text's walks alone
set_option linter.unusedVariables false
set_option linter.unusedSimpArgs false

/-! ### tour_Tree: function 20 -/
def tour_Tree.f (k : Nat) (l0 : List (S31)) : Option (Int) := if 0 ≤ (l0.length : Int) then (if ((l0.length : Int) : Int).toNat ≤ 35184372088832 then ((tour_span.f k l0 (List.replicate ((l0.length : Int) : Int).toNat 0)).bind fun bt178 => (some bt178.1)) else (none)) else (none)
theorem tour_Tree.mono : ∀ a0 k, LeO (tour_Tree.f k a0) (tour_Tree.f (k + 1) a0) := by
 intro a0 k
 unfold tour_Tree.f
 repeat' first
   | (with_reducible exact tour_span.mono _ _ _)
   | (with_reducible exact LeO.refl _)
   | (with_reducible exact LeO.none _)
   | (with_reducible refine LeO.ite ?_ ?_)
   | (with_reducible refine LeO.bind ?_ (fun _ => ?_))
   | exact tour_span.mono _ _ _
   | exact LeO.none _
   | refine LeO.ite ?_ ?_
   | refine LeO.bind ?_ (fun _ => ?_)
set_option maxHeartbeats 8000000 in
set_option maxRecDepth 100000 in
theorem tour_Tree.calls (k : Nat) (A0 : Option Addr) (c0 : Nat) (l0 : List (S31)) (r : Int) (w : World) (hr0 : Kd.C k31 w A0 l0.length l0) (hc0 : l0.length ≤ c0) (h : tour_Tree.f k l0 = some r) :
  Calls Try.prog 20 #[.slice A0 l0.length c0] w fun e w' => e = .returned (.int .i64 r) ∧ Below w.heap.size w w' := by
 have HR0 := Aside0.mk hr0
 have HC0 := Aside0.mk hc0
 clear hr0 hc0
 have HB := Aside0.mk (Below.refl w.heap.size w)
 have H : (if 0 ≤ (l0.length : Int) then (if ((l0.length : Int) : Int).toNat ≤ 35184372088832 then ((tour_span.f k l0 (List.replicate ((l0.length : Int) : Int).toNat 0)).bind fun bt178 => (some bt178.1)) else (none)) else (none)) = some r := h
 clear h
 by_cases c2 : 0 ≤ (l0.length : Int)
 ·rw [if_pos c2] at H
  have c2b0 := eq_true c2
  have c2b1 : decide (0 ≤ (l0.length : Int)) = true := decide_eq_true c2
  clear c2
  by_cases c3 : ((l0.length : Int) : Int).toNat ≤ 35184372088832
  ·rw [if_pos c3] at H
   have c3b0 := eq_true c3
   have c3b1 : decide (((l0.length : Int) : Int).toNat ≤ 35184372088832) = true := decide_eq_true c3
   clear c3
   obtain ⟨y175, hy175⟩ : ∃ y_ : List Int, y_ = (List.replicate ((l0.length : Int) : Int).toNat 0) := ⟨_, rfl⟩
   replace H : ((tour_span.f k l0 y175).bind fun bt178 => (some bt178.1)) = some r := by first | (rw [hy175]; with_reducible exact H) | (have H2_ := (Option.bind_some _ _).symm.trans H; rw [hy175]; with_reducible exact H2_) | (have H2_ := (Option.bind_some _ _).symm.trans H; with_reducible exact H2_) | with_reducible exact H | (rw [hy175]; exact H) | exact H
   have Ny175 := Aside0.mk hy175; clear hy175; replace H := Option.bind_eq_some_iff.mp H
   obtain ⟨⟨t178, t179⟩, A40, H⟩ := H
   replace H : (some t178) = some r := H
   have A4 := Aside0.mk A40; clear A40; obtain rfl := Option.some.inj H
   go_enter Try.func20, Try.ntmps20
   go_wp2_with (first | ((with_reducible refine gate_dst (N := 9) rfl ?_); refine Kd.R_make (Kd.int .i64) _ 2 rfl (N := 9) rfl 39 _ _ rfl (l0.length : Int) rfl rfl Try.underlying39 (.int .i64 0) 8 info2 rfl (by decide) (by omega) 0 (ok := fun _ => True) (okp := fun _ => True) rfl (fun _ hk => hk) trivial (of_decide_eq_true (by first | (with_reducible assumption) | assumption)) (Nat.le_trans (Nat.mul_le_mul_right _ (of_decide_eq_true (by first | (with_reducible assumption) | assumption) : (l0.length : Int).toNat ≤ 35184372088832)) (by omega)) (Below.refl _ _) (Nat.le_refl _) ?_; intro v176 w5 ho6 hb hg_ hnew_; clear hg_ hnew_; (first | rw [← Ny175.out] at ho6 | (simp only [Int.reduceToNat] at ho6; rw [← Ny175.out] at ho6)); have n0_ := Aside0.mk (Kd.R_lower ho6 (below_size (by repeat (first | (with_reducible first | exact HB.out | apply below_alloc | apply pw_below_drewN | apply below_drew1) | exact HB.out)))); have n1_ := Aside0.mk (below_step (by repeat (first | (with_reducible first | exact HB.out | apply below_alloc | apply pw_below_drewN | apply below_drew1) | exact HB.out)) hb); clear HB; have HO177 := n0_; have HB := n1_; clear n0_ n1_; clear hb ho6; obtain ⟨Ao7, co7, eo7⟩ := Kd.R_slice HO177.out; subst eo7) | ((with_reducible refine gate_callee (f := 36) rfl ?_); refine goesL_ (some 10) rfl rfl Try.func36 (by kernel_rfl) rfl #[.slice A0 l0.length c0, .slice Ao7 y175.length co7] rfl (by (try simp only [List.map_toArray, List.map_cons, List.map_nil]); first | done | rfl | (simp only [List.length_drop, List.length_take]; rfl)) ?_; (with_reducible refine (tour_span.calls k _ _ l0 _ _ y175 t178 t179 _ ?side1 ?side2 ?side3 ?side4 A4.out).mono ?_); (case side1 => repeat (first | exact (Kd.C_below HR0.out HB.out) | (with_reducible refine Kd.C_alloc ?_ _) | (with_reducible refine Kd.C_drewN ?_ _) | (with_reducible refine Kd.C_drew ?_))); (case side2 => exact HC0.out); (case side3 => repeat (first | exact (Kd.R_reads' HO177.out).2.2 | (with_reducible refine Kd.C_alloc ?_ _) | (with_reducible refine Kd.C_drewN ?_ _) | (with_reducible refine Kd.C_drew ?_))); (case side4 => exact (Kd.R_reads' HO177.out).2.1); rintro e w8 ⟨v180, rfl, ho0, hb⟩; refine ⟨_, rfl, ?_⟩; have n0_ := Aside0.mk (Kd.R_below (by (with_reducible repeat (first | apply Kd.R_alloc | apply Kd.R_drewN | apply Kd.R_drew)); exact HO177.out) hb); have n1_ := Aside0.mk (Kd.R_lower ho0 (below_size (by repeat (first | (with_reducible first | exact HB.out | apply below_alloc | apply pw_below_drewN | apply below_drew1) | exact HB.out)))); have n2_ := Aside0.mk (below_step (by repeat (first | (with_reducible first | exact HB.out | apply below_alloc | apply pw_below_drewN | apply below_drew1) | exact HB.out)) hb); clear HO177; clear HB; have HO177 := n0_; have HO181 := n1_; have HB := n2_; clear n0_ n1_ n2_; (try clear hb); (try clear hb2); (try clear hk); (try clear hi); (try clear ho0)))
   go_ret
   exact ⟨by first | rfl | (simp [errW_none, errW_some] <;> rfl) | (simp [*, errW_none, errW_some] <;> rfl), by repeat (first | (with_reducible first | exact HB.out | apply below_alloc | apply pw_below_drewN | apply below_drew1) | exact HB.out)⟩
  ·rw [if_neg c3] at H
   exact absurd H (by simp)
 ·rw [if_neg c2] at H
  exact absurd H (by simp)

end Go.Proofs.Ytohjocajaanhaaa.P

/- The contract of slices.Min at []int64 (function 46), by hand: it may panic with a string, which the printing program does not take. -/

namespace Go.Proofs.Ytohjocajaanhaaa.P
open Go.RowKit Go.Proofs.YtohjocajaanhaaaW.PrintWords Go.Proofs.YtohjocajaanhaaaW.PrintLast Go.Proofs.YtohjocajaanhaaaW.PrintMore
attribute [local go_sem] max2_int min2_int max_two min_two max_three min_three max_four min_four   -- for this text's walks alone
set_option linter.unusedVariables false
set_option linter.unusedSimpArgs false

def minL (l0 : List Int) (k : Nat) : Int := ((l0.drop 1).take k).foldl mn (rd l0 0)
theorem minL_zero (l0 : List Int) : minL l0 0 = rd l0 0 := by simp [minL]
theorem minL_succ (l0 : List Int) (k : Nat) (h : k + 1 < l0.length) : minL l0 (k + 1) = mn (minL l0 k) (rd l0 ((k : Int) + 1)) := by
 unfold minL
 have h1 : k < (l0.drop 1).length := by rw [List.length_drop]; omega
 rw [List.take_succ_eq_append_getElem h1, List.foldl_append]
 have : rd l0 ((k : Int) + 1) = (l0.drop 1)[k] := by
  unfold rd
  rw [List.getElem_drop]
  have e : ((k : Int) + 1).toNat = 1 + k := by omega
  rw [e]
  simp [List.getD, show 1 + k < l0.length by omega]
 rw [this]
 rfl
def slices_Min_int64_int64.f (l0 : List Int) : Option Int := if 1 ≤ l0.length then some (minL l0 (l0.length - 1)) else none
set_option maxHeartbeats 1000000 in
set_option maxRecDepth 100000 in
theorem slices_Min_int64_int64.calls (A0 : Option Addr) (c0 : Nat) (l0 : List Int) (r : Int) (w : World) (hr0 : Kd.C (Kd.int .i64) w A0 l0.length l0) (hc0 : l0.length ≤ c0) (h : slices_Min_int64_int64.f l0 = some r) :
  Calls Try.prog 46 #[.slice A0 l0.length c0] w fun e w' => e = .returned (.int .i64 r) ∧ Drawn0 w w' := by
 unfold slices_Min_int64_int64.f at h
 split at h
 ·rename_i hl
  have HH := Aside0.mk (Option.some.inj h)
  clear h; have HR := Aside0.mk hr0
  have hmx : l0.length ≤ 9223372036854775807 := hr0.2.1
  clear hr0 hc0
  have hl0 : decide ((l0.length : Int) < 1) = false := by simp; omega
  obtain ⟨ad, eA, hx0⟩ := Kd.at_int HR.out 0 (by omega) (by omega)
  subst eA
  have hx1 : w.cell? (ad.add 0) = some (.int .i64 (rd l0 0)) := hx0
  have hx2 : w.cell? ad = some (.int .i64 (rd l0 0)) := by cases ad; simpa [Addr.add] using hx0
  have hlt0 : (0 : Int) < (l0.length : Int) := by omega
  go_enter Try.func46, Try.ntmps46
  go_wp2
  go_loop [3, 4] (fun m i => ∃ k : Nat, k + 1 ≤ l0.length ∧ i = .int .i64 ((k : Int) + 1) ∧ m = .int .i64 (minL l0 k)) (fun _ i => l0.length - (intOf i).toNat)
  case atStart => exact ⟨0, by omega, rfl, by rw [minL_zero]⟩
  case round =>
   obtain ⟨k, hk, rfl, rfl⟩ := hrel
   clear hx0 hx1 hx2
   by_cases hlt : k + 1 < l0.length
   ·obtain ⟨ad', eA', hx⟩ := Kd.at_int HR.out ((k : Int) + 1) (by omega) (by omega)
    obtain rfl : ad = ad' := by injection eA'
    have hx' : w.cell? ⟨ad.block, ad.off + (k + 1), none⟩ = some (.int .i64 (rd l0 ((k : Int) + 1))) := hx
    clear hx
    have hb : decide ((k : Int) + 1 < (l0.length : Int)) = true := by simp; omega
    have hS := Aside0.mk (minL_succ l0 k hlt)
    go_wp2
    all_goals
     go_round
     case rel => exact ⟨k + 1, by omega, by go_num, by rw [hS.out]; first | rfl | (unfold mn; simp [*]; done)⟩
     case measure => simp [intOf]; omega
   ·have hb : decide ((k : Int) + 1 < (l0.length : Int)) = false := by simp; omega
    go_wp2; go_ret
    have e := HH.out
    rw [show l0.length - 1 = k by omega] at e
    exact ⟨by rw [← e]; rfl, Drawn0.refl _⟩
 ·cases h
end Go.Proofs.Ytohjocajaanhaaa.P

-- PRINTED by print.py (a twelfth state) out of the translation. Not trusted: Lean checks it.

namespace Go.Proofs.Ytohjocajaanhaaa.P
open Go.RowKit Go.Proofs.YtohjocajaanhaaaW.PrintWords Go.Proofs.YtohjocajaanhaaaW.PrintLast Go.Proofs.YtohjocajaanhaaaW.PrintMore
attribute [local go_sem] max2_int min2_int max_two min_two max_three min_three max_four min_four   -- for this text's walks alone
set_option linter.unusedVariables false
set_option linter.unusedSimpArgs false

/-! ### tour_bound: function 40 -/
def tour_bound.l0 : Nat → List Int → Int → List Int → List Int → Int → Int → Option (Int × List Int)
 | 0, _, _, _, _, _, _ => none
 | k + 1, x1, x6, x7, x20, x21, x22 => if x22 < x21 then (if 0 ≤ x22 then (if x22 < (x20.length : Int) then (tour_bound.l0 k x1 (wrap64 (x6 - (wrap64 (2 * (rd x20 x22))))) x7 x20 x21 (wrap64 (x22 + 1))) else (none)) else (none)) else (if 0 < (x1.length : Int) then (if 1 ≤ (x1.length : Int) then ((slices_Min_int64_int64.f (x1.drop 1)).bind fun t196 => (some (wrap64 ((wrap64 (x6 + (rd x1 0))) + t196), x7))) else (none)) else (none))
def tour_bound.f (k : Nat) (l0 : List (S31)) (l1 : List Int) : Option (Int × List Int) := (tour_span.f k l0 l1).bind fun bt189 => (if (l0.length : Int) < 2 then (some (0, bt189.2)) else (tour_bound.l0 k l1 bt189.1 bt189.2 l1 (l1.length : Int) 0))
theorem tour_bound.mono_l : ∀ k, (∀ y0 y1 y2 y3 y4 y5, LeO (tour_bound.l0 k y0 y1 y2 y3 y4 y5) (tour_bound.l0 (k + 1) y0 y1 y2 y3 y4 y5))
 | 0 => fun _ _ _ _ _ _ r h => by simp [tour_bound.l0] at h
 | k + 1 => by
  have ih0 := tour_bound.mono_l k
  ·intro y0 y1 y2 y3 y4 y5
   unfold tour_bound.l0
   repeat' first
   | (with_reducible exact ih0 _ _ _ _ _ _)
   | (with_reducible exact tour_span.mono _ _ _)
   | (with_reducible exact LeO.refl _)
   | (with_reducible exact LeO.none _)
   | (with_reducible refine LeO.ite ?_ ?_)
   | (with_reducible refine LeO.bind ?_ (fun _ => ?_))
   | exact ih0 _ _ _ _ _ _
   | exact tour_span.mono _ _ _
   | exact LeO.none _
   | refine LeO.ite ?_ ?_
   | refine LeO.bind ?_ (fun _ => ?_)
theorem tour_bound.mono : ∀ a0 a1 k, LeO (tour_bound.f k a0 a1) (tour_bound.f (k + 1) a0 a1) := by
 intro a0 a1 k
 have ih0 := tour_bound.mono_l k
 unfold tour_bound.f
 repeat' first
   | (with_reducible exact ih0 _ _ _ _ _ _)
   | (with_reducible exact tour_span.mono _ _ _)
   | (with_reducible exact LeO.refl _)
   | (with_reducible exact LeO.none _)
   | (with_reducible refine LeO.ite ?_ ?_)
   | (with_reducible refine LeO.bind ?_ (fun _ => ?_))
   | exact ih0 _ _ _ _ _ _
   | exact tour_span.mono _ _ _
   | exact LeO.none _
   | refine LeO.ite ?_ ?_
   | refine LeO.bind ?_ (fun _ => ?_)
set_option maxHeartbeats 8000000 in
set_option maxRecDepth 100000 in
theorem tour_bound.calls (k : Nat) (A0 : Option Addr) (c0 : Nat) (l0 : List (S31)) (A1 : Option Addr) (c1 : Nat) (l1 : List Int) (r1 : Int) (r2 : List Int) (w : World) (hr0 : Kd.C k31 w A0 l0.length l0) (hc0 : l0.length ≤ c0) (hr1 : Kd.C (Kd.int .i64) w A1 l1.length l1) (hc1 : l1.length ≤ c1) (h : tour_bound.f k l0 l1 = some (r1, r2)) :
  Calls Try.prog 40 #[.slice A0 l0.length c0, .slice A1 l1.length c1] w fun e w' => ∃ v1_ : Value, e = .returned (.tuple #[.int .i64 r1, v1_]) ∧ Kd.R (Kd.int .i64) 3 w' w.heap.size (fun _ => True) v1_ r2 ∧ Below w.heap.size w w' := by
 have HR0 := Aside0.mk hr0
 have HC0 := Aside0.mk hc0
 clear hr0 hc0
 have HR1 := Aside0.mk hr1
 have HC1 := Aside0.mk hc1
 clear hr1 hc1
 have HB := Aside0.mk (Below.refl w.heap.size w)
 have H : ((tour_span.f k l0 l1).bind fun bt189 => (if (l0.length : Int) < 2 then (some (0, bt189.2)) else (tour_bound.l0 k l1 bt189.1 bt189.2 l1 (l1.length : Int) 0))) = some (r1, r2) := h
 clear h
 replace H := Option.bind_eq_some_iff.mp H
 obtain ⟨⟨t189, t190⟩, A30, H⟩ := H
 replace H : (if (l0.length : Int) < 2 then (some (0, t190)) else (tour_bound.l0 k l1 t189 t190 l1 (l1.length : Int) 0)) = some (r1, r2) := H
 have A3 := Aside0.mk A30
 clear A30
 by_cases c4 : (l0.length : Int) < 2
 ·rw [if_pos c4] at H
  have c4b0 : decide ((l0.length : Int) < 2) = true := decide_eq_true c4
  have c4b1 : decide (l0.length < 2) = true := decide_eq_true (by omega)
  clear c4
  simp only [Option.some.injEq, Prod.mk.injEq] at H
  obtain ⟨rfl, rfl⟩ := H
  go_enter Try.func40, Try.ntmps40
  go_wp2_with (first | (go_at_call 36; (with_reducible refine (tour_span.calls k _ _ l0 _ _ l1 t189 t190 _ ?side1 ?side2 ?side3 ?side4 A3.out).mono ?_); (case side1 => repeat (first | exact HR0.out | (with_reducible refine Kd.C_alloc ?_ _) | (with_reducible refine Kd.C_drewN ?_ _) | (with_reducible refine Kd.C_drew ?_))); (case side2 => exact HC0.out); (case side3 => repeat (first | exact HR1.out | (with_reducible refine Kd.C_alloc ?_ _) | (with_reducible refine Kd.C_drewN ?_ _) | (with_reducible refine Kd.C_drew ?_))); (case side4 => exact HC1.out); rintro e w5 ⟨v191, rfl, ho0, hb⟩; have n0_ := Aside0.mk (Kd.R_lower ho0 (below_size (by repeat (first | (with_reducible first | exact HB.out | apply below_alloc | apply pw_below_drewN | apply below_drew1) | exact HB.out)))); have n1_ := Aside0.mk (below_step (by repeat (first | (with_reducible first | exact HB.out | apply below_alloc | apply pw_below_drewN | apply below_drew1) | exact HB.out)) hb); clear HB; have HO192 := n0_; have HB := n1_; clear n0_ n1_; (try clear hb); (try clear hb2); (try clear hk); (try clear hi); (try clear ho0)))
  repeat (go_quiet (first | (go_at_call 36; (with_reducible refine (tour_span.calls k _ _ l0 _ _ l1 t189 t190 _ ?side1 ?side2 ?side3 ?side4 A3.out).mono ?_); (case side1 => repeat (first | exact HR0.out | (with_reducible refine Kd.C_alloc ?_ _) | (with_reducible refine Kd.C_drewN ?_ _) | (with_reducible refine Kd.C_drew ?_))); (case side2 => exact HC0.out); (case side3 => repeat (first | exact HR1.out | (with_reducible refine Kd.C_alloc ?_ _) | (with_reducible refine Kd.C_drewN ?_ _) | (with_reducible refine Kd.C_drew ?_))); (case side4 => exact HC1.out); rintro e w5 ⟨v191, rfl, ho0, hb⟩; have n0_ := Aside0.mk (Kd.R_lower ho0 (below_size (by repeat (first | (with_reducible first | exact HB.out | apply below_alloc | apply pw_below_drewN | apply below_drew1) | exact HB.out)))); have n1_ := Aside0.mk (below_step (by repeat (first | (with_reducible first | exact HB.out | apply below_alloc | apply pw_below_drewN | apply below_drew1) | exact HB.out)) hb); clear HB; have HO192 := n0_; have HB := n1_; clear n0_ n1_; (try clear hb); (try clear hb2); (try clear hk); (try clear hi); (try clear ho0))); try go_wp2_with (first | (go_at_call 36; (with_reducible refine (tour_span.calls k _ _ l0 _ _ l1 t189 t190 _ ?side1 ?side2 ?side3 ?side4 A3.out).mono ?_); (case side1 => repeat (first | exact HR0.out | (with_reducible refine Kd.C_alloc ?_ _) | (with_reducible refine Kd.C_drewN ?_ _) | (with_reducible refine Kd.C_drew ?_))); (case side2 => exact HC0.out); (case side3 => repeat (first | exact HR1.out | (with_reducible refine Kd.C_alloc ?_ _) | (with_reducible refine Kd.C_drewN ?_ _) | (with_reducible refine Kd.C_drew ?_))); (case side4 => exact HC1.out); rintro e w5 ⟨v191, rfl, ho0, hb⟩; have n0_ := Aside0.mk (Kd.R_lower ho0 (below_size (by repeat (first | (with_reducible first | exact HB.out | apply below_alloc | apply pw_below_drewN | apply below_drew1) | exact HB.out)))); have n1_ := Aside0.mk (below_step (by repeat (first | (with_reducible first | exact HB.out | apply below_alloc | apply pw_below_drewN | apply below_drew1) | exact HB.out)) hb); clear HB; have HO192 := n0_; have HB := n1_; clear n0_ n1_; (try clear hb); (try clear hb2); (try clear hk); (try clear hi); (try clear ho0))))
  go_ret2
  exact ⟨_, by first | rfl | (simp [errW_none, errW_some] <;> rfl) | (simp [*, errW_none, errW_some] <;> rfl), by (with_reducible repeat (first | apply Kd.R_alloc | apply Kd.R_drewN | apply Kd.R_drew)); exact HO192.out, by repeat (first | (with_reducible first | exact HB.out | apply below_alloc | apply pw_below_drewN | apply below_drew1) | exact HB.out)⟩
 ·rw [if_neg c4] at H
  have c4b0 : decide ((l0.length : Int) < 2) = false := decide_eq_false c4
  have c4b1 : decide (l0.length < 2) = false := decide_eq_false (by omega)
  clear c4; have H' := Aside0.mk H; clear H
  go_enter Try.func40, Try.ntmps40
  go_wp2_with (first | (go_at_call 36; (with_reducible refine (tour_span.calls k _ _ l0 _ _ l1 t189 t190 _ ?side1 ?side2 ?side3 ?side4 A3.out).mono ?_); (case side1 => repeat (first | exact HR0.out | (with_reducible refine Kd.C_alloc ?_ _) | (with_reducible refine Kd.C_drewN ?_ _) | (with_reducible refine Kd.C_drew ?_))); (case side2 => exact HC0.out); (case side3 => repeat (first | exact HR1.out | (with_reducible refine Kd.C_alloc ?_ _) | (with_reducible refine Kd.C_drewN ?_ _) | (with_reducible refine Kd.C_drew ?_))); (case side4 => exact HC1.out); rintro e w6 ⟨v191, rfl, ho0, hb⟩; have n0_ := Aside0.mk (Kd.R_lower ho0 (below_size (by repeat (first | (with_reducible first | exact HB.out | apply below_alloc | apply pw_below_drewN | apply below_drew1) | exact HB.out)))); have n1_ := Aside0.mk (below_step (by repeat (first | (with_reducible first | exact HB.out | apply below_alloc | apply pw_below_drewN | apply below_drew1) | exact HB.out)) hb); clear HB; have HO192 := n0_; have HB := n1_; clear n0_ n1_; (try clear hb); (try clear hb2); (try clear hk); (try clear hi); (try clear ho0)))
  repeat (go_quiet (first | (go_at_call 36; (with_reducible refine (tour_span.calls k _ _ l0 _ _ l1 t189 t190 _ ?side1 ?side2 ?side3 ?side4 A3.out).mono ?_); (case side1 => repeat (first | exact HR0.out | (with_reducible refine Kd.C_alloc ?_ _) | (with_reducible refine Kd.C_drewN ?_ _) | (with_reducible refine Kd.C_drew ?_))); (case side2 => exact HC0.out); (case side3 => repeat (first | exact HR1.out | (with_reducible refine Kd.C_alloc ?_ _) | (with_reducible refine Kd.C_drewN ?_ _) | (with_reducible refine Kd.C_drew ?_))); (case side4 => exact HC1.out); rintro e w6 ⟨v191, rfl, ho0, hb⟩; have n0_ := Aside0.mk (Kd.R_lower ho0 (below_size (by repeat (first | (with_reducible first | exact HB.out | apply below_alloc | apply pw_below_drewN | apply below_drew1) | exact HB.out)))); have n1_ := Aside0.mk (below_step (by repeat (first | (with_reducible first | exact HB.out | apply below_alloc | apply pw_below_drewN | apply below_drew1) | exact HB.out)) hb); clear HB; have HO192 := n0_; have HB := n1_; clear n0_ n1_; (try clear hb); (try clear hb2); (try clear hk); (try clear hi); (try clear ho0))); try go_wp2_with (first | (go_at_call 36; (with_reducible refine (tour_span.calls k _ _ l0 _ _ l1 t189 t190 _ ?side1 ?side2 ?side3 ?side4 A3.out).mono ?_); (case side1 => repeat (first | exact HR0.out | (with_reducible refine Kd.C_alloc ?_ _) | (with_reducible refine Kd.C_drewN ?_ _) | (with_reducible refine Kd.C_drew ?_))); (case side2 => exact HC0.out); (case side3 => repeat (first | exact HR1.out | (with_reducible refine Kd.C_alloc ?_ _) | (with_reducible refine Kd.C_drewN ?_ _) | (with_reducible refine Kd.C_drew ?_))); (case side4 => exact HC1.out); rintro e w6 ⟨v191, rfl, ho0, hb⟩; have n0_ := Aside0.mk (Kd.R_lower ho0 (below_size (by repeat (first | (with_reducible first | exact HB.out | apply below_alloc | apply pw_below_drewN | apply below_drew1) | exact HB.out)))); have n1_ := Aside0.mk (below_step (by repeat (first | (with_reducible first | exact HB.out | apply below_alloc | apply pw_below_drewN | apply below_drew1) | exact HB.out)) hb); clear HB; have HO192 := n0_; have HB := n1_; clear n0_ n1_; (try clear hb); (try clear hb2); (try clear hk); (try clear hi); (try clear ho0))))
  go_loopg [6, 22] k (fun kq v6 v22 w' => ∃ (x6_1 : Int) (x22_1 : Int), v6 = .int .i64 x6_1 ∧ v22 = .int .i64 x22_1 ∧ Aside0 (tour_bound.l0 kq l1 x6_1 t190 l1 (l1.length : Int) x22_1 = some (r1, r2)) ∧ Aside0 (kq ≤ k) ∧ Aside0 (Kd.R (Kd.int .i64) 3 w' w.heap.size (fun _ => True) v191 t190) ∧ Aside0 (Below w.heap.size w w'))
  case atStart => exact ⟨(t189), (0), (by first | rfl | (simp; done) | (simp [*]; done)), (by first | rfl | (simp; done) | (simp [*]; done)), H', ⟨Nat.le_refl _⟩, ⟨by (with_reducible repeat (first | apply Kd.R_alloc | apply Kd.R_drewN | apply Kd.R_drew)); exact HO192.out⟩, ⟨by repeat (first | (with_reducible first | exact HB.out | apply below_alloc | apply pw_below_drewN | apply below_drew1) | exact HB.out)⟩⟩
  case round =>
   clear H'; try clear c1; try clear p2; try clear c4; try clear c4b0; try clear c4b1
   obtain ⟨x6_1, x22_1, rfl, rfl, HA, HK1, HO_7, HB⟩ := hrel
   cases gk with
   | zero => exact absurd HA.out (by simp [tour_bound.l0])
   | succ k1 =>
    have H := HA.out
    clear HA
    simp only [tour_bound.l0] at H
    by_cases c7 : x22_1 < (l1.length : Int)
    ·rw [if_pos c7] at H
     have c7b0 : decide (x22_1 < (l1.length : Int)) = true := decide_eq_true c7
     clear c7
     by_cases c8 : 0 ≤ x22_1
     ·rw [if_pos c8] at H
      have c8b0 : decide (0 ≤ x22_1) = true := decide_eq_true c8
      clear c8
      by_cases c9 : x22_1 < (l1.length : Int)
      ·rw [if_pos c9] at H
       have c9b0 : decide (x22_1 < (l1.length : Int)) = true := decide_eq_true c9
       clear c9; have H' := Aside0.mk H; clear H
       have p193 : 0 ≤ (x22_1 : Int) := of_decide_eq_true (by first | (with_reducible assumption) | assumption)
       have q193 : x22_1 < (l1.length : Int) := of_decide_eq_true (by first | (with_reducible assumption) | assumption)
       obtain ⟨ad193, e193, hx193_0⟩ := Kd.at_int HR1.out x22_1 p193 q193
       cases e193
       replace hx193_0 := (HB.out.cell (World.block_lt_of_cell? w _ hx193_0)).trans hx193_0
       replace p193 := eq_true p193; replace q193 := eq_true q193; go_wp2
       repeat (go_quiet (fail); try go_wp2)
       go_roundg k1
       case measure => have := HK1.out; omega
       case rel => exact ⟨(wrap64 (x6_1 - (wrap64 (2 * (rd l1 x22_1))))), (wrap64 (x22_1 + 1)), (by first | rfl | (simp; done) | (simp [*]; done)), (by first | rfl | (simp; done) | (simp [*]; done)), H', ⟨by have := HK1.out; omega⟩, ⟨by (with_reducible repeat (first | apply Kd.R_alloc | apply Kd.R_drewN | apply Kd.R_drew)); exact HO_7.out⟩, ⟨by repeat (first | (with_reducible first | exact HB.out | apply below_alloc | apply pw_below_drewN | apply below_drew1) | exact HB.out)⟩⟩
      ·rw [if_neg c9] at H
       exact absurd H (by simp)
     ·rw [if_neg c8] at H
      exact absurd H (by simp)
    ·rw [if_neg c7] at H
     have c7b0 : decide (x22_1 < (l1.length : Int)) = false := decide_eq_false c7
     clear c7
     by_cases c10 : 0 < (l1.length : Int)
     ·rw [if_pos c10] at H
      have c10b0 : decide (0 < (l1.length : Int)) = true := decide_eq_true c10
      have c10b1 : decide (0 < l1.length) = true := decide_eq_true (by omega)
      clear c10
      by_cases c11 : 1 ≤ (l1.length : Int)
      ·rw [if_pos c11] at H
       have c11b0 := eq_true c11
       have c11b1 : decide (1 ≤ (l1.length : Int)) = true := decide_eq_true c11
       clear c11; replace H := Option.bind_eq_some_iff.mp H
       obtain ⟨t196, A120, H⟩ := H
       replace H : (some (wrap64 ((wrap64 (x6_1 + (rd l1 0))) + t196), t190)) = some (r1, r2) := H
       have A12 := Aside0.mk A120; clear A120
       simp only [Option.some.injEq, Prod.mk.injEq] at H
       obtain ⟨rfl, rfl⟩ := H
       have p194 : 0 ≤ (0 : Int) := (by omega)
       have q194 : 0 < (l1.length : Int) := of_decide_eq_true (by first | (with_reducible assumption) | assumption)
       obtain ⟨ad194, e194, hx194_0⟩ := Kd.at_int HR1.out 0 p194 q194
       cases e194
       have qi194 : (0 < l1.length) = True := eq_true (by omega)
       (try rw [show ((0 : Int)).toNat = 0 from rfl] at hx194_0)
       (try rw [Addr.add_zero'] at hx194_0)
       replace hx194_0 := (HB.out.cell (World.block_lt_of_cell? w _ hx194_0)).trans hx194_0
       replace p194 := eq_true p194; replace q194 := eq_true q194
       obtain ⟨i013, hi013, _, hsz13, _⟩ := info_parts info2
       obtain ⟨A13, hcut13, hA13, hC13⟩ := print_drop_of (P := Try.prog) (Value.int .i64) 0 39 2 .i64 Try.underlying39 hi013 hsz13 (some ad194) c1 l1 1 (by omega) (of_decide_eq_true (by first | (with_reducible assumption) | assumption)) HC1.out
       have HR195 := Aside0.mk (Kd.C_of_reads (h1 := fun _ => rfl) (hA13 _ (Kd.reads_of_C HR1.out)))
       have HC195 := Aside0.mk hC13; clear hA13 hC13 hi013 hsz13
       go_wp2_with (first | (go_at_call 46; (rw [show l1.length - 1 = (l1.drop 1).length from by rw [List.length_drop]]); (with_reducible refine (slices_Min_int64_int64.calls _ _ (l1.drop 1) t196 _ ?side1 ?side2 A12.out).mono ?_); (case side1 => repeat (first | exact (Kd.C_below HR195.out HB.out) | (with_reducible refine Kd.C_alloc ?_ _) | (with_reducible refine Kd.C_drewN ?_ _) | (with_reducible refine Kd.C_drew ?_))); (case side2 => exact HC195.out); rintro e w' ⟨rfl, ⟨nd, rfl⟩⟩; (try first | exact ⟨rfl, _, World.drewN_drewN _ _ _⟩ | exact ⟨rfl, _, Eq.trans (World.drewN_drewN _ _ _) (congrArg (World.drewN _) (Nat.add_assoc _ _ _))⟩)))
       repeat (go_quiet (first | (go_at_call 46; (rw [show l1.length - 1 = (l1.drop 1).length from by rw [List.length_drop]]); (with_reducible refine (slices_Min_int64_int64.calls _ _ (l1.drop 1) t196 _ ?side1 ?side2 A12.out).mono ?_); (case side1 => repeat (first | exact (Kd.C_below HR195.out HB.out) | (with_reducible refine Kd.C_alloc ?_ _) | (with_reducible refine Kd.C_drewN ?_ _) | (with_reducible refine Kd.C_drew ?_))); (case side2 => exact HC195.out); rintro e w' ⟨rfl, ⟨nd, rfl⟩⟩; (try first | exact ⟨rfl, _, World.drewN_drewN _ _ _⟩ | exact ⟨rfl, _, Eq.trans (World.drewN_drewN _ _ _) (congrArg (World.drewN _) (Nat.add_assoc _ _ _))⟩))); try go_wp2_with (first | (go_at_call 46; (rw [show l1.length - 1 = (l1.drop 1).length from by rw [List.length_drop]]); (with_reducible refine (slices_Min_int64_int64.calls _ _ (l1.drop 1) t196 _ ?side1 ?side2 A12.out).mono ?_); (case side1 => repeat (first | exact (Kd.C_below HR195.out HB.out) | (with_reducible refine Kd.C_alloc ?_ _) | (with_reducible refine Kd.C_drewN ?_ _) | (with_reducible refine Kd.C_drew ?_))); (case side2 => exact HC195.out); rintro e w' ⟨rfl, ⟨nd, rfl⟩⟩; (try first | exact ⟨rfl, _, World.drewN_drewN _ _ _⟩ | exact ⟨rfl, _, Eq.trans (World.drewN_drewN _ _ _) (congrArg (World.drewN _) (Nat.add_assoc _ _ _))⟩))))
       go_ret2
       exact ⟨_, by first | rfl | (simp [errW_none, errW_some] <;> rfl) | (simp [*, errW_none, errW_some] <;> rfl), by (with_reducible repeat (first | apply Kd.R_alloc | apply Kd.R_drewN | apply Kd.R_drew)); exact HO_7.out, by repeat (first | (with_reducible first | exact HB.out | apply below_alloc | apply pw_below_drewN | apply below_drew1) | exact HB.out)⟩
      ·rw [if_neg c11] at H
       exact absurd H (by simp)
     ·rw [if_neg c10] at H
      exact absurd H (by simp)

end Go.Proofs.Ytohjocajaanhaaa.P

-- PRINTED by print.py (a twelfth state) out of the translation. Not trusted: Lean checks it.

namespace Go.Proofs.Ytohjocajaanhaaa.P
open Go.RowKit Go.Proofs.YtohjocajaanhaaaW.PrintWords Go.Proofs.YtohjocajaanhaaaW.PrintLast Go.Proofs.YtohjocajaanhaaaW.PrintMore
attribute [local go_sem] max2_int min2_int max_two min_two max_three min_three max_four min_four   -- for this text's walks alone
set_option linter.unusedVariables false
set_option linter.unusedSimpArgs false

/-! ### tour_Bound: function 24 -/
mutual
def tour_Bound.j0 : Nat → List (S31) → List Int → Bool → Option (Int × Int)
 | 0, _, _, _ => none
 | k + 1, x0, x1, x25 => if x25 = true then (some (0, 1)) else (tour_Bound.l0 k x0 x1 x1 (x1.length : Int) 0)
def tour_Bound.l0 : Nat → List (S31) → List Int → List Int → Int → Int → Option (Int × Int)
 | 0, _, _, _, _, _ => none
 | k + 1, x0, x1, x26, x27, x28 => if x28 < x27 then (if 0 ≤ x28 then (if x28 < (x26.length : Int) then (if (rd x26 x28) > 20000000 then (some (0, 11)) else (if (rd x26 x28) < (-20000000) then (some (0, 11)) else (tour_Bound.l0 k x0 x1 x26 x27 (wrap64 (x28 + 1))))) else (none)) else (none)) else ((tour_bound.f k x0 x1).bind fun bt194 => (some (bt194.1, 0)))
end
def tour_Bound.f (k : Nat) (l0 : List (S31)) (l1 : List Int) : Option (Int × Int) := (tour_check.f k l0 200).bind fun t192 => (if t192 = 0 then (if (l0.length : Int) = 0 then (tour_Bound.j0 k l0 l1 true) else (tour_Bound.j0 k l0 l1 ((l1.length : Int) != (l0.length : Int)))) else (some (0, t192)))
theorem tour_Bound.mono_l : ∀ k, (∀ y0 y1 y2, LeO (tour_Bound.j0 k y0 y1 y2) (tour_Bound.j0 (k + 1) y0 y1 y2)) ∧ (∀ y0 y1 y2 y3 y4, LeO (tour_Bound.l0 k y0 y1 y2 y3 y4) (tour_Bound.l0 (k + 1) y0 y1 y2 y3 y4))
 | 0 => ⟨fun _ _ _ r h => by simp [tour_Bound.j0] at h, fun _ _ _ _ _ r h => by simp [tour_Bound.l0] at h⟩
 | k + 1 => by
  obtain ⟨ih0, ih1⟩ := tour_Bound.mono_l k
  refine ⟨?_, ?_⟩
  ·intro y0 y1 y2
   unfold tour_Bound.j0
   repeat' first
   | (with_reducible exact ih0 _ _ _)
   | (with_reducible exact ih1 _ _ _ _ _)
   | (with_reducible exact tour_bound.mono _ _ _)
   | (with_reducible exact tour_check.mono _ _ _)
   | (with_reducible exact LeO.refl _)
   | (with_reducible exact LeO.none _)
   | (with_reducible refine LeO.ite ?_ ?_)
   | (with_reducible refine LeO.bind ?_ (fun _ => ?_))
   | exact ih0 _ _ _
   | exact ih1 _ _ _ _ _
   | exact tour_bound.mono _ _ _
   | exact tour_check.mono _ _ _
   | exact LeO.none _
   | refine LeO.ite ?_ ?_
   | refine LeO.bind ?_ (fun _ => ?_)
  ·intro y0 y1 y2 y3 y4
   unfold tour_Bound.l0
   repeat' first
   | (with_reducible exact ih0 _ _ _)
   | (with_reducible exact ih1 _ _ _ _ _)
   | (with_reducible exact tour_bound.mono _ _ _)
   | (with_reducible exact tour_check.mono _ _ _)
   | (with_reducible exact LeO.refl _)
   | (with_reducible exact LeO.none _)
   | (with_reducible refine LeO.ite ?_ ?_)
   | (with_reducible refine LeO.bind ?_ (fun _ => ?_))
   | exact ih0 _ _ _
   | exact ih1 _ _ _ _ _
   | exact tour_bound.mono _ _ _
   | exact tour_check.mono _ _ _
   | exact LeO.none _
   | refine LeO.ite ?_ ?_
   | refine LeO.bind ?_ (fun _ => ?_)
theorem tour_Bound.mono : ∀ a0 a1 k, LeO (tour_Bound.f k a0 a1) (tour_Bound.f (k + 1) a0 a1) := by
 intro a0 a1 k
 obtain ⟨ih0, ih1⟩ := tour_Bound.mono_l k
 unfold tour_Bound.f
 repeat' first
   | (with_reducible exact ih0 _ _ _)
   | (with_reducible exact ih1 _ _ _ _ _)
   | (with_reducible exact tour_bound.mono _ _ _)
   | (with_reducible exact tour_check.mono _ _ _)
   | (with_reducible exact LeO.refl _)
   | (with_reducible exact LeO.none _)
   | (with_reducible refine LeO.ite ?_ ?_)
   | (with_reducible refine LeO.bind ?_ (fun _ => ?_))
   | exact ih0 _ _ _
   | exact ih1 _ _ _ _ _
   | exact tour_bound.mono _ _ _
   | exact tour_check.mono _ _ _
   | exact LeO.none _
   | refine LeO.ite ?_ ?_
   | refine LeO.bind ?_ (fun _ => ?_)
set_option maxHeartbeats 8000000 in
set_option maxRecDepth 100000 in
theorem tour_Bound.calls (k : Nat) (A0 : Option Addr) (c0 : Nat) (l0 : List (S31)) (A1 : Option Addr) (c1 : Nat) (l1 : List Int) (r1 : Int) (r2 : Int) (w : World) (hr0 : Kd.C k31 w A0 l0.length l0) (hc0 : l0.length ≤ c0) (hr1 : Kd.C (Kd.int .i64) w A1 l1.length l1) (hc1 : l1.length ≤ c1) (h : tour_Bound.f k l0 l1 = some (r1, r2)) :
  Calls Try.prog 24 #[.slice A0 l0.length c0, .slice A1 l1.length c1] w fun e w' => e = .returned (.tuple #[.int .i64 r1, .int .i64 r2]) ∧ Below w.heap.size w w' := by
 have HR0 := Aside0.mk hr0
 have HC0 := Aside0.mk hc0
 clear hr0 hc0
 have HR1 := Aside0.mk hr1
 have HC1 := Aside0.mk hc1
 clear hr1 hc1
 have HB := Aside0.mk (Below.refl w.heap.size w)
 have H : ((tour_check.f k l0 200).bind fun t192 => (if t192 = 0 then (if (l0.length : Int) = 0 then (tour_Bound.j0 k l0 l1 true) else (tour_Bound.j0 k l0 l1 ((l1.length : Int) != (l0.length : Int)))) else (some (0, t192)))) = some (r1, r2) := h
 clear h
 replace H := Option.bind_eq_some_iff.mp H
 obtain ⟨t192, A30, H⟩ := H
 replace H : (if t192 = 0 then (if (l0.length : Int) = 0 then (tour_Bound.j0 k l0 l1 true) else (tour_Bound.j0 k l0 l1 ((l1.length : Int) != (l0.length : Int)))) else (some (0, t192))) = some (r1, r2) := H
 have A3 := Aside0.mk A30
 clear A30
 by_cases c4 : t192 = 0
 ·rw [if_pos c4] at H
  have c4b0 : (t192 == 0) = true := beq_iff_eq.mpr c4
  have c4b1 : (t192 != 0) = false := bne_eq_false_iff_eq.mpr c4
  clear c4; have HC5 := Aside0.mk H; clear H
  go_enter Try.func24, Try.ntmps24
  go_upto_region 4 with (first | ((with_reducible refine gate_callee (f := 28) rfl ?_); refine goesL_ (some 12) rfl rfl Try.func28 (by kernel_rfl) rfl #[.slice A0 l0.length c0, .int .i64 200] rfl (by (try simp only [List.map_toArray, List.map_cons, List.map_nil]); first | done | rfl | (simp only [List.length_drop, List.length_take]; rfl)) ?_; (with_reducible refine (tour_check.calls k _ _ l0 200 t192 _ ?side1 ?side2 A3.out).mono ?_); (case side1 => repeat (first | exact HR0.out | (with_reducible refine Kd.C_alloc ?_ _) | (with_reducible refine Kd.C_drewN ?_ _) | (with_reducible refine Kd.C_drew ?_))); (case side2 => exact HC0.out); rintro e w6 ⟨rfl, hb⟩; refine ⟨_, rfl, ?_⟩; have n0_ := Aside0.mk (below_step (by repeat (first | (with_reducible first | exact HB.out | apply below_alloc | apply pw_below_drewN | apply below_drew1) | exact HB.out)) hb); clear HB; have HB := n0_; clear n0_; (try clear hb); (try clear hb2); (try clear hk); (try clear hi)))
  (try simp only [Act.put, sA_, sZ_, sS_])
  go_cut [25] (fun v25 wc => ∃ (kq : Nat) (x25_4 : Bool), v25 = .bool x25_4 ∧ Aside0 (tour_Bound.j0 kq l0 l1 x25_4 = some (r1, r2)) ∧ Aside0 (kq ≤ k) ∧ Aside0 (Below w.heap.size w wc))
  case first =>
   have H := HC5.out
   clear HC5
   by_cases c7 : (l0.length : Int) = 0
   ·rw [if_pos c7] at H
    have c7b0 : ((l0.length : Int) == 0) = true := beq_iff_eq.mpr c7
    have c7b1 : ((l0.length : Int) != 0) = false := bne_eq_false_iff_eq.mpr c7
    clear c7
    (first | rw [c7b0] | (simp only [i64_w, i32_w]; rw [c7b0]) | skip)
    have H' := Aside0.mk H; clear H; go_wp2
    go_meet
    case rel => exact ⟨_, (true), (by first | rfl | (simp; done) | (simp [*]; done)), H', ⟨by first | omega | exact Nat.le_refl _⟩, ⟨by repeat (first | (with_reducible first | exact HB.out | apply below_alloc | apply pw_below_drewN | apply below_drew1) | exact HB.out)⟩⟩
   ·rw [if_neg c7] at H
    have c7b0 : ((l0.length : Int) == 0) = false := beq_eq_false_iff_ne.mpr c7
    have c7b1 : ((l0.length : Int) != 0) = true := bne_iff_ne.mpr c7
    have c7b2 : ¬ (l0 = []) := fun h_ => c7 (by rw [h_]; rfl)
    (first | rw [c7b0] | (simp only [i64_w, i32_w]; rw [c7b0]) | skip)
    have H' := Aside0.mk H; clear H; go_wp2
    go_meet
    case rel => exact ⟨_, (((l1.length : Int) != (l0.length : Int))), (by first | rfl | (simp; done) | (simp [*]; done)), H', ⟨by first | omega | exact Nat.le_refl _⟩, ⟨by repeat (first | (with_reducible first | exact HB.out | apply below_alloc | apply pw_below_drewN | apply below_drew1) | exact HB.out)⟩⟩
  case rest =>
   clear HC5; try clear c1; try clear c2; try clear p2; try clear c4; try clear c4b0; try clear c4b1; try clear c7; try clear c7b0; try clear c7b1; try clear c7b2
   obtain ⟨kq, x25_4, rfl, HA, HJ4, HB⟩ := hcut
   cases kq with
   | zero => exact absurd HA.out (by simp [tour_Bound.j0])
   | succ kj4 =>
    have H := HA.out
    clear HA
    simp only [tour_Bound.j0] at H
    by_cases c8 : x25_4 = true
    ·subst c8
     have H1 : (some (0, 1)) = some (r1, r2) := by rw [if_pos rfl] at H; exact H
     clear H; have H := H1; clear H1
     simp only [Option.some.injEq, Prod.mk.injEq] at H
     obtain ⟨rfl, rfl⟩ := H
     go_wp2
     go_ret2
     exact ⟨by first | rfl | (simp [errW_none, errW_some] <;> rfl) | (simp [*, errW_none, errW_some] <;> rfl), by repeat (first | (with_reducible first | exact HB.out | apply below_alloc | apply pw_below_drewN | apply below_drew1) | exact HB.out)⟩
    ·replace c8 := Bool.eq_false_iff.mpr c8
     subst c8
     have H1 : (tour_Bound.l0 kj4 l0 l1 l1 (l1.length : Int) 0) = some (r1, r2) := by rw [if_neg (show ¬ (false = true) by decide)] at H; exact H
     clear H; have H := H1; clear H1; have H' := Aside0.mk H; clear H; go_wp2
     go_loopg [28] kj4 (fun kq v28 w' => ∃ (x28_2 : Int), v28 = .int .i64 x28_2 ∧ Aside0 (tour_Bound.l0 kq l0 l1 l1 (l1.length : Int) x28_2 = some (r1, r2)) ∧ Aside0 (kq ≤ kj4) ∧ Aside0 (Below w.heap.size w w'))
     case atStart => exact ⟨(0), (by first | rfl | (simp; done) | (simp [*]; done)), H', ⟨Nat.le_refl _⟩, ⟨by repeat (first | (with_reducible first | exact HB.out | apply below_alloc | apply pw_below_drewN | apply below_drew1) | exact HB.out)⟩⟩
     case round =>
      clear H'; try clear c1; try clear c2; try clear p2; try clear c4; try clear c4b0; try clear c4b1; try clear c7; try clear c7b0; try clear c7b1; try clear c7b2; try clear c8; try clear p2
      obtain ⟨x28_2, rfl, HA, HK2, HB⟩ := hrel
      cases gk with
      | zero => exact absurd HA.out (by simp [tour_Bound.l0])
      | succ k2 =>
       have H := HA.out
       clear HA
       simp only [tour_Bound.l0] at H
       by_cases c9 : x28_2 < (l1.length : Int)
       ·rw [if_pos c9] at H
        have c9b0 : decide (x28_2 < (l1.length : Int)) = true := decide_eq_true c9
        clear c9
        by_cases c10 : 0 ≤ x28_2
        ·rw [if_pos c10] at H
         have c10b0 : decide (0 ≤ x28_2) = true := decide_eq_true c10
         clear c10
         by_cases c11 : x28_2 < (l1.length : Int)
         ·rw [if_pos c11] at H
          have c11b0 : decide (x28_2 < (l1.length : Int)) = true := decide_eq_true c11
          clear c11
          by_cases c12 : (rd l1 x28_2) > 20000000
          ·rw [if_pos c12] at H
           have c12b0 : decide (20000000 < (rd l1 x28_2)) = true := decide_eq_true c12
           clear c12
           simp only [Option.some.injEq, Prod.mk.injEq] at H
           obtain ⟨rfl, rfl⟩ := H
           have p193 : 0 ≤ (x28_2 : Int) := of_decide_eq_true (by first | (with_reducible assumption) | assumption)
           have q193 : x28_2 < (l1.length : Int) := of_decide_eq_true (by first | (with_reducible assumption) | assumption)
           obtain ⟨ad193, e193, hx193_0⟩ := Kd.at_int HR1.out x28_2 p193 q193
           cases e193
           replace hx193_0 := (HB.out.cell (World.block_lt_of_cell? w _ hx193_0)).trans hx193_0
           replace p193 := eq_true p193; replace q193 := eq_true q193; go_wp2
           go_ret2
           exact ⟨by first | rfl | (simp [errW_none, errW_some] <;> rfl) | (simp [*, errW_none, errW_some] <;> rfl), by repeat (first | (with_reducible first | exact HB.out | apply below_alloc | apply pw_below_drewN | apply below_drew1) | exact HB.out)⟩
          ·rw [if_neg c12] at H
           have c12b0 : decide (20000000 < (rd l1 x28_2)) = false := decide_eq_false c12
           clear c12
           by_cases c13 : (rd l1 x28_2) < (-20000000)
           ·rw [if_pos c13] at H
            have c13b0 : decide ((rd l1 x28_2) < (-20000000)) = true := decide_eq_true c13
            clear c13
            simp only [Option.some.injEq, Prod.mk.injEq] at H
            obtain ⟨rfl, rfl⟩ := H
            have p193 : 0 ≤ (x28_2 : Int) := of_decide_eq_true (by first | (with_reducible assumption) | assumption)
            have q193 : x28_2 < (l1.length : Int) := of_decide_eq_true (by first | (with_reducible assumption) | assumption)
            obtain ⟨ad193, e193, hx193_0⟩ := Kd.at_int HR1.out x28_2 p193 q193
            cases e193
            replace hx193_0 := (HB.out.cell (World.block_lt_of_cell? w _ hx193_0)).trans hx193_0
            replace p193 := eq_true p193; replace q193 := eq_true q193; go_wp2
            go_ret2
            exact ⟨by first | rfl | (simp [errW_none, errW_some] <;> rfl) | (simp [*, errW_none, errW_some] <;> rfl), by repeat (first | (with_reducible first | exact HB.out | apply below_alloc | apply pw_below_drewN | apply below_drew1) | exact HB.out)⟩
           ·rw [if_neg c13] at H
            have c13b0 : decide ((rd l1 x28_2) < (-20000000)) = false := decide_eq_false c13
            clear c13; have H' := Aside0.mk H; clear H
            have p193 : 0 ≤ (x28_2 : Int) := of_decide_eq_true (by first | (with_reducible assumption) | assumption)
            have q193 : x28_2 < (l1.length : Int) := of_decide_eq_true (by first | (with_reducible assumption) | assumption)
            obtain ⟨ad193, e193, hx193_0⟩ := Kd.at_int HR1.out x28_2 p193 q193
            cases e193
            replace hx193_0 := (HB.out.cell (World.block_lt_of_cell? w _ hx193_0)).trans hx193_0
            replace p193 := eq_true p193; replace q193 := eq_true q193; go_wp2
            go_roundg k2
            case measure => have := HJ4.out; have := HK2.out; omega
            case rel => exact ⟨(wrap64 (x28_2 + 1)), (by first | rfl | (simp; done) | (simp [*]; done)), H', ⟨by have := HJ4.out; have := HK2.out; omega⟩, ⟨by repeat (first | (with_reducible first | exact HB.out | apply below_alloc | apply pw_below_drewN | apply below_drew1) | exact HB.out)⟩⟩
         ·rw [if_neg c11] at H
          exact absurd H (by simp)
        ·rw [if_neg c10] at H
         exact absurd H (by simp)
       ·rw [if_neg c9] at H
        have c9b0 : decide (x28_2 < (l1.length : Int)) = false := decide_eq_false c9
        clear c9; replace H := Option.bind_eq_some_iff.mp H
        obtain ⟨⟨t194, t195⟩, A140, H⟩ := H
        replace H : (some (t194, 0)) = some (r1, r2) := H
        have A14 := Aside0.mk A140; clear A140
        simp only [Option.some.injEq, Prod.mk.injEq] at H
        obtain ⟨rfl, rfl⟩ := H
        go_wp2_with (first | ((with_reducible refine gate_callee (f := 40) rfl ?_); refine goesL_ (some 42) rfl rfl Try.func40 (by kernel_rfl) rfl #[.slice A0 l0.length c0, .slice A1 l1.length c1] rfl (by (try simp only [List.map_toArray, List.map_cons, List.map_nil]); first | done | rfl | (simp only [List.length_drop, List.length_take]; rfl)) ?_; (with_reducible refine (tour_bound.calls k2 _ _ l0 _ _ l1 t194 t195 _ ?side1 ?side2 ?side3 ?side4 A14.out).mono ?_); (case side1 => repeat (first | exact (Kd.C_below HR0.out HB.out) | (with_reducible refine Kd.C_alloc ?_ _) | (with_reducible refine Kd.C_drewN ?_ _) | (with_reducible refine Kd.C_drew ?_))); (case side2 => exact HC0.out); (case side3 => repeat (first | exact (Kd.C_below HR1.out HB.out) | (with_reducible refine Kd.C_alloc ?_ _) | (with_reducible refine Kd.C_drewN ?_ _) | (with_reducible refine Kd.C_drew ?_))); (case side4 => exact HC1.out); rintro e w15 ⟨v196, rfl, ho0, hb⟩; refine ⟨_, rfl, ?_⟩; have n0_ := Aside0.mk (Kd.R_lower ho0 (below_size (by repeat (first | (with_reducible first | exact HB.out | apply below_alloc | apply pw_below_drewN | apply below_drew1) | exact HB.out)))); have n1_ := Aside0.mk (below_step (by repeat (first | (with_reducible first | exact HB.out | apply below_alloc | apply pw_below_drewN | apply below_drew1) | exact HB.out)) hb); clear HB; have HO197 := n0_; have HB := n1_; clear n0_ n1_; (try clear hb); (try clear hb2); (try clear hk); (try clear hi); (try clear ho0)))
        go_ret2
        exact ⟨by first | rfl | (simp [errW_none, errW_some] <;> rfl) | (simp [*, errW_none, errW_some] <;> rfl), by repeat (first | (with_reducible first | exact HB.out | apply below_alloc | apply pw_below_drewN | apply below_drew1) | exact HB.out)⟩
 ·rw [if_neg c4] at H
  have c4b0 : (t192 == 0) = false := beq_eq_false_iff_ne.mpr c4
  have c4b1 : (t192 != 0) = true := bne_iff_ne.mpr c4
  simp only [Option.some.injEq, Prod.mk.injEq] at H
  obtain ⟨rfl, rfl⟩ := H
  go_enter Try.func24, Try.ntmps24
  go_wp2_with (first | ((with_reducible refine gate_callee (f := 28) rfl ?_); refine goesL_ (some 12) rfl rfl Try.func28 (by kernel_rfl) rfl #[.slice A0 l0.length c0, .int .i64 200] rfl (by (try simp only [List.map_toArray, List.map_cons, List.map_nil]); first | done | rfl | (simp only [List.length_drop, List.length_take]; rfl)) ?_; (with_reducible refine (tour_check.calls k _ _ l0 200 t192 _ ?side1 ?side2 A3.out).mono ?_); (case side1 => repeat (first | exact HR0.out | (with_reducible refine Kd.C_alloc ?_ _) | (with_reducible refine Kd.C_drewN ?_ _) | (with_reducible refine Kd.C_drew ?_))); (case side2 => exact HC0.out); rintro e w16 ⟨rfl, hb⟩; refine ⟨_, rfl, ?_⟩; have n0_ := Aside0.mk (below_step (by repeat (first | (with_reducible first | exact HB.out | apply below_alloc | apply pw_below_drewN | apply below_drew1) | exact HB.out)) hb); clear HB; have HB := n0_; clear n0_; (try clear hb); (try clear hb2); (try clear hk); (try clear hi)))
  go_ret2
  exact ⟨by first | rfl | (simp [errW_none, errW_some] <;> rfl) | (simp [*, errW_none, errW_some] <;> rfl), by repeat (first | (with_reducible first | exact HB.out | apply below_alloc | apply pw_below_drewN | apply below_drew1) | exact HB.out)⟩

end Go.Proofs.Ytohjocajaanhaaa.P

-- PRINTED by print.py (a twelfth state) out of the translation. Not trusted: Lean checks it.

namespace Go.Proofs.Ytohjocajaanhaaa.P
open Go.RowKit Go.Proofs.YtohjocajaanhaaaW.PrintWords Go.Proofs.YtohjocajaanhaaaW.PrintLast Go.Proofs.YtohjocajaanhaaaW.PrintMore
attribute [local go_sem] max2_int min2_int max_two min_two max_three min_three max_four min_four   -- for this text's walks alone
set_option linter.unusedVariables false
set_option linter.unusedSimpArgs false

/-! ### slices_Index_int_int: function 47 -/
def slices_Index_int_int.l0 : Nat → List Int → Int → Int → Int → Option (Int)
 | 0, _, _, _, _ => none
 | k + 1, x0, x1, x7, x8 => if x8 < x7 then (if 0 ≤ x8 then (if x8 < (x0.length : Int) then (if x1 = (rd x0 x8) then (some x8) else (slices_Index_int_int.l0 k x0 x1 x7 (wrap64 (x8 + 1)))) else (none)) else (none)) else (some (-1))
def slices_Index_int_int.f (k : Nat) (l0 : List Int) (a1 : Int) : Option (Int) := slices_Index_int_int.l0 k l0 a1 (l0.length : Int) 0
theorem slices_Index_int_int.mono_l : ∀ k, (∀ y0 y1 y2 y3, LeO (slices_Index_int_int.l0 k y0 y1 y2 y3) (slices_Index_int_int.l0 (k + 1) y0 y1 y2 y3))
 | 0 => fun _ _ _ _ r h => by simp [slices_Index_int_int.l0] at h
 | k + 1 => by
  have ih0 := slices_Index_int_int.mono_l k
  ·intro y0 y1 y2 y3
   unfold slices_Index_int_int.l0
   repeat' first
   | (with_reducible exact ih0 _ _ _ _)
   | (with_reducible exact LeO.refl _)
   | (with_reducible exact LeO.none _)
   | (with_reducible refine LeO.ite ?_ ?_)
   | (with_reducible refine LeO.bind ?_ (fun _ => ?_))
   | exact ih0 _ _ _ _
   | exact LeO.none _
   | refine LeO.ite ?_ ?_
   | refine LeO.bind ?_ (fun _ => ?_)
theorem slices_Index_int_int.mono : ∀ a0 a1 k, LeO (slices_Index_int_int.f k a0 a1) (slices_Index_int_int.f (k + 1) a0 a1) := by
 intro a0 a1 k
 have ih0 := slices_Index_int_int.mono_l k
 unfold slices_Index_int_int.f
 repeat' first
   | (with_reducible exact ih0 _ _ _ _)
   | (with_reducible exact LeO.refl _)
   | (with_reducible exact LeO.none _)
   | (with_reducible refine LeO.ite ?_ ?_)
   | (with_reducible refine LeO.bind ?_ (fun _ => ?_))
   | exact ih0 _ _ _ _
   | exact LeO.none _
   | refine LeO.ite ?_ ?_
   | refine LeO.bind ?_ (fun _ => ?_)
set_option maxHeartbeats 8000000 in
set_option maxRecDepth 100000 in
theorem slices_Index_int_int.calls (k : Nat) (A0 : Option Addr) (c0 : Nat) (l0 : List Int) (a1 : Int) (r : Int) (w : World) (hr0 : Kd.C (Kd.int .i64) w A0 l0.length l0) (hc0 : l0.length ≤ c0) (h : slices_Index_int_int.f k l0 a1 = some r) :
  Calls Try.prog 47 #[.slice A0 l0.length c0, .int .i64 a1] w fun e w' => e = .returned (.int .i64 r) ∧ Drawn0 w w' := by
 have HR0 := Aside0.mk hr0
 have HC0 := Aside0.mk hc0
 clear hr0 hc0
 have H : (slices_Index_int_int.l0 k l0 a1 (l0.length : Int) 0) = some r := h
 clear h
 have H' := Aside0.mk H
 clear H
 go_enter Try.func47, Try.ntmps47
 go_wp2
 go_loopg [8] k (fun kq v8 w' => ∃ (x8_1 : Int), v8 = .int .i64 x8_1 ∧ Aside0 (slices_Index_int_int.l0 kq l0 a1 (l0.length : Int) x8_1 = some r) ∧ Aside0 (kq ≤ k) ∧ Drawn0 w w')
 case atStart => exact ⟨(0), (by first | rfl | (simp; done) | (simp [*]; done)), H', ⟨Nat.le_refl _⟩, by repeat (first | exact Drawn0.refl _ | apply Drawn0.step)⟩
 case round =>
  clear H'; try clear p2
  obtain ⟨x8_1, rfl, HA, HK1, ⟨m1, rfl⟩⟩ := hrel
  cases gk with
  | zero => exact absurd HA.out (by simp [slices_Index_int_int.l0])
  | succ k1 =>
   have H := HA.out
   clear HA
   simp only [slices_Index_int_int.l0] at H
   by_cases c3 : x8_1 < (l0.length : Int)
   ·rw [if_pos c3] at H
    have c3b0 : decide (x8_1 < (l0.length : Int)) = true := decide_eq_true c3
    clear c3
    by_cases c4 : 0 ≤ x8_1
    ·rw [if_pos c4] at H
     have c4b0 : decide (0 ≤ x8_1) = true := decide_eq_true c4
     clear c4
     by_cases c5 : x8_1 < (l0.length : Int)
     ·rw [if_pos c5] at H
      have c5b0 : decide (x8_1 < (l0.length : Int)) = true := decide_eq_true c5
      clear c5
      by_cases c6 : a1 = (rd l0 x8_1)
      ·rw [if_pos c6] at H
       have c6b0 : (a1 == (rd l0 x8_1)) = true := beq_iff_eq.mpr c6
       have c6b1 : (a1 != (rd l0 x8_1)) = false := bne_eq_false_iff_eq.mpr c6
       clear c6; obtain rfl := Option.some.inj H
       have p182 : 0 ≤ (x8_1 : Int) := of_decide_eq_true (by first | (with_reducible assumption) | assumption)
       have q182 : x8_1 < (l0.length : Int) := of_decide_eq_true (by first | (with_reducible assumption) | assumption)
       obtain ⟨ad182, e182, hx182_0⟩ := Kd.at_int HR0.out x8_1 p182 q182
       cases e182; replace p182 := eq_true p182; replace q182 := eq_true q182; go_wp2; go_ret
       exact ⟨by first | rfl | (simp; done) | (simp [*]; done), by repeat (first | exact Drawn0.refl _ | apply Drawn0.step)⟩
      ·rw [if_neg c6] at H
       have c6b0 : (a1 == (rd l0 x8_1)) = false := beq_eq_false_iff_ne.mpr c6
       have c6b1 : (a1 != (rd l0 x8_1)) = true := bne_iff_ne.mpr c6
       have H' := Aside0.mk H; clear H
       have p182 : 0 ≤ (x8_1 : Int) := of_decide_eq_true (by first | (with_reducible assumption) | assumption)
       have q182 : x8_1 < (l0.length : Int) := of_decide_eq_true (by first | (with_reducible assumption) | assumption)
       obtain ⟨ad182, e182, hx182_0⟩ := Kd.at_int HR0.out x8_1 p182 q182
       cases e182; replace p182 := eq_true p182; replace q182 := eq_true q182; go_wp2
       go_roundg k1
       case measure => have := HK1.out; omega
       case rel => exact ⟨(wrap64 (x8_1 + 1)), (by first | rfl | (simp; done) | (simp [*]; done)), H', ⟨by have := HK1.out; omega⟩, by repeat (first | exact Drawn0.refl _ | apply Drawn0.step)⟩
     ·rw [if_neg c5] at H
      exact absurd H (by simp)
    ·rw [if_neg c4] at H
     exact absurd H (by simp)
   ·rw [if_neg c3] at H
    have c3b0 : decide (x8_1 < (l0.length : Int)) = false := decide_eq_false c3
    clear c3; obtain rfl := Option.some.inj H; go_wp2; go_ret
    exact ⟨by first | rfl | (simp; done) | (simp [*]; done), by repeat (first | exact Drawn0.refl _ | apply Drawn0.step)⟩

end Go.Proofs.Ytohjocajaanhaaa.P

-- PRINTED by print.py (a twelfth state) out of the translation. Not trusted: Lean checks it.

namespace Go.Proofs.Ytohjocajaanhaaa.P
open Go.RowKit Go.Proofs.YtohjocajaanhaaaW.PrintWords Go.Proofs.YtohjocajaanhaaaW.PrintLast Go.Proofs.YtohjocajaanhaaaW.PrintMore
attribute [local go_sem] max2_int min2_int max_two min_two max_three min_three max_four min_four   -- for this text's walks alone
set_option linter.unusedVariables false
set_option linter.unusedSimpArgs false

/-! ### slices_Contains_int_int: function 45 -/
def slices_Contains_int_int.f (k : Nat) (l0 : List Int) (a1 : Int) : Option (Bool) := (slices_Index_int_int.f k l0 a1).bind fun t183 => (some (decide (t183 ≥ 0)))
theorem slices_Contains_int_int.mono : ∀ a0 a1 k, LeO (slices_Contains_int_int.f k a0 a1) (slices_Contains_int_int.f (k + 1) a0 a1) := by
 intro a0 a1 k
 unfold slices_Contains_int_int.f
 repeat' first
   | (with_reducible exact slices_Index_int_int.mono _ _ _)
   | (with_reducible exact LeO.refl _)
   | (with_reducible exact LeO.none _)
   | (with_reducible refine LeO.ite ?_ ?_)
   | (with_reducible refine LeO.bind ?_ (fun _ => ?_))
   | exact slices_Index_int_int.mono _ _ _
   | exact LeO.none _
   | refine LeO.ite ?_ ?_
   | refine LeO.bind ?_ (fun _ => ?_)
set_option maxHeartbeats 8000000 in
set_option maxRecDepth 100000 in
theorem slices_Contains_int_int.calls (k : Nat) (A0 : Option Addr) (c0 : Nat) (l0 : List Int) (a1 : Int) (r : Bool) (w : World) (hr0 : Kd.C (Kd.int .i64) w A0 l0.length l0) (hc0 : l0.length ≤ c0) (h : slices_Contains_int_int.f k l0 a1 = some r) :
  Calls Try.prog 45 #[.slice A0 l0.length c0, .int .i64 a1] w fun e w' => e = .returned (.bool r) ∧ Drawn0 w w' := by
 have HR0 := Aside0.mk hr0
 have HC0 := Aside0.mk hc0
 clear hr0 hc0
 have H : ((slices_Index_int_int.f k l0 a1).bind fun t183 => (some (decide (t183 ≥ 0)))) = some r := h
 clear h
 replace H := Option.bind_eq_some_iff.mp H
 obtain ⟨t183, A30, H⟩ := H
 replace H : (some (decide (t183 ≥ 0))) = some r := H
 have A3 := Aside0.mk A30
 clear A30
 obtain rfl := Option.some.inj H
 go_enter Try.func45, Try.ntmps45
 go_wp2_with (first | ((with_reducible refine gate_callee (f := 47) rfl ?_); refine goesL_ (some 7) rfl rfl Try.func47 (by kernel_rfl) rfl #[.slice A0 l0.length c0, .int .i64 a1] rfl (by (try simp only [List.map_toArray, List.map_cons, List.map_nil]); first | done | rfl | (simp only [List.length_drop, List.length_take]; rfl)) ?_; (with_reducible refine (slices_Index_int_int.calls k _ _ l0 a1 t183 _ ?side1 ?side2 A3.out).mono ?_); (case side1 => repeat (first | exact HR0.out | (with_reducible refine Kd.C_alloc ?_ _) | (with_reducible refine Kd.C_drewN ?_ _) | (with_reducible refine Kd.C_drew ?_))); (case side2 => exact HC0.out); rintro e w' ⟨rfl, ⟨nd, rfl⟩⟩; refine ⟨_, rfl, ?_⟩))
 go_ret
 exact ⟨by first | rfl | (simp; done) | (simp [*]; done), by repeat (first | exact Drawn0.refl _ | apply Drawn0.step)⟩

end Go.Proofs.Ytohjocajaanhaaa.P

/- The contract of slices.Clone at []int (function 41), by hand: it compares a slice with nil. -/

namespace Go.Proofs.Ytohjocajaanhaaa.P
open Go.RowKit Go.Proofs.YtohjocajaanhaaaW.PrintWords Go.Proofs.YtohjocajaanhaaaW.PrintLast Go.Proofs.YtohjocajaanhaaaW.PrintMore
set_option linter.unusedVariables false
set_option linter.unusedSimpArgs false

def slices_Clone_int_int.f (l0 : List Int) : Option (List Int) := if l0.length < 17592186044416 then some l0 else none
set_option maxHeartbeats 1000000 in
set_option maxRecDepth 100000 in
theorem slices_Clone_int_int.calls_of (A0 : Option Addr) (c0 : Nat) (l0 : List Int) (w : World) (hr0 : Kd.C (Kd.int .i64) w A0 l0.length l0) (hl : l0.length < 17592186044416) :
  Calls Try.prog 41 #[.slice A0 l0.length c0] w fun e w' => ∃ v0_ : Value, e = .returned (v0_) ∧ Kd.R (Kd.int .i64) 3 w' w.heap.size (fun _ => True) v0_ l0 ∧ Below w.heap.size w w' := by
 cases A0 with
 | none =>
  have h0 : l0 = [] := by
   rcases Nat.eq_zero_or_pos l0.length with h0 | h0
   ·exact List.eq_nil_of_length_eq_zero h0
   ·obtain ⟨ad, h, _⟩ := hr0.2.2 h0
    cases h
  subst h0
  have hq := fun (W : World) => Lib.run_eql_slice_nil (P := Try.prog) W 23 3 none 0 c0 0 0 Try.underlying23
  clear hr0
  go_enter Try.func41, Try.ntmps41
  go_wp2_with fail
  go_ret
  exact ⟨_, rfl, Kd.R_nil _ _ _ _ _, Below.refl _ _⟩
 | some ad =>
  have HR := Aside0.mk hr0; clear hr0
  have hq := fun (W : World) => Lib.run_eql_slice_nil (P := Try.prog) W 23 3 (some ad) l0.length c0 0 0 Try.underlying23
  go_enter Try.func41, Try.ntmps41
  go_wp2_with (first | ((with_reducible refine gate_dst (N := 5) rfl ?_); go_must (refine Kd.R_lit (Kd.int .i64) (w0 := w) w.heap.size 3 ?hg (N := 5) ?hd (xs := []) (inner := []) (ok := fun _ => True) (okp := fun _ => False) ?hr (Reps.none _ _) (fun _ hk => hk.elim) trivial (Below.refl _ _) (Nat.le_refl _) (by simp) ?_; (case hd => rfl); (case hg => rfl); (case hr => first | (go_simp; done) | (go_simp; rfl)); intro v1 w1 ho hb hg hat; have HO1 := Aside0.mk ho; have HB1 := Aside0.mk hb; have HSl := Kd.R_slice ho; obtain ⟨A1, c1, rfl⟩ := HSl; clear ho hb hg hat)) | ((with_reducible refine gate_builtin (b := .append) (xs := #[.tmp 5, .tmp 6]) rfl ?_); go_must (at_builtin; refine Kd.R_append_rows (Kd.int .i64) (Rr := (Kd.int .i64).K w1) (w0 := w) w.heap.size rfl (.tmp 5) (.tmp 6) 23 3 (.int .i64 0) 8 rfl Try.underlying23 info3 rfl (by decide) (by omega) _ [] l0 (some ad) l0.length c0 (fun _ => True) (fun _ => False) rfl rfl HO1.out (Kd.C_below HR.out HB1.out) ?aK (fun _ hk => hk.elim) (fun _ _ => trivial) HB1.out HB1.out.size ?aL ?_; (case aK => exact fun _ _ h => h); (case aL => simp; omega); intro v2 w2 ho hb hg hat; have HO2 := Aside0.mk ho; have HB2 := Aside0.mk hb; clear ho hb hg hat)))
  go_ret
  exact ⟨_, rfl, by have := HO2.out; rwa [List.nil_append] at this, HB2.out⟩
theorem slices_Clone_int_int.calls (A0 : Option Addr) (c0 : Nat) (l0 : List Int) (r : List Int) (w : World) (hr0 : Kd.C (Kd.int .i64) w A0 l0.length l0) (hc0 : l0.length ≤ c0) (h : slices_Clone_int_int.f l0 = some r) :
  Calls Try.prog 41 #[.slice A0 l0.length c0] w fun e w' => ∃ v0_ : Value, e = .returned (v0_) ∧ Kd.R (Kd.int .i64) 3 w' w.heap.size (fun _ => True) v0_ r ∧ Below w.heap.size w w' := by
 unfold slices_Clone_int_int.f at h
 split at h
 ·rename_i hl
  obtain rfl := Option.some.inj h
  exact slices_Clone_int_int.calls_of A0 c0 l0 w hr0 hl
 ·cases h
end Go.Proofs.Ytohjocajaanhaaa.P

/- The contract of (*tour.search).extend (function 38), by hand: it keeps its best order in a struct behind a pointer, which the printing program does not take. -/

namespace Go.Proofs.Ytohjocajaanhaaa.P
open Go.RowKit Go.Proofs.YtohjocajaanhaaaW.PrintWords Go.Proofs.YtohjocajaanhaaaW.PrintLast Go.Proofs.YtohjocajaanhaaaW.PrintMore
set_option linter.unusedVariables false
set_option linter.unusedSimpArgs false

/-! ### What it computes -/
mutual
def tour_ext.f : Nat → List S31 → List Int → Int → List Int → Int → Option (List Int × Int)
 | 0, _, _, _, _, _ => none
 | k + 1, l, o, s, b, m => if 1 ≤ o.length then (if o.length < 1000 then (if ¬ b = [] ∧ m ≤ s then some (b, m) else (if o.length = l.length then some (o, s) else tour_ext.l0 k l o s b m 0)) else none) else none
def tour_ext.l0 : Nat → List S31 → List Int → Int → List Int → Int → Int → Option (List Int × Int)
 | 0, _, _, _, _, _, _ => none
 | k + 1, l, o, s, b, m, i => if i < (l.length : Int) then (if 0 ≤ i then ((slices_Contains_int_int.f k o i).bind fun c => (if c = true then tour_ext.l0 k l o s b m (wrap64 (i + 1)) else (if 0 ≤ rd o ((o.length : Int) - 1) then (if rd o ((o.length : Int) - 1) < (l.length : Int) then ((tour_Distance.f (rd_T31 l (rd o ((o.length : Int) - 1))).f0 (rd_T31 l (rd o ((o.length : Int) - 1))).f1 (rd_T31 l i).f0 (rd_T31 l i).f1).bind fun d => ((tour_ext.f k l (o ++ [i]) (wrap64 (s + d)) b m).bind fun t => tour_ext.l0 k l o s t.1 t.2 (wrap64 (i + 1)))) else none) else none))) else none) else some (b, m)
end
theorem tour_ext.mono_l : ∀ k, (∀ y0 y1 y2 y3 y4, LeO (tour_ext.f k y0 y1 y2 y3 y4) (tour_ext.f (k + 1) y0 y1 y2 y3 y4)) ∧ (∀ y0 y1 y2 y3 y4 y5, LeO (tour_ext.l0 k y0 y1 y2 y3 y4 y5) (tour_ext.l0 (k + 1) y0 y1 y2 y3 y4 y5))
 | 0 => ⟨fun _ _ _ _ _ r h => by simp [tour_ext.f] at h, fun _ _ _ _ _ _ r h => by simp [tour_ext.l0] at h⟩
 | k + 1 => by
  obtain ⟨ih0, ih1⟩ := tour_ext.mono_l k
  refine ⟨?_, ?_⟩
  ·intro y0 y1 y2 y3 y4
   unfold tour_ext.f
   repeat' first
   | (with_reducible exact ih0 _ _ _ _ _)
   | (with_reducible exact ih1 _ _ _ _ _ _)
   | (with_reducible exact LeO.refl _)
   | (with_reducible exact LeO.none _)
   | (with_reducible refine LeO.ite ?_ ?_)
   | exact ih1 _ _ _ _ _ _
   | exact LeO.none _
   | refine LeO.ite ?_ ?_
  ·intro y0 y1 y2 y3 y4 y5
   unfold tour_ext.l0
   repeat' first
   | (with_reducible exact ih0 _ _ _ _ _)
   | (with_reducible exact ih1 _ _ _ _ _ _)
   | (with_reducible exact slices_Contains_int_int.mono _ _ _)
   | (with_reducible exact LeO.refl _)
   | (with_reducible exact LeO.none _)
   | (with_reducible refine LeO.ite ?_ ?_)
   | (with_reducible refine LeO.bind ?_ (fun _ => ?_))
   | exact ih0 _ _ _ _ _
   | exact ih1 _ _ _ _ _ _
   | exact slices_Contains_int_int.mono _ _ _
   | exact LeO.none _
   | refine LeO.ite ?_ ?_
   | refine LeO.bind ?_ (fun _ => ?_)
theorem tour_ext.mono : ∀ a0 a1 a2 a3 a4 k, LeO (tour_ext.f k a0 a1 a2 a3 a4) (tour_ext.f (k + 1) a0 a1 a2 a3 a4) := by
 intro a0 a1 a2 a3 a4 k
 exact (tour_ext.mono_l k).1 a0 a1 a2 a3 a4

/-! ### The world around it -/
structure EnvE (w W : World) (g : Nat) (A0 : Option Addr) (n0 c0 : Nat) (b : List Int) (m : Int) (vb : Value) : Prop where
 bk : W.heap[g]? = some (.cells #[.slice A0 n0 c0, vb, .int .i64 m] 55 (0, 0))
 r : Kd.R (Kd.int .i64) 3 W w.heap.size (fun _ => True) vb b
 z : b = [] → vb = .slice none 0 0
 b : Below w.heap.size w W
 l : w.heap.size ≤ g
theorem EnvE.step {w W W1 : World} {g : Nat} {A0 : Option Addr} {n0 c0 : Nat} {b : List Int} {m : Int} {vb : Value} (h : EnvE w W g A0 n0 c0 b m vb) (hb : Below W.heap.size W W1) : EnvE w W1 g A0 n0 c0 b m vb :=
 ⟨blk_below h.bk hb, Kd.R_below h.r hb, h.z, below_step h.b hb, h.l⟩
theorem EnvE.drew {w W : World} {g : Nat} {A0 : Option Addr} {n0 c0 : Nat} {b : List Int} {m : Int} {vb : Value} (h : EnvE w W g A0 n0 c0 b m vb) : EnvE w W.drew g A0 n0 c0 b m vb :=
 h.step (below_drew1 (Below.refl _ _))
theorem EnvE.drewN {w W : World} {g : Nat} {A0 : Option Addr} {n0 c0 : Nat} {b : List Int} {m : Int} {vb : Value} (h : EnvE w W g A0 n0 c0 b m vb) (n : Nat) : EnvE w (W.drewN n) g A0 n0 c0 b m vb :=
 h.step (Drawn0.below ⟨⟨n, rfl⟩⟩)
theorem EnvE.put {w W : World} {g : Nat} {A0 : Option Addr} {n0 c0 : Nat} {b b' : List Int} {m m' : Int} {vb vb' : Value} (h : EnvE w W g A0 n0 c0 b m vb) (hr : Kd.R (Kd.int .i64) 3 W w.heap.size (fun _ => True) vb' b') (hz : ¬ b' = []) :
  EnvE w ((W.setCell ⟨g, 1, none⟩ vb').setCell ⟨g, 2, none⟩ (.int .i64 m')) g A0 n0 c0 b' m' vb' :=
 ⟨blk_put (blk_put h.bk 1 _ rfl) 2 _ rfl, Kd.R_set (Kd.R_set hr h.bk (by decide) 1 _) (blk_set h.bk 1 _) (by decide) 2 _, fun e => absurd e hz, below_set (below_set h.b h.l) h.l, h.l⟩
theorem R_keptG {w W1 : World} {base g : Nat} {v : Value} {xs : List Int} {cells : Array Value} (h : Kd.R (Kd.int .i64) 3 w base (fun _ => True) v xs) (hb : w.heap[g]? = some (.cells cells 55 (0, 0))) (hk : Kept w W1 (fun k => k = g)) : Kd.R (Kd.int .i64) 3 W1 base (fun _ => True) v xs :=
 Kd.R_mono (Kd.R_kept (Kd.R_types h hb (by decide)) hk (fun k hk' => hk'.2)) (fun _ _ => trivial)
theorem nil_of {w W : World} {g : Nat} {A0 : Option Addr} {n0 c0 : Nat} {b : List Int} {m : Int} {vb : Value} (h : EnvE w W g A0 n0 c0 b m vb) (hb : ¬ b = []) : ∃ ad c, vb = .slice (some ad) b.length c := by
 obtain ⟨A, c, e, _, hc⟩ := Kd.R_reads h.r
 have hl : 0 < b.length := List.length_pos_iff.2 hb
 obtain ⟨ad, ha, _⟩ := hc.2.2 hl
 exact ⟨ad, c, by rw [e, ha]⟩
set_option maxHeartbeats 4000000 in
set_option maxRecDepth 100000 in
theorem tour_ext.calls (w : World) (g : Nat) (A0 : Option Addr) (c0 : Nat) (l : List S31) (hl : Kd.C k31 w A0 l.length l) (hlx : l.length < 1000) (k : Nat) : ∀ (o : List Int) (s : Int) (b : List Int) (m : Int) (r1 : List Int) (r2 : Int) (vb : Value) (Ao : Option Addr) (co : Nat) (W : World),
  EnvE w W g A0 l.length c0 b m vb → Kd.R (Kd.int .i64) 3 W w.heap.size (fun _ => True) (.slice Ao o.length co) o → tour_ext.f k l o s b m = some (r1, r2) →
  Calls Try.prog 38 #[.pointer (some ⟨g, 0, none⟩), .slice Ao o.length co, .int .i64 s] W fun e W' => e = .returned (.tuple #[]) ∧ ∃ vb', EnvE w W' g A0 l.length c0 r1 r2 vb' ∧ Kept W W' (fun k => k = g) := by
 induction k using Nat.strongRecOn with
 | _ k ih =>
 intro o s b m r1 r2 vb Ao co W hE hO h
 cases k with
 | zero => exact absurd h (by simp [tour_ext.f])
 | succ k =>
 simp only [tour_ext.f] at h
 by_cases ho1 : 1 ≤ o.length
 ·rw [if_pos ho1] at h
  by_cases ho2 : o.length < 1000
  ·rw [if_pos ho2] at h; have HE := Aside0.mk hE; have HO := Aside0.mk hO; have HL := Aside0.mk hl
   have hu55 := Try.underlying55
   clear hE hO hl
   by_cases pr : ¬ b = [] ∧ m ≤ s
   ·rw [if_pos pr] at h
    obtain ⟨rfl, rfl⟩ : b = r1 ∧ m = r2 := by simpa using h
    obtain ⟨ad, cb, rfl⟩ := nil_of HE.out pr.1
    have hz0 : W.cell? ⟨g, 0, none⟩ = some (.slice A0 l.length c0) := (blk_cell HE.out.bk 0).trans rfl
    have hz1 : W.cell? ⟨g, 1, none⟩ = some (.slice (some ad) b.length cb) := (blk_cell HE.out.bk 1).trans rfl
    have hz2 : W.cell? ⟨g, 2, none⟩ = some (.int .i64 m) := (blk_cell HE.out.bk 2).trans rfl
    have hq := fun (W : World) => run_neq_slice_nil (P := Try.prog) (w := W) 23 3 (some ad) b.length cb Try.underlying23
    have hs : decide (m ≤ s) = true := decide_eq_true pr.2
    clear pr h ih
    go_enter Try.func38, Try.ntmps38
    go_wp2_with fail
    refine bodyPost_ret (results_none rfl _ _ _) rfl ?_
    first | exact ⟨rfl, _, HE.out, Kept.refl _ _⟩ | exact ⟨rfl, ⟨_, HE.out⟩, Kept.refl _ _⟩
   ·rw [if_neg pr] at h; have HH := Aside0.mk h; clear h
    go_enter Try.func38, Try.ntmps38
    go_upto_region 0 with fail
    go_cut [19] (fun v19 wc => v19 = .bool false ∧ Aside0 (EnvE w wc g A0 l.length c0 b m vb) ∧ Aside0 (Kd.R (Kd.int .i64) 3 wc w.heap.size (fun _ => True) (.slice Ao o.length co) o) ∧ Aside0 (Kept W wc (fun k => k = g)))
    case first =>
     by_cases hb : b = []
     ·have hv := HE.out.z hb
      subst hv
      have hz0 : W.cell? ⟨g, 0, none⟩ = some (.slice A0 l.length c0) := (blk_cell HE.out.bk 0).trans rfl
      have hz1 : W.cell? ⟨g, 1, none⟩ = some (.slice none 0 0) := (blk_cell HE.out.bk 1).trans rfl
      have hz2 : W.cell? ⟨g, 2, none⟩ = some (.int .i64 m) := (blk_cell HE.out.bk 2).trans rfl
      have hq := fun (W : World) => run_neq_slice_nil (P := Try.prog) (w := W) 23 3 none 0 0 Try.underlying23
      clear ih pr hb
      go_wp2_with fail
      all_goals go_meet
      all_goals (case rel => exact ⟨rfl, HE, HO, ⟨Kept.refl _ _⟩⟩)
     ·obtain ⟨ad, cb, rfl⟩ := nil_of HE.out hb
      have hz0 : W.cell? ⟨g, 0, none⟩ = some (.slice A0 l.length c0) := (blk_cell HE.out.bk 0).trans rfl
      have hz1 : W.cell? ⟨g, 1, none⟩ = some (.slice (some ad) b.length cb) := (blk_cell HE.out.bk 1).trans rfl
      have hz2 : W.cell? ⟨g, 2, none⟩ = some (.int .i64 m) := (blk_cell HE.out.bk 2).trans rfl
      have hq := fun (W : World) => run_neq_slice_nil (P := Try.prog) (w := W) 23 3 (some ad) b.length cb Try.underlying23
      have hs : decide (m ≤ s) = false := decide_eq_false (fun hms => pr ⟨hb, hms⟩)
      clear ih pr hb
      go_wp2_with fail
      all_goals go_meet
      all_goals (case rel => exact ⟨rfl, HE, HO, ⟨Kept.refl _ _⟩⟩)
    case rest =>
     obtain ⟨rfl, HE1, HO1, HK1⟩ := hcut
     clear HE HO pr
     have h := HH.out
     clear HH
     have hz0 : wc.cell? ⟨g, 0, none⟩ = some (.slice A0 l.length c0) := (blk_cell HE1.out.bk 0).trans rfl
     by_cases hf : o.length = l.length
     ·rw [if_pos hf] at h
      obtain ⟨rfl, rfl⟩ : o = r1 ∧ s = r2 := by simpa using h
      have hfb : ((o.length : Int) == (l.length : Int)) = true := by rw [hf]; simp
      have hon : ¬ o = [] := by rintro rfl; simp at ho1
      have HF := Aside0.mk hf; clear h hf ih
      go_wp2_with (go_at_call 41; go_must (refine (slices_Clone_int_int.calls_of _ _ o _ (Kd.R_reads' HO1.out).2.2 (by omega)).mono ?_; rintro e w3 ⟨v51, rfl, ho, hb⟩; obtain ⟨A51, c51, rfl⟩ := Kd.R_slice ho; have HE3 := Aside0.mk (HE1.out.step hb); have HR3 := Aside0.mk (Kd.R_lower ho HE1.out.b.size); have HK3 := Aside0.mk (Kept.then_ HK1.out (Kept.of_below hb (fun k => k = g)) (fun k hk => .inl hk)); clear ho hb hz0; have hz0 : w3.cell? ⟨g, 0, none⟩ = some (.slice A0 l.length c0) := (blk_cell HE3.out.bk 0).trans rfl; have hz1 : w3.cell? ⟨g, 1, none⟩ = some vb := (blk_cell HE3.out.bk 1).trans rfl; have hz2 : w3.cell? ⟨g, 2, none⟩ = some (.int .i64 m) := (blk_cell HE3.out.bk 2).trans rfl; have hf1 := blk_frozen HE3.out.bk 1; have hf2 := blk_frozen HE3.out.bk 2))
      refine bodyPost_ret (results_none rfl _ _ _) rfl ?_
      first | exact ⟨rfl, _, EnvE.put HE3.out HR3.out hon, Kept.setCell (Kept.setCell HK3.out (.inl rfl) _) (.inl rfl) _⟩ | exact ⟨rfl, ⟨_, EnvE.put HE3.out HR3.out hon⟩, Kept.setCell (Kept.setCell HK3.out (.inl rfl) _) (.inl rfl) _⟩
     ·rw [if_neg hf] at h; have H' := Aside0.mk h
      have hfb : ((o.length : Int) == (l.length : Int)) = false := by simp; omega
      clear h hf
      go_wp2_with fail
      go_loopg [42] k (fun kq v42 wr => ∃ (i : Int) (b1 : List Int) (m1 : Int) (vb1 : Value), v42 = .int .i64 i ∧ Aside0 (tour_ext.l0 kq l o s b1 m1 i = some (r1, r2)) ∧ Aside0 (kq ≤ k) ∧ Aside0 (EnvE w wr g A0 l.length c0 b1 m1 vb1) ∧ Aside0 (Kd.R (Kd.int .i64) 3 wr w.heap.size (fun _ => True) (.slice Ao o.length co) o) ∧ Aside0 (Kept W wr (fun k => k = g)))
      case atStart => exact ⟨0, b, m, vb, rfl, H', ⟨Nat.le_refl _⟩, HE1, HO1, HK1⟩
      case round =>
       clear H' HE1 HO1 HK1 hz0
       obtain ⟨i, b1, m1, vb1, rfl, HA, HKq, HE, HO, HK⟩ := hrel
       cases gk with
       | zero => exact absurd HA.out (by simp [tour_ext.l0])
       | succ k1 =>
        have H := HA.out
        clear HA
        simp only [tour_ext.l0] at H
        by_cases c1 : i < (l.length : Int)
        ·rw [if_pos c1] at H
         have c1b : decide (i < (l.length : Int)) = true := decide_eq_true c1
         by_cases c2 : 0 ≤ i
         ·rw [if_pos c2] at H
          have Hwi := Aside0.mk (show wrap64 (i + 1) = i + 1 by unfold wrap64; omega)
          replace H := Option.bind_eq_some_iff.mp H
          obtain ⟨c, AC0, H⟩ := H
          have AC := Aside0.mk AC0; clear AC0
          by_cases c3 : c = true
          ·subst c3; rw [if_pos rfl] at H; have H' := Aside0.mk H; clear H ih
           go_wp2_with (go_at_call 45; go_must (refine (slices_Contains_int_int.calls k1 _ _ o i true _ (Kd.R_reads' HO.out).2.2 (Kd.R_reads' HO.out).2.1 AC.out).mono ?_; rintro e w' ⟨rfl, ⟨nd, rfl⟩⟩; have HE2 := Aside0.mk (HE.out.drewN nd); have HO2 := Aside0.mk (Kd.R_drewN HO.out nd); have HK2 := Aside0.mk (Kept.then_ HK.out (Kept.of_below (Drawn0.below ⟨⟨nd, rfl⟩⟩) (fun k => k = g)) (fun k hk => .inl hk))))
           go_roundg k1
           case measure => have := HKq.out; omega
           case rel => exact ⟨wrap64 (i + 1), b1, m1, vb1, (by rw [Hwi.out]), H', ⟨by have := HKq.out; omega⟩, HE2, HO2, HK2⟩
          ·rw [if_neg c3] at H
           replace c3 := Bool.eq_false_iff.mpr c3
           subst c3
           have hj : wrap64 ((o.length : Int) - 1) = (o.length : Int) - 1 := by unfold wrap64; omega
           obtain ⟨j, hjd⟩ : ∃ j : Int, (o.length : Int) - 1 = j := ⟨_, rfl⟩
           obtain ⟨y, hy⟩ : ∃ y : Int, rd o j = y := ⟨_, rfl⟩
           rw [hjd, hy] at H
           by_cases c4 : 0 ≤ y
           ·rw [if_pos c4] at H
            by_cases c5 : y < (l.length : Int)
            ·rw [if_pos c5] at H; replace H := Option.bind_eq_some_iff.mp H
             obtain ⟨d, AD0, H⟩ := H
             replace H := Option.bind_eq_some_iff.mp H
             obtain ⟨⟨t1, t2⟩, AF0, H⟩ := H
             have AD := Aside0.mk AD0; have AF := Aside0.mk AF0; have H' := Aside0.mk H
             have HK2 := Aside0.mk (show k1 < k + 1 by have := HKq.out; omega)
             clear AD0 AF0 H
             have hjw : IntKind.i64.wrap ((o.length : Int) - 1) = j := by rw [i64_w, hj, hjd]
             have j0 : 0 ≤ j := by omega
             have j1 : j < (o.length : Int) := by omega
             go_upto_region 7 with (go_at_call 45; go_must (refine (slices_Contains_int_int.calls k1 _ _ o i false _ (Kd.R_reads' HO.out).2.2 (Kd.R_reads' HO.out).2.1 AC.out).mono ?_; rintro e w' ⟨rfl, ⟨nd, rfl⟩⟩; have HE2 := Aside0.mk (HE.out.drewN nd); have HO2 := Aside0.mk (Kd.R_drewN HO.out nd); have HK3 := Aside0.mk (Kept.then_ HK.out (Kept.of_below (Drawn0.below ⟨⟨nd, rfl⟩⟩) (fun k => k = g)) (fun k hk => .inl hk))))
             clear HE HO HK
             generalize wr.drewN nd = wx at HE2 HO2 HK3 ⊢
             have HE := Aside0.mk (EnvE.drew HE2.out)
             have HO := Aside0.mk (Kd.R_drew HO2.out)
             have HK := Aside0.mk (Kept.then_ HK3.out (Kept.of_below (below_drew1 (Below.refl _ _)) (fun k => k = g)) (fun k hk => .inl hk))
             have HBr := Aside0.mk (Below.refl wx.drew.heap.size wx.drew)
             have HWs := Aside0.mk (show w.heap.size ≤ wx.drew.heap.size from HE.out.b.size)
             clear HE2 HO2 HK3
             obtain ⟨ado, eo, hx1⟩ := Kd.at_int (Kd.R_reads' HO.out).2.2 j j0 j1
             obtain ⟨adl, el, hx2, hx3⟩ := at_T31 (Kd.C_below HL.out HE.out.b) y c4 c5
             obtain ⟨adl', el', hx4, hx5⟩ := at_T31 (Kd.C_below HL.out HE.out.b) i c2 c1
             subst eo; subst el
             obtain rfl : adl = adl' := by injection el'
             rw [hy] at hx1
             have hx0 : wx.drew.cell? ⟨g, 0, none⟩ = some (.slice (some adl) l.length c0) := (blk_cell HE.out.bk 0).trans rfl
             have HX := Aside0.mk (And.intro hx0 (And.intro hx1 (And.intro hx2 (And.intro hx3 (And.intro hx4 hx5)))))
             clear el' hj hjd hy
             have j0' := eq_true j0
             have j1' := eq_true j1
             have c2' := eq_true c2
             have c1' := eq_true c1
             have c4' := eq_true c4
             have c5' := eq_true c5
             refine start_ (n := 29) (S := fun w' => w'.cell? ⟨g, 0, none⟩ = some (.slice (some adl) l.length c0) ∧ w'.cell? (ado.add j.toNat) = some (.int .i64 y) ∧ w'.cell? (adl.add (y.toNat * 2)) = some (.int .i64 (rd_T31 l y).f0) ∧ w'.cell? ⟨(adl.add (y.toNat * 2)).block, (adl.add (y.toNat * 2)).off + 1, none⟩ = some (.int .i64 (rd_T31 l y).f1) ∧ w'.cell? (adl.add (i.toNat * 2)) = some (.int .i64 (rd_T31 l i).f0) ∧ w'.cell? ⟨(adl.add (i.toNat * 2)).block, (adl.add (i.toNat * 2)).off + 1, none⟩ = some (.int .i64 (rd_T31 l i).f1)) (ds := [28]) #[false, false, false, false, false, false, false, false, false, false, false, false, false, false, false, false, false, false, false, false, false, false, false, false, false, false, false, false, false] (by kernel_rfl) rfl rfl ⟨hx0, hx1, hx2, hx3, hx4, hx5⟩ (fun hHeld => ?_)
             generalize wx.drew = wd at HE HO HX HBr HK HWs hHeld ⊢
             refine pure_ (i := 0) (N := some 49) (v := ?_) (a' := ?_) #[true, false, false, false, false, false, false, false, false, false, false, false, false, false, false, false, false, false, false, false, false, false, false, false, false, false, false, false, false] rfl rfl (by kernel_rfl) (fun _ _ _ h => h) (Or.inl ⟨by rfl, ?_⟩) ?_ ?_
             rotate_left; ·intro w'; go_simp; with_reducible rfl
             rotate_left; ·simp only [Act.put, sA_, sZ_, sS_, i64_w, i32_w]; rfl
             refine pure_ (i := 1) (N := some 50) (v := ?_) (a' := ?_) #[true, true, false, false, false, false, false, false, false, false, false, false, false, false, false, false, false, false, false, false, false, false, false, false, false, false, false, false, false] rfl rfl (by kernel_rfl) (fun _ _ _ h => h) (Or.inl ⟨by rfl, ?_⟩) ?_ ?_
             rotate_left; ·intro w'; go_simp; with_reducible rfl
             rotate_left; ·simp only [Act.put, sA_, sZ_, sS_, i64_w, i32_w]; rfl
             refine pure_ (i := 3) (N := some 52) (v := ?_) (a' := ?_) #[true, true, false, true, false, false, false, false, false, false, false, false, false, false, false, false, false, false, false, false, false, false, false, false, false, false, false, false, false] rfl rfl (by kernel_rfl) (fun _ _ _ h => h) (Or.inl ⟨by rfl, ?_⟩) ?_ ?_
             rotate_left; ·intro w'; go_simp; with_reducible rfl
             rotate_left; ·simp only [Act.put, sA_, sZ_, sS_, i64_w, i32_w]; rfl
             refine pure_ (i := 6) (N := some 55) (v := ?_) (a' := ?_) #[true, true, false, true, false, false, true, false, false, false, false, false, false, false, false, false, false, false, false, false, false, false, false, false, false, false, false, false, false] rfl rfl (by kernel_rfl) (fun _ _ _ h => h) (Or.inl ⟨by rfl, ?_⟩) ?_ ?_
             rotate_left; ·intro w'; go_simp; with_reducible rfl
             rotate_left; ·simp only [Act.put, sA_, sZ_, sS_, i64_w, i32_w]; rfl
             refine pure_ (i := 7) (N := some 56) (v := ?_) (a' := ?_) #[true, true, false, true, false, false, true, true, false, false, false, false, false, false, false, false, false, false, false, false, false, false, false, false, false, false, false, false, false] rfl rfl (by kernel_rfl) (fun _ _ _ h => h) (Or.inl ⟨by rfl, ?_⟩) ?_ ?_
             rotate_left; ·intro w'; go_simp; with_reducible rfl
             rotate_left; ·simp only [Act.put, sA_, sZ_, sS_, i64_w, i32_w]; rfl
             refine pure_ (i := 8) (N := some 57) (v := ?_) (a' := ?_) #[true, true, false, true, false, false, true, true, true, false, false, false, false, false, false, false, false, false, false, false, false, false, false, false, false, false, false, false, false] rfl rfl (by kernel_rfl) (fun _ _ _ h => h) (Or.inl ⟨by rfl, ?_⟩) ?_ ?_
             rotate_left; ·intro w'; go_simp; with_reducible rfl
             rotate_left; ·simp only [Act.put, sA_, sZ_, sS_, i64_w, i32_w]; rfl
             refine pure_ (i := 9) (N := some 58) (v := ?_) (a' := ?_) #[true, true, false, true, false, false, true, true, true, true, false, false, false, false, false, false, false, false, false, false, false, false, false, false, false, false, false, false, false] rfl rfl (by kernel_rfl) (fun _ _ _ h => h) (Or.inl ⟨by rfl, ?_⟩) ?_ ?_
             rotate_left; ·intro w'; go_simp; with_reducible rfl
             rotate_left; ·simp only [Act.put, sA_, sZ_, sS_, i64_w, i32_w]; rfl
             refine pure_ (i := 11) (N := some 60) (v := ?_) (a' := ?_) #[true, true, false, true, false, false, true, true, true, true, false, true, false, false, false, false, false, false, false, false, false, false, false, false, false, false, false, false, false] rfl rfl (by kernel_rfl) (fun _ _ _ h => h) (Or.inl ⟨by rfl, ?_⟩) ?_ ?_
             rotate_left; ·intro w'; go_simp; with_reducible rfl
             rotate_left; ·simp only [Act.put, sA_, sZ_, sS_, i64_w, i32_w]; rfl
             refine pure_ (i := 12) (N := some 61) (v := ?_) (a' := ?_) #[true, true, false, true, false, false, true, true, true, true, false, true, true, false, false, false, false, false, false, false, false, false, false, false, false, false, false, false, false] rfl rfl (by kernel_rfl) (fun _ _ _ h => h) (Or.inl ⟨by rfl, ?_⟩) ?_ ?_
             rotate_left; ·intro w'; go_simp; with_reducible rfl
             rotate_left; ·simp only [Act.put, sA_, sZ_, sS_, i64_w, i32_w]; rfl
             refine pure_ (i := 13) (N := some 62) (v := ?_) (a' := ?_) #[true, true, false, true, false, false, true, true, true, true, false, true, true, true, false, false, false, false, false, false, false, false, false, false, false, false, false, false, false] rfl rfl (by kernel_rfl) (fun _ _ _ h => h) (Or.inl ⟨by rfl, ?_⟩) ?_ ?_
             rotate_left; ·intro w'; go_simp; with_reducible rfl
             rotate_left; ·simp only [Act.put, sA_, sZ_, sS_, i64_w, i32_w]; rfl
             refine pure_ (i := 14) (N := some 63) (v := ?_) (a' := ?_) #[true, true, false, true, false, false, true, true, true, true, false, true, true, true, true, false, false, false, false, false, false, false, false, false, false, false, false, false, false] rfl rfl (by kernel_rfl) (fun _ _ _ h => h) (Or.inl ⟨by rfl, ?_⟩) ?_ ?_
             rotate_left; ·intro w'; go_simp; with_reducible rfl
             rotate_left; ·simp only [Act.put, sA_, sZ_, sS_, i64_w, i32_w]; rfl
             refine pure_ (i := 15) (N := some 64) (v := ?_) (a' := ?_) #[true, true, false, true, false, false, true, true, true, true, false, true, true, true, true, true, false, false, false, false, false, false, false, false, false, false, false, false, false] rfl rfl (by kernel_rfl) (fun _ _ _ h => h) (Or.inl ⟨by rfl, ?_⟩) ?_ ?_
             rotate_left; ·intro w'; go_simp; with_reducible rfl
             rotate_left; ·simp only [Act.put, sA_, sZ_, sS_, i64_w, i32_w]; rfl
             refine pure_ (i := 19) (N := some 68) (v := ?_) (a' := ?_) #[true, true, false, true, false, false, true, true, true, true, false, true, true, true, true, true, false, false, false, true, false, false, false, false, false, false, false, false, false] rfl rfl (by kernel_rfl) (fun _ _ _ h => h) (Or.inl ⟨by rfl, ?_⟩) ?_ ?_
             rotate_left; ·intro w'; go_simp; with_reducible rfl
             rotate_left; ·simp only [Act.put, sA_, sZ_, sS_, i64_w, i32_w]; rfl
             refine pure_ (i := 20) (N := some 69) (v := ?_) (a' := ?_) #[true, true, false, true, false, false, true, true, true, true, false, true, true, true, true, true, false, false, false, true, true, false, false, false, false, false, false, false, false] rfl rfl (by kernel_rfl) (fun _ _ _ h => h) (Or.inl ⟨by rfl, ?_⟩) ?_ ?_
             rotate_left; ·intro w'; go_simp; with_reducible rfl
             rotate_left; ·simp only [Act.put, sA_, sZ_, sS_, i64_w, i32_w]; rfl
             refine pure_ (i := 21) (N := some 70) (v := ?_) (a' := ?_) #[true, true, false, true, false, false, true, true, true, true, false, true, true, true, true, true, false, false, false, true, true, true, false, false, false, false, false, false, false] rfl rfl (by kernel_rfl) (fun _ _ _ h => h) (Or.inl ⟨by rfl, ?_⟩) ?_ ?_
             rotate_left; ·intro w'; go_simp; with_reducible rfl
             rotate_left; ·simp only [Act.put, sA_, sZ_, sS_, i64_w, i32_w]; rfl
             refine pure_ (i := 23) (N := some 72) (v := ?_) (a' := ?_) #[true, true, false, true, false, false, true, true, true, true, false, true, true, true, true, true, false, false, false, true, true, true, false, true, false, false, false, false, false] rfl rfl (by kernel_rfl) (fun _ _ _ h => h) (Or.inl ⟨by rfl, ?_⟩) ?_ ?_
             rotate_left; ·intro w'; go_simp; with_reducible rfl
             rotate_left; ·simp only [Act.put, sA_, sZ_, sS_, i64_w, i32_w]; rfl
             refine take_ (i := 10) (N := some 59) (v := ?_) (a' := ?_) #[true, true, false, true, false, false, true, true, true, true, true, true, true, true, true, true, false, false, false, true, true, true, false, true, false, false, false, false, false] rfl rfl (by kernel_rfl) (fun _ _ _ h => h) (Or.inl ⟨by rfl, ?_⟩) hHeld ?_ ?_
             rotate_left
             ·rintro w' ⟨s0, s1, s2, s3, s4, s5⟩; go_simp; with_reducible rfl
             rotate_left; ·simp only [Act.put, sA_, sZ_, sS_, i64_w, i32_w]; rfl
             refine take_ (i := 16) (N := some 65) (v := ?_) (a' := ?_) #[true, true, false, true, false, false, true, true, true, true, true, true, true, true, true, true, true, false, false, true, true, true, false, true, false, false, false, false, false] rfl rfl (by kernel_rfl) (fun _ _ _ h => h) (Or.inl ⟨by rfl, ?_⟩) hHeld ?_ ?_
             rotate_left
             ·rintro w' ⟨s0, s1, s2, s3, s4, s5⟩; go_simp; with_reducible rfl
             rotate_left; ·simp only [Act.put, sA_, sZ_, sS_, i64_w, i32_w]; rfl
             refine pure_ (i := 17) (N := some 66) (v := ?_) (a' := ?_) #[true, true, false, true, false, false, true, true, true, true, true, true, true, true, true, true, true, true, false, true, true, true, false, true, false, false, false, false, false] rfl rfl (by kernel_rfl) (fun _ _ _ h => h) (Or.inl ⟨by rfl, ?_⟩) ?_ ?_
             rotate_left; ·intro w'; go_simp; with_reducible rfl
             rotate_left; ·simp only [Act.put, sA_, sZ_, sS_, i64_w, i32_w]; rfl
             refine take_ (i := 18) (N := some 67) (v := ?_) (a' := ?_) #[true, true, false, true, false, false, true, true, true, true, true, true, true, true, true, true, true, true, true, true, true, true, false, true, false, false, false, false, false] rfl rfl (by kernel_rfl) (fun _ _ _ h => h) (Or.inl ⟨by rfl, ?_⟩) hHeld ?_ ?_
             rotate_left
             ·rintro w' ⟨s0, s1, s2, s3, s4, s5⟩; go_simp; with_reducible rfl
             rotate_left; ·simp only [Act.put, sA_, sZ_, sS_, i64_w, i32_w]; rfl
             refine take_ (i := 22) (N := some 71) (v := ?_) (a' := ?_) #[true, true, false, true, false, false, true, true, true, true, true, true, true, true, true, true, true, true, true, true, true, true, true, true, false, false, false, false, false] rfl rfl (by kernel_rfl) (fun _ _ _ h => h) (Or.inl ⟨by rfl, ?_⟩) hHeld ?_ ?_
             rotate_left
             ·rintro w' ⟨s0, s1, s2, s3, s4, s5⟩; go_simp; with_reducible rfl
             rotate_left; ·simp only [Act.put, sA_, sZ_, sS_, i64_w, i32_w]; rfl
             refine pure_ (i := 24) (N := some 73) (v := ?_) (a' := ?_) #[true, true, false, true, false, false, true, true, true, true, true, true, true, true, true, true, true, true, true, true, true, true, true, true, true, false, false, false, false] rfl rfl (by kernel_rfl) (fun _ _ _ h => h) (Or.inl ⟨by rfl, ?_⟩) ?_ ?_
             rotate_left; ·intro w'; go_simp; with_reducible rfl
             rotate_left; ·simp only [Act.put, sA_, sZ_, sS_, i64_w, i32_w]; rfl
             refine take_ (i := 25) (N := some 74) (v := ?_) (a' := ?_) #[true, true, false, true, false, false, true, true, true, true, true, true, true, true, true, true, true, true, true, true, true, true, true, true, true, true, false, false, false] rfl rfl (by kernel_rfl) (fun _ _ _ h => h) (Or.inl ⟨by rfl, ?_⟩) hHeld ?_ ?_
             rotate_left
             ·rintro w' ⟨s0, s1, s2, s3, s4, s5⟩; go_simp; with_reducible rfl
             rotate_left; ·simp only [Act.put, sA_, sZ_, sS_, i64_w, i32_w]; rfl
             refine join_ (σ := Value × Value) 4 #[true, true, true, true, true, false, true, true, true, true, true, true, true, true, true, true, true, true, true, true, true, true, true, true, true, true, false, false, false] (fun s => [(51, s.1), (53, s.2)]) (fun s w_ => Aside0 (Kd.R (Kd.int .i64) 3 w_ wd.heap.size (fun _ => True) s.1 o) ∧ Aside0 (Kd.R (Kd.int .i64) 3 w_ wd.heap.size (fun _ => True) s.2 [i]) ∧ Aside0 (Below wd.heap.size wd w_)) ?_ ?_
             rotate_left
             ·intro hCont
              refine two_ (i := 2) (j := 4) (Ni := some 51) (Nj := some 53) #[true, true, true, true, false, false, true, true, true, true, true, true, true, true, true, true, true, true, true, true, true, true, true, true, true, true, false, false, false] #[true, true, false, true, true, false, true, true, true, true, true, true, true, true, true, true, true, true, true, true, true, true, true, true, true, true, false, false, false] rfl rfl rfl rfl (by kernel_rfl) (by decide) (by decide) (fun K hK => ?_) (fun K hK => ?_)
              ·skip
               refine goes_ Try.func41 (by kernel_rfl) rfl #[.slice (some ado) o.length co] (by rfl) rfl rfl (by simp only [List.map_toArray, List.map_cons, List.map_nil]; rfl) ?_
               with_reducible refine (slices_Clone_int_int.calls_of _ _ o _ ?cl1 ?cl2).mono ?_
               (case cl1 => exact Kd.C_below (Kd.R_reads' HO.out).2.2 HBr.out)
               (case cl2 => omega)
               rintro e w3 ⟨v51, rfl, ho, hb⟩
               refine ⟨_, rfl, ?_⟩
               have HO51 := Aside0.mk (Kd.R_lower ho HBr.out.size)
               have nB_ := Aside0.mk (below_step HBr.out hb)
               clear HBr ho hb; have HBr := nB_; clear nB_
               refine hK.out _ _ ⟨(HBr.out.cell (World.block_lt_of_cell? wd _ HX.out.1)).trans HX.out.1, (HBr.out.cell (World.block_lt_of_cell? wd _ HX.out.2.1)).trans HX.out.2.1, (HBr.out.cell (World.block_lt_of_cell? wd _ HX.out.2.2.1)).trans HX.out.2.2.1, (HBr.out.cell (World.block_lt_of_cell? wd _ HX.out.2.2.2.1)).trans HX.out.2.2.2.1, (HBr.out.cell (World.block_lt_of_cell? wd _ HX.out.2.2.2.2.1)).trans HX.out.2.2.2.2.1, (HBr.out.cell (World.block_lt_of_cell? wd _ HX.out.2.2.2.2.2)).trans HX.out.2.2.2.2.2⟩ (fun hHeld => ?_)
               clear hK K
               refine norm_ (a' := ?_) ?_ ?_
               rotate_left
               ·show Act.put _ (some 51) _ = _
                simp only [Act.put, sA_, sZ_, sS_, i64_w, i32_w]; rfl
               refine one_ (i := 4) (N := some 53) #[true, true, true, true, true, false, true, true, true, true, true, true, true, true, true, true, true, true, true, true, true, true, true, true, true, true, false, false, false] rfl rfl (by kernel_rfl) (by decide) (fun K hK => ?_)
               refine Kd.R_lit_step (Kd.int .i64) (w0 := wd) wd.heap.size 3 (by rfl) (N := 53) rfl (xs := [i]) (inner := [.int .i64 i]) (ok := fun _ => True) (okp := fun _ => False) ?hr ?hp (fun _ h => h.elim) trivial HBr.out HBr.out.size (by simp) ?_
               (case hr => first | (go_simp; done) | (go_simp; rfl))
               (case hp => exact Reps.one (show Kd.M (Kd.int .i64) _ _ _ i [.int .i64 i] from rfl) (Reps.none _ _))
               intro v53 w4 ho hb hg hat; have HO53 := Aside0.mk ho
               have n51_ := Aside0.mk (Kd.R_grown HO51.out hg (fun k _ => by simp))
               clear HO51; have HO51 := n51_; clear n51_; clear HBr; have HBr := Aside0.mk hb; clear ho hb hg hat
               refine hK.out _ _ ⟨(HBr.out.cell (World.block_lt_of_cell? wd _ HX.out.1)).trans HX.out.1, (HBr.out.cell (World.block_lt_of_cell? wd _ HX.out.2.1)).trans HX.out.2.1, (HBr.out.cell (World.block_lt_of_cell? wd _ HX.out.2.2.1)).trans HX.out.2.2.1, (HBr.out.cell (World.block_lt_of_cell? wd _ HX.out.2.2.2.1)).trans HX.out.2.2.2.1, (HBr.out.cell (World.block_lt_of_cell? wd _ HX.out.2.2.2.2.1)).trans HX.out.2.2.2.2.1, (HBr.out.cell (World.block_lt_of_cell? wd _ HX.out.2.2.2.2.2)).trans HX.out.2.2.2.2.2⟩ (fun hHeld => ?_)
               clear hK K
               refine norm_ (a' := ?_) ?_ ?_
               rotate_left
               ·show Act.put _ (some 53) _ = _
                simp only [Act.put, sA_, sZ_, sS_, i64_w, i32_w]; rfl
               exact norm_ (by simp only [putAll, Act.put, sA_, sZ_, sS_]) (hCont (v51, v53) _ ⟨HO51, HO53, HBr⟩)
              ·skip
               refine Kd.R_lit_step (Kd.int .i64) (w0 := wd) wd.heap.size 3 (by rfl) (N := 53) rfl (xs := [i]) (inner := [.int .i64 i]) (ok := fun _ => True) (okp := fun _ => False) ?hr ?hp (fun _ h => h.elim) trivial HBr.out HBr.out.size (by simp) ?_
               (case hr => first | (go_simp; done) | (go_simp; rfl))
               (case hp => exact Reps.one (show Kd.M (Kd.int .i64) _ _ _ i [.int .i64 i] from rfl) (Reps.none _ _))
               intro v53 w3 ho hb hg hat; have HO53 := Aside0.mk ho; clear HBr; have HBr := Aside0.mk hb; clear ho hb hg hat
               refine hK.out _ _ ⟨(HBr.out.cell (World.block_lt_of_cell? wd _ HX.out.1)).trans HX.out.1, (HBr.out.cell (World.block_lt_of_cell? wd _ HX.out.2.1)).trans HX.out.2.1, (HBr.out.cell (World.block_lt_of_cell? wd _ HX.out.2.2.1)).trans HX.out.2.2.1, (HBr.out.cell (World.block_lt_of_cell? wd _ HX.out.2.2.2.1)).trans HX.out.2.2.2.1, (HBr.out.cell (World.block_lt_of_cell? wd _ HX.out.2.2.2.2.1)).trans HX.out.2.2.2.2.1, (HBr.out.cell (World.block_lt_of_cell? wd _ HX.out.2.2.2.2.2)).trans HX.out.2.2.2.2.2⟩ (fun hHeld => ?_)
               clear hK K
               refine norm_ (a' := ?_) ?_ ?_
               rotate_left
               ·show Act.put _ (some 53) _ = _
                simp only [Act.put, sA_, sZ_, sS_, i64_w, i32_w]; rfl
               refine one_ (i := 2) (N := some 51) #[true, true, true, true, true, false, true, true, true, true, true, true, true, true, true, true, true, true, true, true, true, true, true, true, true, true, false, false, false] rfl rfl (by kernel_rfl) (by decide) (fun K hK => ?_)
               refine goes_ Try.func41 (by kernel_rfl) rfl #[.slice (some ado) o.length co] (by rfl) rfl rfl (by simp only [List.map_toArray, List.map_cons, List.map_nil]; rfl) ?_
               with_reducible refine (slices_Clone_int_int.calls_of _ _ o _ ?cl1 ?cl2).mono ?_
               (case cl1 => exact Kd.C_below (Kd.R_reads' HO.out).2.2 HBr.out)
               (case cl2 => omega)
               rintro e w4 ⟨v51, rfl, ho, hb⟩
               refine ⟨_, rfl, ?_⟩
               have HO51 := Aside0.mk (Kd.R_lower ho HBr.out.size)
               have n53_ := Aside0.mk (Kd.R_below HO53.out hb)
               clear HO53; have HO53 := n53_; clear n53_
               have nB_ := Aside0.mk (below_step HBr.out hb)
               clear HBr ho hb; have HBr := nB_; clear nB_
               refine hK.out _ _ ⟨(HBr.out.cell (World.block_lt_of_cell? wd _ HX.out.1)).trans HX.out.1, (HBr.out.cell (World.block_lt_of_cell? wd _ HX.out.2.1)).trans HX.out.2.1, (HBr.out.cell (World.block_lt_of_cell? wd _ HX.out.2.2.1)).trans HX.out.2.2.1, (HBr.out.cell (World.block_lt_of_cell? wd _ HX.out.2.2.2.1)).trans HX.out.2.2.2.1, (HBr.out.cell (World.block_lt_of_cell? wd _ HX.out.2.2.2.2.1)).trans HX.out.2.2.2.2.1, (HBr.out.cell (World.block_lt_of_cell? wd _ HX.out.2.2.2.2.2)).trans HX.out.2.2.2.2.2⟩ (fun hHeld => ?_)
               clear hK K
               refine norm_ (a' := ?_) ?_ ?_
               rotate_left
               ·show Act.put _ (some 51) _ = _
                simp only [Act.put, sA_, sZ_, sS_, i64_w, i32_w]; rfl
               exact norm_ (by simp only [putAll, Act.put, sA_, sZ_, sS_]) (hCont (v51, v53) _ ⟨HO51, HO53, HBr⟩)
             rintro ⟨v51, v53⟩ w5 ⟨HO51, HO53, HBr⟩
             have hHeld : (fun w' => w'.cell? ⟨g, 0, none⟩ = some (.slice (some adl) l.length c0) ∧ w'.cell? (ado.add j.toNat) = some (.int .i64 y) ∧ w'.cell? (adl.add (y.toNat * 2)) = some (.int .i64 (rd_T31 l y).f0) ∧ w'.cell? ⟨(adl.add (y.toNat * 2)).block, (adl.add (y.toNat * 2)).off + 1, none⟩ = some (.int .i64 (rd_T31 l y).f1) ∧ w'.cell? (adl.add (i.toNat * 2)) = some (.int .i64 (rd_T31 l i).f0) ∧ w'.cell? ⟨(adl.add (i.toNat * 2)).block, (adl.add (i.toNat * 2)).off + 1, none⟩ = some (.int .i64 (rd_T31 l i).f1)) w5 := ⟨(HBr.out.cell (World.block_lt_of_cell? wd _ HX.out.1)).trans HX.out.1, (HBr.out.cell (World.block_lt_of_cell? wd _ HX.out.2.1)).trans HX.out.2.1, (HBr.out.cell (World.block_lt_of_cell? wd _ HX.out.2.2.1)).trans HX.out.2.2.1, (HBr.out.cell (World.block_lt_of_cell? wd _ HX.out.2.2.2.1)).trans HX.out.2.2.2.1, (HBr.out.cell (World.block_lt_of_cell? wd _ HX.out.2.2.2.2.1)).trans HX.out.2.2.2.2.1, (HBr.out.cell (World.block_lt_of_cell? wd _ HX.out.2.2.2.2.2)).trans HX.out.2.2.2.2.2⟩
             obtain ⟨A53, c53, e53⟩ := Kd.R_slice HO53.out
             dsimp only at e53 HO51 HO53
             subst e53
             refine norm_ (a' := ?_) ?_ ?_
             rotate_left; ·simp only [putAll, Act.put, sA_, sZ_, sS_]; rfl
             refine one_ (i := 5) (N := some 54) #[true, true, true, true, true, true, true, true, true, true, true, true, true, true, true, true, true, true, true, true, true, true, true, true, true, true, false, false, false] rfl rfl (by kernel_rfl) (by decide) (fun K hK => ?_)
             refine Kd.R_append_rows_step (Kd.int .i64) (Rr := (Kd.int .i64).K w5) (w0 := wd) wd.heap.size (by rfl) (.tmp 51) (.tmp 53) 23 3 (.int .i64 0) 8 rfl Try.underlying23 info3 rfl (by decide) (by omega) _ o [i] _ 1 _ (fun _ => True) (fun _ => False) rfl rfl HO51.out (Kd.R_reads' HO53.out).2.2 (fun _ _ h => h) (fun _ h => h.elim) (fun _ _ => trivial) HBr.out HBr.out.size (by omega) ?_
             intro v54 w6 ho hb hg hat; have HO54 := Aside0.mk ho; clear HBr; have HBr := Aside0.mk hb; clear ho hb hg hat
             refine hK.out _ _ ⟨(HBr.out.cell (World.block_lt_of_cell? wd _ HX.out.1)).trans HX.out.1, (HBr.out.cell (World.block_lt_of_cell? wd _ HX.out.2.1)).trans HX.out.2.1, (HBr.out.cell (World.block_lt_of_cell? wd _ HX.out.2.2.1)).trans HX.out.2.2.1, (HBr.out.cell (World.block_lt_of_cell? wd _ HX.out.2.2.2.1)).trans HX.out.2.2.2.1, (HBr.out.cell (World.block_lt_of_cell? wd _ HX.out.2.2.2.2.1)).trans HX.out.2.2.2.2.1, (HBr.out.cell (World.block_lt_of_cell? wd _ HX.out.2.2.2.2.2)).trans HX.out.2.2.2.2.2⟩ (fun hHeld => ?_)
             clear hK K
             refine norm_ (a' := ?_) ?_ ?_
             rotate_left
             ·show Act.put _ (some 54) _ = _
              simp only [Act.put, sA_, sZ_, sS_, i64_w, i32_w]; rfl
             refine one_ (i := 26) (N := some 75) #[true, true, true, true, true, true, true, true, true, true, true, true, true, true, true, true, true, true, true, true, true, true, true, true, true, true, true, false, false] rfl rfl (by kernel_rfl) (by decide) (fun K hK => ?_)
             refine goes_ Try.func15 (by kernel_rfl) rfl #[.agg #[.int .i64 (rd_T31 l y).f0, .int .i64 (rd_T31 l y).f1], .agg #[.int .i64 (rd_T31 l i).f0, .int .i64 (rd_T31 l i).f1]] (by rfl) rfl rfl (by simp only [List.map_toArray, List.map_cons, List.map_nil]; rfl) ?_
             with_reducible refine (tour_Distance.calls _ _ _ _ d _ AD.out).mono ?_
             rintro e w7 ⟨rfl, hb⟩
             refine ⟨_, rfl, ?_⟩
             have n54_ := Aside0.mk (Kd.R_below HO54.out hb)
             clear HO54; have HO54 := n54_; clear n54_
             have nB_ := Aside0.mk (below_step HBr.out hb)
             clear HBr hb; have HBr := nB_; clear nB_
             obtain ⟨A54, c54, e54⟩ := Kd.R_slice HO54.out
             subst e54
             refine hK.out _ _ ⟨(HBr.out.cell (World.block_lt_of_cell? wd _ HX.out.1)).trans HX.out.1, (HBr.out.cell (World.block_lt_of_cell? wd _ HX.out.2.1)).trans HX.out.2.1, (HBr.out.cell (World.block_lt_of_cell? wd _ HX.out.2.2.1)).trans HX.out.2.2.1, (HBr.out.cell (World.block_lt_of_cell? wd _ HX.out.2.2.2.1)).trans HX.out.2.2.2.1, (HBr.out.cell (World.block_lt_of_cell? wd _ HX.out.2.2.2.2.1)).trans HX.out.2.2.2.2.1, (HBr.out.cell (World.block_lt_of_cell? wd _ HX.out.2.2.2.2.2)).trans HX.out.2.2.2.2.2⟩ (fun hHeld => ?_)
             clear hK K
             refine norm_ (a' := ?_) ?_ ?_
             rotate_left
             ·show Act.put _ (some 75) _ = _
              simp only [Act.put, sA_, sZ_, sS_, i64_w, i32_w]; rfl
             refine pure_ (i := 27) (N := some 76) (v := ?_) (a' := ?_) #[true, true, true, true, true, true, true, true, true, true, true, true, true, true, true, true, true, true, true, true, true, true, true, true, true, true, true, true, false] rfl rfl (by kernel_rfl) (fun _ _ _ h => h) (Or.inl ⟨by rfl, ?_⟩) ?_ ?_
             rotate_left; ·intro w'; go_simp; with_reducible rfl
             rotate_left; ·simp only [Act.put, sA_, sZ_, sS_, i64_w, i32_w]; rfl
             refine last_ (i := 28) (N := some 77) #[true, true, true, true, true, true, true, true, true, true, true, true, true, true, true, true, true, true, true, true, true, true, true, true, true, true, true, true, true] rfl rfl (by kernel_rfl) (by decide) (fun K hK => ?_)
             have E7 := Aside0.mk (EnvE.step HE.out HBr.out)
             have O7 := Aside0.mk (Kd.R_lower HO54.out HWs.out)
             refine goes_ Try.func38 (by kernel_rfl) rfl #[.pointer (some ⟨g, 0, none⟩), .slice A54 (o ++ [i]).length c54, .int .i64 (wrap64 (s + d))] (by rfl) rfl rfl (by simp only [List.map_toArray, List.map_cons, List.map_nil]; rfl) ?_
             with_reducible refine (ih k1 HK2.out (o ++ [i]) (wrap64 (s + d)) b1 m1 t1 t2 vb1 A54 c54 _ E7.out O7.out AF.out).mono ?_
             rintro e w8 ⟨rfl, vb2, hE, hK⟩
             refine ⟨_, rfl, ?_⟩
             have HE8 := Aside0.mk hE; have HK8 := Aside0.mk hK; clear hE hK
             refine hK.out _ _ ?_
             clear hK K
             refine norm_ (a' := ?_) ?_ ?_
             rotate_left
             ·show Act.put _ (some 77) _ = _
              simp only [Act.put, sA_, sZ_, sS_, i64_w, i32_w]; rfl
             refine done_ (by kernel_rfl) ?_
             have HO8 := Aside0.mk (R_keptG (Kd.R_below HO.out HBr.out) E7.out.bk HK8.out)
             have HK9 := Aside0.mk (Kept.then_ (Kept.then_ HK.out (Kept.of_below HBr.out (fun k => k = g)) (fun k hk => .inl hk)) HK8.out (fun k hk => .inl hk))
             go_wp2_with fail
             go_roundg k1
             case measure => have := HKq.out; omega
             case rel => exact ⟨wrap64 (i + 1), t1, t2, vb2, (by rw [Hwi.out]), H', ⟨by have := HKq.out; omega⟩, HE8, HO8, HK9⟩
            ·rw [if_neg c5] at H; cases H
           ·rw [if_neg c4] at H; cases H
         ·rw [if_neg c2] at H; cases H
        ·rw [if_neg c1] at H
         obtain ⟨rfl, rfl⟩ : b1 = r1 ∧ m1 = r2 := by simpa using H
         have c1b : decide (i < (l.length : Int)) = false := decide_eq_false c1
         clear H ih
         go_wp2_with fail
         go_end0
         first | exact ⟨rfl, vb1, HE.out, HK.out⟩ | exact ⟨rfl, ⟨vb1, HE.out⟩, HK.out⟩
  ·rw [if_neg ho2] at h; cases h
 ·rw [if_neg ho1] at h; cases h
end Go.Proofs.Ytohjocajaanhaaa.P

/- The contract of swarf/tour.Exact (function 22), by hand: out of that of extend. -/

namespace Go.Proofs.Ytohjocajaanhaaa.P
open Go.RowKit Go.Proofs.YtohjocajaanhaaaW.PrintWords Go.Proofs.YtohjocajaanhaaaW.PrintLast Go.Proofs.YtohjocajaanhaaaW.PrintMore
set_option linter.unusedVariables false
set_option linter.unusedSimpArgs false
def tour_Exact.f (k : Nat) (l0 : List S31) : Option (List Int × Int × Int) :=
 if l0.length < 1000 then ((tour_check.f k l0 10).bind fun e => (if e = 0 then (if (l0.length : Int) = 0 then some (([] : List Int), 0, 0) else ((tour_ext.f k l0 [0] 0 [] 0).bind fun t => some (t.1, t.2, 0))) else some (([] : List Int), 0, e))) else none
theorem tour_Exact.mono : ∀ a0 k, LeO (tour_Exact.f k a0) (tour_Exact.f (k + 1) a0) := by
 intro a0 k
 unfold tour_Exact.f
 refine LeO.ite (LeO.bind (tour_check.mono _ _ _) (fun _ => LeO.ite (LeO.ite (LeO.refl _) (LeO.bind (tour_ext.mono _ _ _ _ _ _) (fun _ => LeO.refl _))) (LeO.refl _))) (LeO.none _)
set_option maxHeartbeats 4000000 in
set_option maxRecDepth 100000 in
theorem tour_Exact.calls (k : Nat) (A0 : Option Addr) (c0 : Nat) (l0 : List S31) (r1 : List Int) (r2 : Int) (r3 : Int) (w : World) (hr0 : Kd.C k31 w A0 l0.length l0) (hc0 : l0.length ≤ c0) (h : tour_Exact.f k l0 = some (r1, r2, r3)) :
  Calls Try.prog 22 #[.slice A0 l0.length c0] w fun e w' => ∃ v0_ : Value, e = .returned (.tuple #[v0_, .int .i64 r2, .int .i64 r3]) ∧ Kd.R (Kd.int .i64) 3 w' w.heap.size (fun _ => True) v0_ r1 ∧ Below w.heap.size w w' := by
 have HR0 := Aside0.mk hr0
 have HC0 := Aside0.mk hc0
 have hu55 := Try.underlying55
 clear hr0 hc0
 unfold tour_Exact.f at h
 by_cases hlx : l0.length < 1000
 ·rw [if_pos hlx] at h
  replace h := Option.bind_eq_some_iff.mp h
  obtain ⟨e0, AC0, h⟩ := h
  have AC := Aside0.mk AC0; clear AC0
  by_cases c0' : e0 = 0
  ·rw [if_pos c0'] at h
   have c0b : (e0 != 0) = false := bne_eq_false_iff_eq.mpr c0'
   by_cases c1 : (l0.length : Int) = 0
   ·rw [if_pos c1] at h
    simp only [Option.some.injEq, Prod.mk.injEq] at h
    obtain ⟨rfl, rfl, rfl⟩ := h
    have c1b : ((l0.length : Int) == 0) = true := beq_iff_eq.mpr c1
    clear c1 c0'
    go_enter Try.func22, Try.ntmps22
    go_wp2_with (go_at_call 28; go_must (refine (tour_check.calls k _ _ l0 10 e0 _ HR0.out HC0.out AC.out).mono ?_; rintro e w' ⟨rfl, hb⟩; have HB := Aside0.mk hb; clear hb))
    go_ret3
    exact ⟨_, rfl, Kd.R_nil _ _ _ _ _, HB.out⟩
   ·rw [if_neg c1] at h
    have c1b : ((l0.length : Int) == 0) = false := beq_eq_false_iff_ne.mpr c1
    replace h := Option.bind_eq_some_iff.mp h
    obtain ⟨⟨t1, t2⟩, AF0, h⟩ := h
    have AF := Aside0.mk AF0
    simp only [Option.some.injEq, Prod.mk.injEq] at h
    obtain ⟨rfl, rfl, rfl⟩ := h
    clear AF0 c1 c0'
    go_enter Try.func22, Try.ntmps22
    go_wp2_with (first | (go_at_call 28; go_must (refine (tour_check.calls k _ _ l0 10 e0 _ HR0.out HC0.out AC.out).mono ?_; rintro e w' ⟨rfl, hb⟩; have HB := Aside0.mk hb; clear hb)) | ((with_reducible refine gate_dst (N := 17) rfl ?_); go_must (refine box_event ?hg (N := 17) ?hd (cs := #[.slice A0 l0.length c0, .slice none 0 0, .int .i64 0]) (t := 55) ?hr ?_; (case hd => rfl); (case hg => rfl); (case hr => first | (go_simp; done) | (go_simp; rfl)); intro g hg w2 hbox hb; have HE := Aside0.mk (show EnvE w w2 g A0 l0.length c0 [] 0 (.slice none 0 0) from ⟨hbox, Kd.R_nil _ _ _ _ _, fun _ => rfl, below_step HB.out hb, by rw [hg]; exact HB.out.size⟩); clear HB hg hbox hb)) | ((with_reducible refine gate_dst (N := 19) rfl ?_); go_must (refine Kd.R_lit (Kd.int .i64) (w0 := w2) w2.heap.size 3 ?hg (N := 19) ?hd (xs := [0]) (inner := [.int .i64 0]) (ok := fun _ => True) (okp := fun _ => True) ?hr ?hp (fun _ hk => hk) trivial (Below.refl _ _) (Nat.le_refl _) (by simp) ?_; (case hd => rfl); (case hg => rfl); (case hr => first | (go_simp; done) | (go_simp; rfl)); (case hp => exact (Reps.one (show Kd.M (Kd.int .i64) _ _ _ 0 [.int .i64 0] from rfl) (Reps.none _ _))); intro v19 w3 ho hb hg_ hnew_; clear hg_ hnew_; have HO := Aside0.mk (Kd.R_lower ho HE.out.b.size); have HE3 := Aside0.mk (HE.out.step hb); clear HE ho hb; obtain ⟨A19, c19, e19⟩ := Kd.R_slice HO.out; subst e19)) | (go_at_call 38; go_must (refine (tour_ext.calls w g A0 c0 l0 HR0.out hlx k [0] 0 [] 0 t1 t2 _ A19 c19 _ HE3.out HO.out AF.out).mono ?_; rintro e w4 ⟨rfl, vb, hE, hK⟩; have HE4 := Aside0.mk hE; clear hE hK HE3 HO; have hz0 : w4.cell? ⟨g, 0, none⟩ = some (.slice A0 l0.length c0) := (blk_cell HE4.out.bk 0).trans rfl; have hz1 : w4.cell? ⟨g, 1, none⟩ = some vb := (blk_cell HE4.out.bk 1).trans rfl; have hz2 : w4.cell? ⟨g, 2, none⟩ = some (.int .i64 t2) := (blk_cell HE4.out.bk 2).trans rfl)))
    obtain ⟨Ab, cb, eb⟩ := Kd.R_slice HE4.out.r
    subst eb
    go_region
    all_goals go_wp2_with fail
    all_goals go_ret3
    all_goals exact ⟨_, rfl, Kd.R_drew HE4.out.r, below_drew1 HE4.out.b⟩
  ·rw [if_neg c0'] at h
   have c0b : (e0 != 0) = true := bne_iff_ne.mpr c0'
   simp only [Option.some.injEq, Prod.mk.injEq] at h
   obtain ⟨rfl, rfl, rfl⟩ := h
   clear c0'
   go_enter Try.func22, Try.ntmps22
   go_wp2_with (go_at_call 28; go_must (refine (tour_check.calls k _ _ l0 10 e0 _ HR0.out HC0.out AC.out).mono ?_; rintro e w' ⟨rfl, hb⟩; have HB := Aside0.mk hb; clear hb))
   go_ret3
   exact ⟨_, rfl, Kd.R_nil _ _ _ _ _, HB.out⟩
 ·rw [if_neg hlx] at h; cases h
end Go.Proofs.Ytohjocajaanhaaa.P
