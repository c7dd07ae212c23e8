import Derived.Test.YtohjocajaanhaaaT7M21
import Derived.Test.YtohjocajaanhaaaT7M28
import Derived.Test.YtohjocajaanhaaaT7M25
import Derived.Test.YtohjocajaanhaaaT7M29
import Derived.Test.YtohjocajaanhaaaT7M24
import Derived.Test.YtohjocajaanhaaaT7M22
import Derived.Test.YtohjocajaanhaaaT7Px29
import Derived.Test.YtohjocajaanhaaaT7M27
-- PRINTED by print.py (a twelfth state) out of the translation. Not trusted: Lean checks it.

namespace Go.Proofs.Ytohjocajaanhaaa.P
open Go.RowKit Go.Proofs.YtohjocajaanhaaaW.PrintWords Go.Proofs.YtohjocajaanhaaaW.PrintLast Go.Proofs.YtohjocajaanhaaaW.PrintMore
attribute [local go_sem] max2_int min2_int max_two min_two max_three min_three max_four min_four   -- for this text's walks alone
set_option linter.unusedVariables false
set_option linter.unusedSimpArgs false

/-! ### swarfref38_search: function 39 -/
mutual
def swarfref38_search.l0 : Nat → List (S31) → List Int → List Int → Int → Option (List Int)
 | 0, _, _, _, _ => none
 | k + 1, x0, x1, x2, x7 => if x7 < (x0.length : Int) then ((swarfref38_has.f k x1 x7).bind fun t387 => (if t387 = true then (swarfref38_search.l0 k x0 x1 x2 (wrap64 (x7 + 1))) else ((some (([] : List Int) : List Int)).bind fun y388 => (if y388.length + x1.length < 17592186044416 then ((some (y388 ++ x1 : List Int)).bind fun y391 => (if y391.length < 17592186044416 then ((swarfref38_search.f k x0 (y391 ++ [x7]) x2).bind fun t397 => (swarfref38_search.l0 k x0 x1 t397 (wrap64 (x7 + 1)))) else (none))) else (none))))) else (some x2)
def swarfref38_search.f : Nat → List (S31) → List Int → List Int → Option (List Int)
 | 0, _, _, _ => none
 | k + 1, l0, l1, l2 => if (l1.length : Int) = (l0.length : Int) then (if (l2.length : Int) = 0 then ((some (([] : List Int) : List Int)).bind fun y373 => (if y373.length + l1.length < 17592186044416 then (some (y373 ++ l1)) else (none))) else ((swarfref38_way.f k l0 l1).bind fun t379 => ((swarfref38_way.f k l0 l2).bind fun t380 => (if t379 < t380 then ((some (([] : List Int) : List Int)).bind fun y381 => (if y381.length + l1.length < 17592186044416 then (some (y381 ++ l1)) else (none))) else (some l2))))) else (swarfref38_search.l0 k l0 l1 l2 0)
end
theorem swarfref38_search.mono_l : ∀ k, (∀ y0 y1 y2, LeO (swarfref38_search.f k y0 y1 y2) (swarfref38_search.f (k + 1) y0 y1 y2)) ∧ (∀ y0 y1 y2 y3, LeO (swarfref38_search.l0 k y0 y1 y2 y3) (swarfref38_search.l0 (k + 1) y0 y1 y2 y3))
 | 0 => ⟨fun _ _ _ r h => by simp [swarfref38_search.f] at h, fun _ _ _ _ r h => by simp [swarfref38_search.l0] at h⟩
 | k + 1 => by
  obtain ⟨ih0, ih1⟩ := swarfref38_search.mono_l k
  refine ⟨?_, ?_⟩
  ·intro y0 y1 y2
   unfold swarfref38_search.f
   repeat' first
   | (with_reducible exact ih0 _ _ _)
   | (with_reducible exact ih1 _ _ _ _)
   | (with_reducible exact swarfref38_has.mono _ _ _)
   | (with_reducible exact swarfref38_way.mono _ _ _)
   | (with_reducible exact LeO.refl _)
   | (with_reducible exact LeO.none _)
   | (with_reducible refine LeO.ite ?_ ?_)
   | (with_reducible refine LeO.bind ?_ (fun _ => ?_))
   | exact ih0 _ _ _
   | exact ih1 _ _ _ _
   | exact swarfref38_has.mono _ _ _
   | exact swarfref38_way.mono _ _ _
   | exact LeO.none _
   | refine LeO.ite ?_ ?_
   | refine LeO.bind ?_ (fun _ => ?_)
  ·intro y0 y1 y2 y3
   unfold swarfref38_search.l0
   repeat' first
   | (with_reducible exact ih0 _ _ _)
   | (with_reducible exact ih1 _ _ _ _)
   | (with_reducible exact swarfref38_has.mono _ _ _)
   | (with_reducible exact swarfref38_way.mono _ _ _)
   | (with_reducible exact LeO.refl _)
   | (with_reducible exact LeO.none _)
   | (with_reducible refine LeO.ite ?_ ?_)
   | (with_reducible refine LeO.bind ?_ (fun _ => ?_))
   | exact ih0 _ _ _
   | exact ih1 _ _ _ _
   | exact swarfref38_has.mono _ _ _
   | exact swarfref38_way.mono _ _ _
   | exact LeO.none _
   | refine LeO.ite ?_ ?_
   | refine LeO.bind ?_ (fun _ => ?_)
theorem swarfref38_search.mono : ∀ a0 a1 a2 k, LeO (swarfref38_search.f k a0 a1 a2) (swarfref38_search.f (k + 1) a0 a1 a2) := by
 intro a0 a1 a2 k
 obtain ⟨ih0, ih1⟩ := swarfref38_search.mono_l k
 exact ih0 a0 a1 a2
set_option maxHeartbeats 8000000 in
set_option maxRecDepth 100000 in
theorem swarfref38_search.calls (k : Nat) : ∀ (A0 : Option Addr) (c0 : Nat) (l0 : List (S31)) (A1 : Option Addr) (c1 : Nat) (l1 : List Int) (P2_ : Nat → Prop) (A2 : Option Addr) (c2 : Nat) (l2 : List Int) (r : List Int) (w : World) (hr0 : Kd.C k31 w A0 l0.length l0) (hc0 : l0.length ≤ c0) (hr1 : Kd.C (Kd.int .i64) w A1 l1.length l1) (hc1 : l1.length ≤ c1) (hs2 : Kd.V (Kd.int .i64) 3 w w.heap.size (fun k_ => P2_ k_) (.slice A2 l2.length c2) l2) (h : swarfref38_search.f k l0 l1 l2 = some r),
  Calls Try.prog 39 #[.slice A0 l0.length c0, .slice A1 l1.length c1, .slice A2 l2.length c2] w fun e w' => ∃ v0_ : Value, e = .returned (v0_) ∧ Kd.V (Kd.int .i64) 3 w' w.heap.size (fun k_ => (P2_ k_ ∨ w.heap.size ≤ k_)) v0_ r ∧ Below w.heap.size w w' := by
 induction k using Nat.strongRecOn with
 | _ k ih =>
 intro A0 c0 l0 A1 c1 l1 P2_ A2 c2 l2 r w hr0 hc0 hr1 hc1 hs2 h
 cases k with
 | zero => exact absurd h (by simp [swarfref38_search.f])
 | succ k =>
 simp only [swarfref38_search.f] at h
 have HR0 := Aside0.mk hr0
 have HC0 := Aside0.mk hc0
 clear hr0 hc0
 have HR1 := Aside0.mk hr1
 have HC1 := Aside0.mk hc1
 clear hr1 hc1
 have HO2 := Aside0.mk (show Kd.V (Kd.int .i64) 3 w w.heap.size (fun k_ => (P2_ k_ ∨ w.heap.size ≤ k_)) (.slice A2 l2.length c2) l2 from Kd.V_mono hs2 (fun k_ hk => .inl hk))
 have HB := Aside0.mk (Below.refl w.heap.size w)
 have H : (if (l1.length : Int) = (l0.length : Int) then (if (l2.length : Int) = 0 then ((some (([] : List Int) : List Int)).bind fun y373 => (if y373.length + l1.length < 17592186044416 then (some (y373 ++ l1)) else (none))) else ((swarfref38_way.f k l0 l1).bind fun t379 => ((swarfref38_way.f k l0 l2).bind fun t380 => (if t379 < t380 then ((some (([] : List Int) : List Int)).bind fun y381 => (if y381.length + l1.length < 17592186044416 then (some (y381 ++ l1)) else (none))) else (some l2))))) else (swarfref38_search.l0 k l0 l1 l2 0)) = some r := h
 clear h
 by_cases c4 : (l1.length : Int) = (l0.length : Int)
 ·rw [if_pos c4] at H
  have c4b0 : ((l1.length : Int) == (l0.length : Int)) = true := beq_iff_eq.mpr c4
  have c4b1 : ((l1.length : Int) != (l0.length : Int)) = false := bne_eq_false_iff_eq.mpr c4
  have c4b2 : (l1.length == l0.length) = true := by first | simpa using c4 | (simp at c4 ⊢; omega)
  clear c4
  by_cases c5 : (l2.length : Int) = 0
  ·rw [if_pos c5] at H
   have c5b0 : ((l2.length : Int) == 0) = true := beq_iff_eq.mpr c5
   have c5b1 : ((l2.length : Int) != 0) = false := bne_eq_false_iff_eq.mpr c5
   clear c5
   obtain ⟨y373, hy373⟩ : ∃ y_ : List Int, y_ = (([] : List Int)) := ⟨_, rfl⟩
   replace H : (if y373.length + l1.length < 17592186044416 then (some (y373 ++ l1)) else (none)) = some r := by first | (rw [hy373]; with_reducible exact H) | (have H2_ := (Option.bind_some _ _).symm.trans H; rw [hy373]; with_reducible exact H2_) | (have H2_ := (Option.bind_some _ _).symm.trans H; with_reducible exact H2_) | with_reducible exact H | (rw [hy373]; exact H) | exact H
   have Ny373 := Aside0.mk hy373; clear hy373
   by_cases c6 : y373.length + l1.length < 17592186044416
   ·rw [if_pos c6] at H; have LMc6 := Aside0.mk c6; clear c6
    obtain ⟨y376, hy376⟩ : ∃ y_ : List Int, y_ = (y373 ++ l1) := ⟨_, rfl⟩
    replace H : (some y376) = some r := by first | (rw [hy376]; with_reducible exact H) | (have H2_ := (Option.bind_some _ _).symm.trans H; rw [hy376]; with_reducible exact H2_) | (have H2_ := (Option.bind_some _ _).symm.trans H; with_reducible exact H2_) | with_reducible exact H | (rw [hy376]; exact H) | exact H
    have Ny376 := Aside0.mk hy376; clear hy376; obtain rfl := Option.some.inj H
    go_enter Try.func39, Try.ntmps39
    go_wp2_with (first | ((with_reducible refine gate_dst (N := 25) rfl ?_); refine Kd.R_lit (Kd.int .i64) _ 3 ?hg (N := 25) ?hd (xs := ([] : List Int)) (inner := []) (ok := fun _ => True) (okp := fun _ => True) ?hr ?hp (fun _ hk => hk) trivial (Below.refl _ _) (Nat.le_refl _) (by simp) ?_; (case hd => rfl); (case hg => rfl); (case hr => first | (go_simp; done) | (go_simp; rfl)); (case hp => exact (Reps.none _ _)); intro v374 w7 ho8 hb hg_ hnew_; clear hg_ hnew_; (first | rw [← Ny373.out] at ho8 | (simp only [Int.reduceToNat] at ho8; rw [← Ny373.out] at ho8)); have n0_ := Aside0.mk (Kd.V_elder' (by (with_reducible repeat (first | apply Kd.V_alloc | apply Kd.V_drewN | apply Kd.V_drew)); exact HO2.out) (Kd.R_base ho8) hb); have n1_ := Aside0.mk (Kd.R_lower (Kd.R_newM (M := fun k_ => (w.heap.size ≤ k_)) ho8 (below_size (by repeat (first | (with_reducible first | exact HB.out | apply below_alloc | apply pw_below_drewN | apply below_drew1) | exact HB.out))) (fun k_ h_ => h_)) (below_size (by repeat (first | (with_reducible first | exact HB.out | apply below_alloc | apply pw_below_drewN | apply below_drew1) | exact HB.out)))); have n2_ := Aside0.mk (below_step (by repeat (first | (with_reducible first | exact HB.out | apply below_alloc | apply pw_below_drewN | apply below_drew1) | exact HB.out)) hb); clear HO2; clear HB; have HO2 := n0_; have HO375 := n1_; have HB := n2_; clear n0_ n1_ n2_; clear hb ho8) | ((with_reducible refine gate_builtin (b := .append) (xs := #[.tmp 25, .tmp 26]) rfl ?_); at_builtin; refine Kd.R_append_rows (Kd.int .i64) (w0 := w) w.heap.size rfl (.tmp 25) (.tmp 26) 23 3 (.int .i64 0) 8 rfl Try.underlying23 info3 rfl (by decide) (by omega) v374 y373 l1 _ _ _ (fun k_ => (w.heap.size ≤ k_)) (fun _ => False) rfl rfl ?aO ?aR (fun _ _ h => h) (fun _ h => h.elim) ?aF ?aB ?aS ?aL ?_; (case aR => repeat (first | exact (Kd.C_below HR1.out HB.out) | (with_reducible refine Kd.C_alloc ?_ _) | (with_reducible refine Kd.C_drewN ?_ _) | (with_reducible refine Kd.C_drew ?_))); (case aB => exact (by repeat (first | (with_reducible first | exact HB.out | apply below_alloc | apply pw_below_drewN | apply below_drew1) | exact HB.out))); (case aF => exact (fun k_ hk => (Nat.le_trans (below_size (by repeat (first | (with_reducible first | exact HB.out | apply below_alloc | apply pw_below_drewN | apply below_drew1) | exact HB.out))) hk))); (case aO => exact (by (with_reducible repeat (first | apply Kd.R_alloc | apply Kd.R_drewN | apply Kd.R_drew)); exact Kd.R_mono HO375.out (fun _ hk => hk.1))); (case aS => exact (below_size (by repeat (first | (with_reducible first | exact HB.out | apply below_alloc | apply pw_below_drewN | apply below_drew1) | exact HB.out)))); (case aL => have := LMc6.out; omega); intro v377 w9 ho hb hg hat; rw [← Ny376.out] at ho; have n0_ := Aside0.mk (Kd.V_afterv (ok := (fun k_ => (P2_ k_ ∨ w.heap.size ≤ k_))) (by (with_reducible repeat (first | apply Kd.V_alloc | apply Kd.V_drewN | apply Kd.V_drew)); exact HO2.out) hg hat); have n1_ := Aside0.mk (hb); have n2_ := Aside0.mk (ho); clear HO2; clear HB; clear HO375; have HO2 := n0_; have HB := n1_; have HO378 := n2_; clear n0_ n1_ n2_; clear ho hb hg hat))
    go_ret
    exact ⟨_, by first | rfl | (simp [errW_none, errW_some] <;> rfl) | (simp [*, errW_none, errW_some] <;> rfl), Kd.V_mono (Kd.R_V (by (with_reducible repeat (first | apply Kd.R_alloc | apply Kd.R_drewN | apply Kd.R_drew)); exact HO378.out)) (fun k_ hk => by first | exact ⟨(.inr (hk.1)), hk.2⟩ | exact (.inr (hk))), by repeat (first | (with_reducible first | exact HB.out | apply below_alloc | apply pw_below_drewN | apply below_drew1) | exact HB.out)⟩
   ·rw [if_neg c6] at H
    exact absurd H (by simp)
  ·rw [if_neg c5] at H
   have c5b0 : ((l2.length : Int) == 0) = false := beq_eq_false_iff_ne.mpr c5
   have c5b1 : ((l2.length : Int) != 0) = true := bne_iff_ne.mpr c5
   have c5b2 : ¬ (l2 = []) := fun h_ => c5 (by rw [h_]; rfl)
   replace H := Option.bind_eq_some_iff.mp H
   obtain ⟨t379, A100, H⟩ := H
   replace H : ((swarfref38_way.f k l0 l2).bind fun t380 => (if t379 < t380 then ((some (([] : List Int) : List Int)).bind fun y381 => (if y381.length + l1.length < 17592186044416 then (some (y381 ++ l1)) else (none))) else (some l2))) = some r := H
   have A10 := Aside0.mk A100; clear A100; replace H := Option.bind_eq_some_iff.mp H
   obtain ⟨t380, A110, H⟩ := H
   replace H : (if t379 < t380 then ((some (([] : List Int) : List Int)).bind fun y381 => (if y381.length + l1.length < 17592186044416 then (some (y381 ++ l1)) else (none))) else (some l2)) = some r := H
   have A11 := Aside0.mk A110; clear A110
   by_cases c12 : t379 < t380
   ·rw [if_pos c12] at H
    have c12b0 : decide (t379 < t380) = true := decide_eq_true c12
    clear c12
    obtain ⟨y381, hy381⟩ : ∃ y_ : List Int, y_ = (([] : List Int)) := ⟨_, rfl⟩
    replace H : (if y381.length + l1.length < 17592186044416 then (some (y381 ++ l1)) else (none)) = some r := by first | (rw [hy381]; with_reducible exact H) | (have H2_ := (Option.bind_some _ _).symm.trans H; rw [hy381]; with_reducible exact H2_) | (have H2_ := (Option.bind_some _ _).symm.trans H; with_reducible exact H2_) | with_reducible exact H | (rw [hy381]; exact H) | exact H
    have Ny381 := Aside0.mk hy381; clear hy381
    by_cases c13 : y381.length + l1.length < 17592186044416
    ·rw [if_pos c13] at H; have LMc13 := Aside0.mk c13; clear c13
     obtain ⟨y384, hy384⟩ : ∃ y_ : List Int, y_ = (y381 ++ l1) := ⟨_, rfl⟩
     replace H : (some y384) = some r := by first | (rw [hy384]; with_reducible exact H) | (have H2_ := (Option.bind_some _ _).symm.trans H; rw [hy384]; with_reducible exact H2_) | (have H2_ := (Option.bind_some _ _).symm.trans H; with_reducible exact H2_) | with_reducible exact H | (rw [hy384]; exact H) | exact H
     have Ny384 := Aside0.mk hy384; clear hy384; obtain rfl := Option.some.inj H
     go_enter Try.func39, Try.ntmps39
     go_wp2_with (first | (go_at_call 33; (with_reducible refine (swarfref38_way.calls k _ _ l0 _ _ l1 t379 _ ?side1 ?side2 ?side3 ?side4 A10.out).mono ?_); (case side1 => repeat (first | exact HR0.out | (with_reducible refine Kd.C_alloc ?_ _) | (with_reducible refine Kd.C_drewN ?_ _) | (with_reducible refine Kd.C_drew ?_))); (case side2 => exact HC0.out); (case side3 => repeat (first | exact HR1.out | (with_reducible refine Kd.C_alloc ?_ _) | (with_reducible refine Kd.C_drewN ?_ _) | (with_reducible refine Kd.C_drew ?_))); (case side4 => exact HC1.out); rintro e w14 ⟨rfl, hb⟩; have n0_ := Aside0.mk (Kd.V_below (by (with_reducible repeat (first | apply Kd.V_alloc | apply Kd.V_drewN | apply Kd.V_drew)); exact HO2.out) hb); have n1_ := Aside0.mk (below_step (by repeat (first | (with_reducible first | exact HB.out | apply below_alloc | apply pw_below_drewN | apply below_drew1) | exact HB.out)) hb); clear HO2; clear HB; have HO2 := n0_; have HB := n1_; clear n0_ n1_; (try clear hb); (try clear hb2); (try clear hk); (try clear hi)) | (go_at_call 33; (with_reducible refine (swarfref38_way.calls k _ _ l0 _ _ l2 t380 _ ?side1 ?side2 ?side3 ?side4 A11.out).mono ?_); (case side1 => repeat (first | exact (Kd.C_below HR0.out HB.out) | (with_reducible refine Kd.C_alloc ?_ _) | (with_reducible refine Kd.C_drewN ?_ _) | (with_reducible refine Kd.C_drew ?_))); (case side2 => exact HC0.out); (case side3 => repeat (first | exact (Kd.V_reads' HO2.out).2.2 | (with_reducible refine Kd.C_alloc ?_ _) | (with_reducible refine Kd.C_drewN ?_ _) | (with_reducible refine Kd.C_drew ?_))); (case side4 => exact (Kd.V_reads' HO2.out).2.1); rintro e w15 ⟨rfl, hb⟩; have n0_ := Aside0.mk (Kd.V_below (by (with_reducible repeat (first | apply Kd.V_alloc | apply Kd.V_drewN | apply Kd.V_drew)); exact HO2.out) hb); have n1_ := Aside0.mk (below_step (by repeat (first | (with_reducible first | exact HB.out | apply below_alloc | apply pw_below_drewN | apply below_drew1) | exact HB.out)) hb); clear HO2; clear HB; have HO2 := n0_; have HB := n1_; clear n0_ n1_; (try clear hb); (try clear hb2); (try clear hk); (try clear hi)) | ((with_reducible refine gate_dst (N := 25) rfl ?_); refine Kd.R_lit (Kd.int .i64) _ 3 ?hg (N := 25) ?hd (xs := ([] : List Int)) (inner := []) (ok := fun _ => True) (okp := fun _ => True) ?hr ?hp (fun _ hk => hk) trivial (Below.refl _ _) (Nat.le_refl _) (by simp) ?_; (case hd => rfl); (case hg => rfl); (case hr => first | (go_simp; done) | (go_simp; rfl)); (case hp => exact (Reps.none _ _)); intro v382 w16 ho17 hb hg_ hnew_; clear hg_ hnew_; (first | rw [← Ny381.out] at ho17 | (simp only [Int.reduceToNat] at ho17; rw [← Ny381.out] at ho17)); have n0_ := Aside0.mk (Kd.V_elder' (by (with_reducible repeat (first | apply Kd.V_alloc | apply Kd.V_drewN | apply Kd.V_drew)); exact HO2.out) (Kd.R_base ho17) hb); have n1_ := Aside0.mk (Kd.R_lower (Kd.R_newM (M := fun k_ => (w.heap.size ≤ k_)) ho17 (below_size (by repeat (first | (with_reducible first | exact HB.out | apply below_alloc | apply pw_below_drewN | apply below_drew1) | exact HB.out))) (fun k_ h_ => h_)) (below_size (by repeat (first | (with_reducible first | exact HB.out | apply below_alloc | apply pw_below_drewN | apply below_drew1) | exact HB.out)))); have n2_ := Aside0.mk (below_step (by repeat (first | (with_reducible first | exact HB.out | apply below_alloc | apply pw_below_drewN | apply below_drew1) | exact HB.out)) hb); clear HO2; clear HB; have HO2 := n0_; have HO383 := n1_; have HB := n2_; clear n0_ n1_ n2_; clear hb ho17) | ((with_reducible refine gate_builtin (b := .append) (xs := #[.tmp 25, .tmp 26]) rfl ?_); at_builtin; refine Kd.R_append_rows (Kd.int .i64) (w0 := w) w.heap.size rfl (.tmp 25) (.tmp 26) 23 3 (.int .i64 0) 8 rfl Try.underlying23 info3 rfl (by decide) (by omega) v382 y381 l1 _ _ _ (fun k_ => (w.heap.size ≤ k_)) (fun _ => False) rfl rfl ?aO ?aR (fun _ _ h => h) (fun _ h => h.elim) ?aF ?aB ?aS ?aL ?_; (case aR => repeat (first | exact (Kd.C_below HR1.out HB.out) | (with_reducible refine Kd.C_alloc ?_ _) | (with_reducible refine Kd.C_drewN ?_ _) | (with_reducible refine Kd.C_drew ?_))); (case aB => exact (by repeat (first | (with_reducible first | exact HB.out | apply below_alloc | apply pw_below_drewN | apply below_drew1) | exact HB.out))); (case aF => exact (fun k_ hk => (Nat.le_trans (below_size (by repeat (first | (with_reducible first | exact HB.out | apply below_alloc | apply pw_below_drewN | apply below_drew1) | exact HB.out))) hk))); (case aO => exact (by (with_reducible repeat (first | apply Kd.R_alloc | apply Kd.R_drewN | apply Kd.R_drew)); exact Kd.R_mono HO383.out (fun _ hk => hk.1))); (case aS => exact (below_size (by repeat (first | (with_reducible first | exact HB.out | apply below_alloc | apply pw_below_drewN | apply below_drew1) | exact HB.out)))); (case aL => have := LMc13.out; omega); intro v385 w18 ho hb hg hat; rw [← Ny384.out] at ho; have n0_ := Aside0.mk (Kd.V_afterv (ok := (fun k_ => (P2_ k_ ∨ w.heap.size ≤ k_))) (by (with_reducible repeat (first | apply Kd.V_alloc | apply Kd.V_drewN | apply Kd.V_drew)); exact HO2.out) hg hat); have n1_ := Aside0.mk (hb); have n2_ := Aside0.mk (ho); clear HO2; clear HB; clear HO383; have HO2 := n0_; have HB := n1_; have HO386 := n2_; clear n0_ n1_ n2_; clear ho hb hg hat))
     go_ret
     exact ⟨_, by first | rfl | (simp [errW_none, errW_some] <;> rfl) | (simp [*, errW_none, errW_some] <;> rfl), Kd.V_mono (Kd.R_V (by (with_reducible repeat (first | apply Kd.R_alloc | apply Kd.R_drewN | apply Kd.R_drew)); exact HO386.out)) (fun k_ hk => by first | exact ⟨(.inr (hk.1)), hk.2⟩ | exact (.inr (hk))), by repeat (first | (with_reducible first | exact HB.out | apply below_alloc | apply pw_below_drewN | apply below_drew1) | exact HB.out)⟩
    ·rw [if_neg c13] at H
     exact absurd H (by simp)
   ·rw [if_neg c12] at H
    have c12b0 : decide (t379 < t380) = false := decide_eq_false c12
    clear c12; obtain rfl := Option.some.inj H
    go_enter Try.func39, Try.ntmps39
    go_wp2_with (first | (go_at_call 33; (with_reducible refine (swarfref38_way.calls k _ _ l0 _ _ l1 t379 _ ?side1 ?side2 ?side3 ?side4 A10.out).mono ?_); (case side1 => repeat (first | exact HR0.out | (with_reducible refine Kd.C_alloc ?_ _) | (with_reducible refine Kd.C_drewN ?_ _) | (with_reducible refine Kd.C_drew ?_))); (case side2 => exact HC0.out); (case side3 => repeat (first | exact HR1.out | (with_reducible refine Kd.C_alloc ?_ _) | (with_reducible refine Kd.C_drewN ?_ _) | (with_reducible refine Kd.C_drew ?_))); (case side4 => exact HC1.out); rintro e w19 ⟨rfl, hb⟩; have n0_ := Aside0.mk (Kd.V_below (by (with_reducible repeat (first | apply Kd.V_alloc | apply Kd.V_drewN | apply Kd.V_drew)); exact HO2.out) hb); have n1_ := Aside0.mk (below_step (by repeat (first | (with_reducible first | exact HB.out | apply below_alloc | apply pw_below_drewN | apply below_drew1) | exact HB.out)) hb); clear HO2; clear HB; have HO2 := n0_; have HB := n1_; clear n0_ n1_; (try clear hb); (try clear hb2); (try clear hk); (try clear hi)) | (go_at_call 33; (with_reducible refine (swarfref38_way.calls k _ _ l0 _ _ l2 t380 _ ?side1 ?side2 ?side3 ?side4 A11.out).mono ?_); (case side1 => repeat (first | exact (Kd.C_below HR0.out HB.out) | (with_reducible refine Kd.C_alloc ?_ _) | (with_reducible refine Kd.C_drewN ?_ _) | (with_reducible refine Kd.C_drew ?_))); (case side2 => exact HC0.out); (case side3 => repeat (first | exact (Kd.V_reads' HO2.out).2.2 | (with_reducible refine Kd.C_alloc ?_ _) | (with_reducible refine Kd.C_drewN ?_ _) | (with_reducible refine Kd.C_drew ?_))); (case side4 => exact (Kd.V_reads' HO2.out).2.1); rintro e w20 ⟨rfl, hb⟩; have n0_ := Aside0.mk (Kd.V_below (by (with_reducible repeat (first | apply Kd.V_alloc | apply Kd.V_drewN | apply Kd.V_drew)); exact HO2.out) hb); have n1_ := Aside0.mk (below_step (by repeat (first | (with_reducible first | exact HB.out | apply below_alloc | apply pw_below_drewN | apply below_drew1) | exact HB.out)) hb); clear HO2; clear HB; have HO2 := n0_; have HB := n1_; clear n0_ n1_; (try clear hb); (try clear hb2); (try clear hk); (try clear hi)))
    go_ret
    exact ⟨_, by first | rfl | (simp [errW_none, errW_some] <;> rfl) | (simp [*, errW_none, errW_some] <;> rfl), by (with_reducible repeat (first | apply Kd.V_alloc | apply Kd.V_drewN | apply Kd.V_drew)); exact HO2.out, by repeat (first | (with_reducible first | exact HB.out | apply below_alloc | apply pw_below_drewN | apply below_drew1) | exact HB.out)⟩
 ·rw [if_neg c4] at H
  have c4b0 : ((l1.length : Int) == (l0.length : Int)) = false := beq_eq_false_iff_ne.mpr c4
  have c4b1 : ((l1.length : Int) != (l0.length : Int)) = true := bne_iff_ne.mpr c4
  have c4b2 : (l1.length == l0.length) = false := by first | simpa using c4 | (simp at c4 ⊢; omega)
  have H' := Aside0.mk H; clear H
  go_enter Try.func39, Try.ntmps39
  go_wp2
  go_loopg [2, 7] k (fun kq v2 v7 w' => ∃ (x2_1 : List Int) (x7_1 : Int), v7 = .int .i64 x7_1 ∧ Aside0 (swarfref38_search.l0 kq l0 l1 x2_1 x7_1 = some r) ∧ Aside0 (kq ≤ k) ∧ Aside0 (Kd.V (Kd.int .i64) 3 w' w.heap.size (fun k_ => (P2_ k_ ∨ w.heap.size ≤ k_)) v2 x2_1) ∧ Aside0 (Below w.heap.size w w'))
  case atStart => exact ⟨(l2), (0), (by first | rfl | (simp; done) | (simp [*]; done)), H', ⟨Nat.le_refl _⟩, ⟨by (with_reducible repeat (first | apply Kd.V_alloc | apply Kd.V_drewN | apply Kd.V_drew)); exact HO2.out⟩, ⟨by repeat (first | (with_reducible first | exact HB.out | apply below_alloc | apply pw_below_drewN | apply below_drew1) | exact HB.out)⟩⟩
  case round =>
   clear H'; try clear c1; try clear c2; try clear p2; try clear c3; try clear c4; try clear c4b0; try clear c4b1; try clear c4b2; try clear c5; try clear c5b0; try clear c5b1; try clear c5b2; try clear c6; try clear c12; try clear c12b0; try clear c13
   obtain ⟨x2_1, x7_1, rfl, HA, HK1, HO_2, HB⟩ := hrel
   cases gk with
   | zero => exact absurd HA.out (by simp [swarfref38_search.l0])
   | succ k1 =>
    have H := HA.out
    clear HA
    simp only [swarfref38_search.l0] at H
    by_cases c21 : x7_1 < (l0.length : Int)
    ·rw [if_pos c21] at H
     have c21b0 : decide (x7_1 < (l0.length : Int)) = true := decide_eq_true c21
     clear c21; replace H := Option.bind_eq_some_iff.mp H
     obtain ⟨t387, A220, H⟩ := H
     replace H : (if t387 = true then (swarfref38_search.l0 k1 l0 l1 x2_1 (wrap64 (x7_1 + 1))) else ((some (([] : List Int) : List Int)).bind fun y388 => (if y388.length + l1.length < 17592186044416 then ((some (y388 ++ l1 : List Int)).bind fun y391 => (if y391.length < 17592186044416 then ((swarfref38_search.f k1 l0 (y391 ++ [x7_1]) x2_1).bind fun t397 => (swarfref38_search.l0 k1 l0 l1 t397 (wrap64 (x7_1 + 1)))) else (none))) else (none)))) = some r := H
     have A22 := Aside0.mk A220; clear A220
     by_cases c23 : t387 = true
     ·subst c23
      have H1 : (swarfref38_search.l0 k1 l0 l1 x2_1 (wrap64 (x7_1 + 1))) = some r := by rw [if_pos rfl] at H; exact H
      clear H; have H := H1; clear H1; have H' := Aside0.mk H; clear H
      go_wp2_with (first | ((with_reducible refine gate_callee (f := 35) rfl ?_); refine goesL_ (some 37) rfl rfl Try.func35 (by kernel_rfl) rfl #[.slice A1 l1.length c1, .int .i64 x7_1] rfl (by (try simp only [List.map_toArray, List.map_cons, List.map_nil]); first | done | rfl | (simp only [List.length_drop, List.length_take]; rfl)) ?_; (with_reducible refine (swarfref38_has.calls k1 _ _ l1 x7_1 true _ ?side1 ?side2 A22.out).mono ?_); (case side1 => repeat (first | exact (Kd.C_below HR1.out HB.out) | (with_reducible refine Kd.C_alloc ?_ _) | (with_reducible refine Kd.C_drewN ?_ _) | (with_reducible refine Kd.C_drew ?_))); (case side2 => exact HC1.out); rintro e w' ⟨rfl, ⟨nd, rfl⟩⟩; refine ⟨_, rfl, ?_⟩))
      go_roundg k1
      case measure => have := HK1.out; omega
      case rel => exact ⟨(x2_1), (wrap64 (x7_1 + 1)), (by first | rfl | (simp; done) | (simp [*]; done)), H', ⟨by have := HK1.out; omega⟩, ⟨by (with_reducible repeat (first | apply Kd.V_alloc | apply Kd.V_drewN | apply Kd.V_drew)); exact HO_2.out⟩, ⟨by repeat (first | (with_reducible first | exact HB.out | apply below_alloc | apply pw_below_drewN | apply below_drew1) | exact HB.out)⟩⟩
     ·replace c23 := Bool.eq_false_iff.mpr c23
      subst c23
      have H1 : ((some (([] : List Int) : List Int)).bind fun y388 => (if y388.length + l1.length < 17592186044416 then ((some (y388 ++ l1 : List Int)).bind fun y391 => (if y391.length < 17592186044416 then ((swarfref38_search.f k1 l0 (y391 ++ [x7_1]) x2_1).bind fun t397 => (swarfref38_search.l0 k1 l0 l1 t397 (wrap64 (x7_1 + 1)))) else (none))) else (none))) = some r := by rw [if_neg (show ¬ (false = true) by decide)] at H; exact H
      clear H; have H := H1; clear H1
      obtain ⟨y388, hy388⟩ : ∃ y_ : List Int, y_ = (([] : List Int)) := ⟨_, rfl⟩
      replace H : (if y388.length + l1.length < 17592186044416 then ((some (y388 ++ l1 : List Int)).bind fun y391 => (if y391.length < 17592186044416 then ((swarfref38_search.f k1 l0 (y391 ++ [x7_1]) x2_1).bind fun t397 => (swarfref38_search.l0 k1 l0 l1 t397 (wrap64 (x7_1 + 1)))) else (none))) else (none)) = some r := by first | (rw [hy388]; with_reducible exact H) | (have H2_ := (Option.bind_some _ _).symm.trans H; rw [hy388]; with_reducible exact H2_) | (have H2_ := (Option.bind_some _ _).symm.trans H; with_reducible exact H2_) | with_reducible exact H | (rw [hy388]; exact H) | exact H
      have Ny388 := Aside0.mk hy388; clear hy388
      by_cases c24 : y388.length + l1.length < 17592186044416
      ·rw [if_pos c24] at H; have LMc24 := Aside0.mk c24; clear c24
       obtain ⟨y391, hy391⟩ : ∃ y_ : List Int, y_ = (y388 ++ l1) := ⟨_, rfl⟩
       replace H : (if y391.length < 17592186044416 then ((swarfref38_search.f k1 l0 (y391 ++ [x7_1]) x2_1).bind fun t397 => (swarfref38_search.l0 k1 l0 l1 t397 (wrap64 (x7_1 + 1)))) else (none)) = some r := by first | (rw [hy391]; with_reducible exact H) | (have H2_ := (Option.bind_some _ _).symm.trans H; rw [hy391]; with_reducible exact H2_) | (have H2_ := (Option.bind_some _ _).symm.trans H; with_reducible exact H2_) | with_reducible exact H | (rw [hy391]; exact H) | exact H
       have Ny391 := Aside0.mk hy391; clear hy391
       by_cases c25 : y391.length < 17592186044416
       ·rw [if_pos c25] at H; have LMc25 := Aside0.mk c25; clear c25
        obtain ⟨y394, hy394⟩ : ∃ y_ : List Int, y_ = (y391 ++ [x7_1]) := ⟨_, rfl⟩
        replace H : ((swarfref38_search.f k1 l0 y394 x2_1).bind fun t397 => (swarfref38_search.l0 k1 l0 l1 t397 (wrap64 (x7_1 + 1)))) = some r := by first | (rw [hy394]; with_reducible exact H) | (have H2_ := (Option.bind_some _ _).symm.trans H; rw [hy394]; with_reducible exact H2_) | (have H2_ := (Option.bind_some _ _).symm.trans H; with_reducible exact H2_) | with_reducible exact H | (rw [hy394]; exact H) | exact H
        have Ny394 := Aside0.mk hy394; clear hy394; replace H := Option.bind_eq_some_iff.mp H
        obtain ⟨t397, A260, H⟩ := H
        replace H : (swarfref38_search.l0 k1 l0 l1 t397 (wrap64 (x7_1 + 1))) = some r := H
        have A26 := Aside0.mk A260; clear A260; have H' := Aside0.mk H; clear H
        go_wp2_with (first | ((with_reducible refine gate_callee (f := 35) rfl ?_); refine goesL_ (some 37) rfl rfl Try.func35 (by kernel_rfl) rfl #[.slice A1 l1.length c1, .int .i64 x7_1] rfl (by (try simp only [List.map_toArray, List.map_cons, List.map_nil]); first | done | rfl | (simp only [List.length_drop, List.length_take]; rfl)) ?_; (with_reducible refine (swarfref38_has.calls k1 _ _ l1 x7_1 false _ ?side1 ?side2 A22.out).mono ?_); (case side1 => repeat (first | exact (Kd.C_below HR1.out HB.out) | (with_reducible refine Kd.C_alloc ?_ _) | (with_reducible refine Kd.C_drewN ?_ _) | (with_reducible refine Kd.C_drew ?_))); (case side2 => exact HC1.out); rintro e w' ⟨rfl, ⟨nd, rfl⟩⟩; refine ⟨_, rfl, ?_⟩) | ((with_reducible refine gate_dst (N := 40) rfl ?_); refine Kd.R_lit (Kd.int .i64) _ 3 ?hg (N := 40) ?hd (xs := ([] : List Int)) (inner := []) (ok := fun _ => True) (okp := fun _ => True) ?hr ?hp (fun _ hk => hk) trivial (Below.refl _ _) (Nat.le_refl _) (by simp) ?_; (case hd => rfl); (case hg => rfl); (case hr => first | (go_simp; done) | (go_simp; rfl)); (case hp => exact (Reps.none _ _)); intro v389 w27 ho28 hb hg_ hnew_; clear hg_ hnew_; (first | rw [← Ny388.out] at ho28 | (simp only [Int.reduceToNat] at ho28; rw [← Ny388.out] at ho28)); have n0_ := Aside0.mk (Kd.V_elder' (by (with_reducible repeat (first | apply Kd.V_alloc | apply Kd.V_drewN | apply Kd.V_drew)); exact HO_2.out) (Kd.R_base ho28) hb); have n1_ := Aside0.mk (Kd.R_lower (Kd.R_newM (M := fun k_ => (w.heap.size ≤ k_)) ho28 (below_size (by repeat (first | (with_reducible first | exact HB.out | apply below_alloc | apply pw_below_drewN | apply below_drew1) | exact HB.out))) (fun k_ h_ => h_)) (below_size (by repeat (first | (with_reducible first | exact HB.out | apply below_alloc | apply pw_below_drewN | apply below_drew1) | exact HB.out)))); have n2_ := Aside0.mk (below_step (by repeat (first | (with_reducible first | exact HB.out | apply below_alloc | apply pw_below_drewN | apply below_drew1) | exact HB.out)) hb); clear HO_2; clear HB; have HO_2 := n0_; have HO390 := n1_; have HB := n2_; clear n0_ n1_ n2_; clear hb ho28) | ((with_reducible refine gate_builtin (b := .append) (xs := #[.tmp 40, .tmp 41]) rfl ?_); at_builtin; refine Kd.R_append_rows (Kd.int .i64) (w0 := w) w.heap.size rfl (.tmp 40) (.tmp 41) 23 3 (.int .i64 0) 8 rfl Try.underlying23 info3 rfl (by decide) (by omega) v389 y388 l1 _ _ _ (fun k_ => (w.heap.size ≤ k_)) (fun _ => False) rfl rfl ?aO ?aR (fun _ _ h => h) (fun _ h => h.elim) ?aF ?aB ?aS ?aL ?_; (case aR => repeat (first | exact (Kd.C_below HR1.out HB.out) | (with_reducible refine Kd.C_alloc ?_ _) | (with_reducible refine Kd.C_drewN ?_ _) | (with_reducible refine Kd.C_drew ?_))); (case aB => exact (by repeat (first | (with_reducible first | exact HB.out | apply below_alloc | apply pw_below_drewN | apply below_drew1) | exact HB.out))); (case aF => exact (fun k_ hk => (Nat.le_trans (below_size (by repeat (first | (with_reducible first | exact HB.out | apply below_alloc | apply pw_below_drewN | apply below_drew1) | exact HB.out))) hk))); (case aO => exact (by (with_reducible repeat (first | apply Kd.R_alloc | apply Kd.R_drewN | apply Kd.R_drew)); exact Kd.R_mono HO390.out (fun _ hk => hk.1))); (case aS => exact (below_size (by repeat (first | (with_reducible first | exact HB.out | apply below_alloc | apply pw_below_drewN | apply below_drew1) | exact HB.out)))); (case aL => have := LMc24.out; omega); intro v392 w29 ho hb hg hat; rw [← Ny391.out] at ho; have n0_ := Aside0.mk (Kd.V_afterv (ok := (fun k_ => (P2_ k_ ∨ w.heap.size ≤ k_))) (by (with_reducible repeat (first | apply Kd.V_alloc | apply Kd.V_drewN | apply Kd.V_drew)); exact HO_2.out) hg hat); have n1_ := Aside0.mk (hb); have n2_ := Aside0.mk (ho); clear HO_2; clear HB; clear HO390; have HO_2 := n0_; have HB := n1_; have HO393 := n2_; clear n0_ n1_ n2_; clear ho hb hg hat) | ((with_reducible refine gate_builtin (b := .append) (xs := #[.tmp 42, .tmp 44]) rfl ?_); at_builtin; refine Kd.R_append (Kd.int .i64) (w0 := w) w.heap.size rfl (.tmp 42) (.tmp 44) 23 3 (.int .i64 0) 8 rfl Try.underlying23 info3 rfl (by decide) (by omega) v392 y391 x7_1 [.int .i64 x7_1] (fun k_ => (w.heap.size ≤ k_)) (fun _ => False) rfl rfl ?aP (fun _ hk => hk.elim) ?aF ?aO ?aB ?aS ?aL ?_; (case aP => exact rfl); (case aB => exact (by repeat (first | (with_reducible first | exact HB.out | apply below_alloc | apply pw_below_drewN | apply below_drew1) | exact HB.out))); (case aF => exact (fun k_ hk => (Nat.le_trans (below_size (by repeat (first | (with_reducible first | exact HB.out | apply below_alloc | apply pw_below_drewN | apply below_drew1) | exact HB.out))) hk))); (case aO => exact (by (with_reducible repeat (first | apply Kd.R_alloc | apply Kd.R_drewN | apply Kd.R_drew)); exact HO393.out)); (case aS => exact (below_size (by repeat (first | (with_reducible first | exact HB.out | apply below_alloc | apply pw_below_drewN | apply below_drew1) | exact HB.out)))); (case aL => have := LMc25.out; omega); intro v395 w30 ho hb hg hat; rw [← Ny394.out] at ho; have n0_ := Aside0.mk (Kd.V_afterv (ok := (fun k_ => (P2_ k_ ∨ w.heap.size ≤ k_))) (by (with_reducible repeat (first | apply Kd.V_alloc | apply Kd.V_drewN | apply Kd.V_drew)); exact HO_2.out) hg hat); have n1_ := Aside0.mk (hb); have n2_ := Aside0.mk (ho); clear HO_2; clear HB; clear HO393; have HO_2 := n0_; have HB := n1_; have HO396 := n2_; clear n0_ n1_ n2_; clear ho hb hg hat; obtain ⟨Ao31, co31, eo31⟩ := Kd.R_slice HO396.out; subst eo31; obtain ⟨Ao32, co32, eo32⟩ := Kd.V_slice HO_2.out; subst eo32) | ((with_reducible refine gate_callee (f := 39) rfl ?_); refine goesL_ (some 47) rfl rfl Try.func39 (by kernel_rfl) rfl #[.slice A0 l0.length c0, .slice Ao31 y394.length co31, .slice Ao32 x2_1.length co32] rfl (by (try simp only [List.map_toArray, List.map_cons, List.map_nil]); first | done | rfl | (simp only [List.length_drop, List.length_take]; rfl)) ?_; (with_reducible refine (ih k1 (by have := HK1.out; omega) _ _ l0 _ _ y394 (fun k_ => ((P2_ k_ ∨ w.heap.size ≤ k_) ∧ some k_ ≠ (.slice Ao31 y394.length co31 : Value).ownBlock)) _ _ x2_1 t397 _ ?side1 ?side2 ?side3 ?side4 ?side5 A26.out).mono ?_); (case side1 => repeat (first | exact (Kd.C_below HR0.out HB.out) | (with_reducible refine Kd.C_alloc ?_ _) | (with_reducible refine Kd.C_drewN ?_ _) | (with_reducible refine Kd.C_drew ?_))); (case side2 => exact HC0.out); (case side3 => repeat (first | exact (Kd.R_reads' HO396.out).2.2 | (with_reducible refine Kd.C_alloc ?_ _) | (with_reducible refine Kd.C_drewN ?_ _) | (with_reducible refine Kd.C_drew ?_))); (case side4 => exact (Kd.R_reads' HO396.out).2.1); (case side5 => exact HO_2.out); rintro e w33 ⟨v398, rfl, ho0, hb⟩; refine ⟨_, rfl, ?_⟩; have n0_ := Aside0.mk (Kd.V_below (by (with_reducible repeat (first | apply Kd.V_alloc | apply Kd.V_drewN | apply Kd.V_drew)); exact HO_2.out) hb); have n1_ := Aside0.mk (Kd.R_below (by (with_reducible repeat (first | apply Kd.R_alloc | apply Kd.R_drewN | apply Kd.R_drew)); exact HO396.out) hb); have n2_ := Aside0.mk (Kd.V_lower (Kd.V_mono (ok' := fun k_ => (P2_ k_ ∨ w.heap.size ≤ k_) ∧ some k_ ≠ (.slice Ao31 y394.length co31 : Value).ownBlock) ho0 (fun k_ hk_ => ⟨Or.elim hk_ (fun hs_ => hs_.1) (fun hn_ => (.inr (Nat.le_trans (below_size (by repeat (first | (with_reducible first | exact HB.out | apply below_alloc | apply pw_below_drewN | apply below_drew1) | exact HB.out))) hn_))), Or.elim hk_ (fun hs_ => hs_.2) (fun hn_ => (Kd.fresh' (Kd.R_lt (by (with_reducible repeat (first | apply Kd.R_alloc | apply Kd.R_drewN | apply Kd.R_drew)); exact HO396.out)) k_ hn_))⟩)) (below_size (by repeat (first | (with_reducible first | exact HB.out | apply below_alloc | apply pw_below_drewN | apply below_drew1) | exact HB.out)))); have n3_ := Aside0.mk (below_step (by repeat (first | (with_reducible first | exact HB.out | apply below_alloc | apply pw_below_drewN | apply below_drew1) | exact HB.out)) hb); clear HO_2; clear HO396; clear HB; have HO_2 := n0_; have HO396 := n1_; have HO399 := n2_; have HB := n3_; clear n0_ n1_ n2_ n3_; (try clear hb); (try clear hb2); (try clear hk); (try clear hi); (try clear ho0)))
        go_roundg k1
        case measure => have := HK1.out; omega
        case rel => exact ⟨(t397), (wrap64 (x7_1 + 1)), (by first | rfl | (simp; done) | (simp [*]; done)), H', ⟨by have := HK1.out; omega⟩, ⟨by (with_reducible repeat (first | apply Kd.V_alloc | apply Kd.V_drewN | apply Kd.V_drew)); exact Kd.V_mono HO399.out (fun _ hk => hk.1)⟩, ⟨by repeat (first | (with_reducible first | exact HB.out | apply below_alloc | apply pw_below_drewN | apply below_drew1) | exact HB.out)⟩⟩
       ·rw [if_neg c25] at H
        exact absurd H (by simp)
      ·rw [if_neg c24] at H
       exact absurd H (by simp)
    ·rw [if_neg c21] at H
     have c21b0 : decide (x7_1 < (l0.length : Int)) = false := decide_eq_false c21
     clear c21; obtain rfl := Option.some.inj H; go_wp2; go_ret
     exact ⟨_, by first | rfl | (simp [errW_none, errW_some] <;> rfl) | (simp [*, errW_none, errW_some] <;> rfl), by (with_reducible repeat (first | apply Kd.V_alloc | apply Kd.V_drewN | apply Kd.V_drew)); exact HO_2.out, by repeat (first | (with_reducible first | exact HB.out | apply below_alloc | apply pw_below_drewN | apply below_drew1) | exact HB.out)⟩

end Go.Proofs.Ytohjocajaanhaaa.P

-- PRINTED by print.py (a twelfth state) out of the translation. Not trusted: Lean checks it.

namespace Go.Proofs.Ytohjocajaanhaaa.P
open Go.RowKit Go.Proofs.YtohjocajaanhaaaW.PrintWords Go.Proofs.YtohjocajaanhaaaW.PrintLast Go.Proofs.YtohjocajaanhaaaW.PrintMore
attribute [local go_sem] max2_int min2_int max_two min_two max_three min_three max_four min_four   -- for this text's walks alone
set_option linter.unusedVariables false
set_option linter.unusedSimpArgs false

/-! ### swarfref38_Exact: function 23 -/
def swarfref38_Exact.f (k : Nat) (l0 : List (S31)) : Option (List Int × Int × Int) := (swarfref38_Valid.f k l0 10).bind fun t324 => (if t324 = 0 then (if (l0.length : Int) = 0 then (some (([] : List Int), 0, 0)) else ((swarfref38_search.f k l0 (([0] : List Int)) ([] : List Int)).bind fun t328 => ((swarfref38_way.f k l0 t328).bind fun t331 => (some (t328, t331, 0))))) else (some (([] : List Int), 0, t324)))
theorem swarfref38_Exact.mono : ∀ a0 k, LeO (swarfref38_Exact.f k a0) (swarfref38_Exact.f (k + 1) a0) := by
 intro a0 k
 unfold swarfref38_Exact.f
 repeat' first
   | (with_reducible exact swarfref38_Valid.mono _ _ _)
   | (with_reducible exact swarfref38_search.mono _ _ _ _)
   | (with_reducible exact swarfref38_way.mono _ _ _)
   | (with_reducible exact LeO.refl _)
   | (with_reducible exact LeO.none _)
   | (with_reducible refine LeO.ite ?_ ?_)
   | (with_reducible refine LeO.bind ?_ (fun _ => ?_))
   | exact swarfref38_Valid.mono _ _ _
   | exact swarfref38_search.mono _ _ _ _
   | exact swarfref38_way.mono _ _ _
   | exact LeO.none _
   | refine LeO.ite ?_ ?_
   | refine LeO.bind ?_ (fun _ => ?_)
set_option maxHeartbeats 8000000 in
set_option maxRecDepth 100000 in
theorem swarfref38_Exact.calls (k : Nat) (A0 : Option Addr) (c0 : Nat) (l0 : List (S31)) (r1 : List Int) (r2 : Int) (r3 : Int) (w : World) (hr0 : Kd.C k31 w A0 l0.length l0) (hc0 : l0.length ≤ c0) (h : swarfref38_Exact.f k l0 = some (r1, r2, r3)) :
  Calls Try.prog 23 #[.slice A0 l0.length c0] w fun e w' => ∃ v0_ : Value, e = .returned (.tuple #[v0_, .int .i64 r2, .int .i64 r3]) ∧ Kd.V (Kd.int .i64) 3 w' w.heap.size (fun k_ => (w.heap.size ≤ k_)) v0_ r1 ∧ Below w.heap.size w w' := by
 have HR0 := Aside0.mk hr0
 have HC0 := Aside0.mk hc0
 clear hr0 hc0
 have HB := Aside0.mk (Below.refl w.heap.size w)
 have H : ((swarfref38_Valid.f k l0 10).bind fun t324 => (if t324 = 0 then (if (l0.length : Int) = 0 then (some (([] : List Int), 0, 0)) else ((swarfref38_search.f k l0 (([0] : List Int)) ([] : List Int)).bind fun t328 => ((swarfref38_way.f k l0 t328).bind fun t331 => (some (t328, t331, 0))))) else (some (([] : List Int), 0, t324)))) = some (r1, r2, r3) := h
 clear h
 replace H := Option.bind_eq_some_iff.mp H
 obtain ⟨t324, A20, H⟩ := H
 replace H : (if t324 = 0 then (if (l0.length : Int) = 0 then (some (([] : List Int), 0, 0)) else ((swarfref38_search.f k l0 (([0] : List Int)) ([] : List Int)).bind fun t328 => ((swarfref38_way.f k l0 t328).bind fun t331 => (some (t328, t331, 0))))) else (some (([] : List Int), 0, t324))) = some (r1, r2, r3) := H
 have A2 := Aside0.mk A20
 clear A20
 by_cases c3 : t324 = 0
 ·rw [if_pos c3] at H
  have c3b0 : (t324 == 0) = true := beq_iff_eq.mpr c3
  have c3b1 : (t324 != 0) = false := bne_eq_false_iff_eq.mpr c3
  clear c3
  by_cases c4 : (l0.length : Int) = 0
  ·rw [if_pos c4] at H
   have c4b0 : ((l0.length : Int) == 0) = true := beq_iff_eq.mpr c4
   have c4b1 : ((l0.length : Int) != 0) = false := bne_eq_false_iff_eq.mpr c4
   clear c4
   simp only [Option.some.injEq, Prod.mk.injEq] at H
   obtain ⟨rfl, rfl, rfl⟩ := H
   go_enter Try.func23, Try.ntmps23
   go_wp2_with (first | ((with_reducible refine gate_callee (f := 31) rfl ?_); refine goesL_ (some 8) rfl rfl Try.func31 (by kernel_rfl) rfl #[.slice A0 l0.length c0, .int .i64 10] rfl (by (try simp only [List.map_toArray, List.map_cons, List.map_nil]); first | done | rfl | (simp only [List.length_drop, List.length_take]; rfl)) ?_; (with_reducible refine (swarfref38_Valid.calls k _ _ l0 10 t324 _ ?side1 ?side2 A2.out).mono ?_); (case side1 => repeat (first | exact HR0.out | (with_reducible refine Kd.C_alloc ?_ _) | (with_reducible refine Kd.C_drewN ?_ _) | (with_reducible refine Kd.C_drew ?_))); (case side2 => exact HC0.out); rintro e w' ⟨rfl, ⟨nd, rfl⟩⟩; refine ⟨_, rfl, ?_⟩))
   go_ret3
   exact ⟨_, by first | rfl | (simp [errW_none, errW_some] <;> rfl) | (simp [*, errW_none, errW_some] <;> rfl), Kd.R_V (base := w.heap.size) (by first | exact Kd.R_nil _ _ _ _ _ | exact Kd.N_nil _ _ _ _ _ | exact Kd.V_nil _ _ _ _ _ | exact Kd.Q_nil _ _ _ _ _ | exact Kd.S_nil _ _ _ _ _), by repeat (first | (with_reducible first | exact HB.out | apply below_alloc | apply pw_below_drewN | apply below_drew1) | exact HB.out)⟩
  ·rw [if_neg c4] at H
   have c4b0 : ((l0.length : Int) == 0) = false := beq_eq_false_iff_ne.mpr c4
   have c4b1 : ((l0.length : Int) != 0) = true := bne_iff_ne.mpr c4
   have c4b2 : ¬ (l0 = []) := fun h_ => c4 (by rw [h_]; rfl)
   obtain ⟨y325, hy325⟩ : ∃ y_ : List Int, y_ = (([0] : List Int)) := ⟨_, rfl⟩
   replace H : ((swarfref38_search.f k l0 y325 ([] : List Int)).bind fun t328 => ((swarfref38_way.f k l0 t328).bind fun t331 => (some (t328, t331, 0)))) = some (r1, r2, r3) := by first | (rw [hy325]; with_reducible exact H) | (have H2_ := (Option.bind_some _ _).symm.trans H; rw [hy325]; with_reducible exact H2_) | (have H2_ := (Option.bind_some _ _).symm.trans H; with_reducible exact H2_) | with_reducible exact H | (rw [hy325]; exact H) | exact H
   have Ny325 := Aside0.mk hy325; clear hy325; replace H := Option.bind_eq_some_iff.mp H
   obtain ⟨t328, A50, H⟩ := H
   replace H : ((swarfref38_way.f k l0 t328).bind fun t331 => (some (t328, t331, 0))) = some (r1, r2, r3) := H
   have A5 := Aside0.mk A50; clear A50; replace H := Option.bind_eq_some_iff.mp H
   obtain ⟨t331, A60, H⟩ := H
   replace H : (some (t328, t331, 0)) = some (r1, r2, r3) := H
   have A6 := Aside0.mk A60; clear A60
   simp only [Option.some.injEq, Prod.mk.injEq] at H
   obtain ⟨rfl, rfl, rfl⟩ := H
   go_enter Try.func23, Try.ntmps23
   go_wp2_with (first | ((with_reducible refine gate_callee (f := 31) rfl ?_); refine goesL_ (some 8) rfl rfl Try.func31 (by kernel_rfl) rfl #[.slice A0 l0.length c0, .int .i64 10] rfl (by (try simp only [List.map_toArray, List.map_cons, List.map_nil]); first | done | rfl | (simp only [List.length_drop, List.length_take]; rfl)) ?_; (with_reducible refine (swarfref38_Valid.calls k _ _ l0 10 t324 _ ?side1 ?side2 A2.out).mono ?_); (case side1 => repeat (first | exact HR0.out | (with_reducible refine Kd.C_alloc ?_ _) | (with_reducible refine Kd.C_drewN ?_ _) | (with_reducible refine Kd.C_drew ?_))); (case side2 => exact HC0.out); rintro e w' ⟨rfl, ⟨nd, rfl⟩⟩; refine ⟨_, rfl, ?_⟩) | ((with_reducible refine gate_dst (N := 16) rfl ?_); refine Kd.R_lit (Kd.int .i64) _ 3 ?hg (N := 16) ?hd (xs := ([0] : List Int)) (inner := [.int .i64 0]) (ok := fun _ => True) (okp := fun _ => True) ?hr ?hp (fun _ hk => hk) trivial (Below.refl _ _) (Nat.le_refl _) (by simp) ?_; (case hd => rfl); (case hg => rfl); (case hr => first | (go_simp; done) | (go_simp; rfl)); (case hp => exact (Reps.one (show Kd.M (Kd.int .i64) _ _ _ 0 [.int .i64 0] from rfl) (Reps.none _ _))); intro v326 w7 ho8 hb hg_ hnew_; clear hg_ hnew_; (first | rw [← Ny325.out] at ho8 | (simp only [Int.reduceToNat] at ho8; rw [← Ny325.out] at ho8)); have n0_ := Aside0.mk (Kd.R_lower (Kd.R_newM (M := fun k_ => (w.heap.size ≤ k_)) ho8 (below_size (by repeat (first | (with_reducible first | exact HB.out | apply below_alloc | apply pw_below_drewN | apply below_drew1) | exact HB.out))) (fun k_ h_ => h_)) (below_size (by repeat (first | (with_reducible first | exact HB.out | apply below_alloc | apply pw_below_drewN | apply below_drew1) | exact HB.out)))); have n1_ := Aside0.mk (below_step (by repeat (first | (with_reducible first | exact HB.out | apply below_alloc | apply pw_below_drewN | apply below_drew1) | exact HB.out)) hb); clear HB; have HO327 := n0_; have HB := n1_; clear n0_ n1_; clear hb ho8; obtain ⟨Ao9, co9, eo9⟩ := Kd.R_slice HO327.out; subst eo9) | ((with_reducible refine gate_callee (f := 39) rfl ?_); refine goesL_ (some 17) rfl rfl Try.func39 (by kernel_rfl) rfl #[.slice A0 l0.length c0, .slice Ao9 y325.length co9, .slice none 0 0] rfl (by (try simp only [List.map_toArray, List.map_cons, List.map_nil]); first | done | rfl | (simp only [List.length_drop, List.length_take]; rfl)) ?_; (refine (swarfref38_search.calls k _ _ l0 _ _ y325 (fun k_ => False) _ _ ([] : List Int) t328 _ ?side1 ?side2 ?side3 ?side4 ?side5 A5.out).mono ?_); (case side1 => repeat (first | exact (Kd.C_below HR0.out HB.out) | (with_reducible refine Kd.C_alloc ?_ _) | (with_reducible refine Kd.C_drewN ?_ _) | (with_reducible refine Kd.C_drew ?_))); (case side2 => exact HC0.out); (case side3 => repeat (first | exact (Kd.R_reads' HO327.out).2.2 | (with_reducible refine Kd.C_alloc ?_ _) | (with_reducible refine Kd.C_drewN ?_ _) | (with_reducible refine Kd.C_drew ?_))); (case side4 => exact (Kd.R_reads' HO327.out).2.1); (case side5 => exact Kd.V_nil _ _ _ _ _); rintro e w10 ⟨v329, rfl, ho0, hb⟩; refine ⟨_, rfl, ?_⟩; have n0_ := Aside0.mk (Kd.R_below (by (with_reducible repeat (first | apply Kd.R_alloc | apply Kd.R_drewN | apply Kd.R_drew)); exact HO327.out) hb); have n1_ := Aside0.mk (Kd.V_lower (Kd.V_mono (ok' := fun k_ => (w.heap.size ≤ k_) ∧ some k_ ≠ (.slice Ao9 y325.length co9 : Value).ownBlock) ho0 (fun k_ hk_ => ⟨Or.elim hk_ (fun hs_ => (hs_).elim) (fun hn_ => (Nat.le_trans (below_size (by repeat (first | (with_reducible first | exact HB.out | apply below_alloc | apply pw_below_drewN | apply below_drew1) | exact HB.out))) hn_)), Or.elim hk_ (fun hs_ => (hs_).elim) (fun hn_ => (Kd.fresh' (Kd.R_lt (by (with_reducible repeat (first | apply Kd.R_alloc | apply Kd.R_drewN | apply Kd.R_drew)); exact HO327.out)) k_ hn_))⟩)) (below_size (by repeat (first | (with_reducible first | exact HB.out | apply below_alloc | apply pw_below_drewN | apply below_drew1) | exact HB.out)))); have n2_ := Aside0.mk (below_step (by repeat (first | (with_reducible first | exact HB.out | apply below_alloc | apply pw_below_drewN | apply below_drew1) | exact HB.out)) hb); clear HO327; clear HB; have HO327 := n0_; have HO330 := n1_; have HB := n2_; clear n0_ n1_ n2_; (try clear hb); (try clear hb2); (try clear hk); (try clear hi); (try clear ho0); obtain ⟨Ao11, co11, eo11⟩ := Kd.V_slice HO330.out; subst eo11) | ((with_reducible refine gate_callee (f := 33) rfl ?_); refine goesL_ (some 21) rfl rfl Try.func33 (by kernel_rfl) rfl #[.slice A0 l0.length c0, .slice Ao11 t328.length co11] rfl (by (try simp only [List.map_toArray, List.map_cons, List.map_nil]); first | done | rfl | (simp only [List.length_drop, List.length_take]; rfl)) ?_; (with_reducible refine (swarfref38_way.calls k _ _ l0 _ _ t328 t331 _ ?side1 ?side2 ?side3 ?side4 A6.out).mono ?_); (case side1 => repeat (first | exact (Kd.C_below HR0.out HB.out) | (with_reducible refine Kd.C_alloc ?_ _) | (with_reducible refine Kd.C_drewN ?_ _) | (with_reducible refine Kd.C_drew ?_))); (case side2 => exact HC0.out); (case side3 => repeat (first | exact (Kd.V_reads' HO330.out).2.2 | (with_reducible refine Kd.C_alloc ?_ _) | (with_reducible refine Kd.C_drewN ?_ _) | (with_reducible refine Kd.C_drew ?_))); (case side4 => exact (Kd.V_reads' HO330.out).2.1); rintro e w12 ⟨rfl, hb⟩; refine ⟨_, rfl, ?_⟩; have n0_ := Aside0.mk (Kd.R_below (by (with_reducible repeat (first | apply Kd.R_alloc | apply Kd.R_drewN | apply Kd.R_drew)); exact HO327.out) hb); have n1_ := Aside0.mk (Kd.V_below (by (with_reducible repeat (first | apply Kd.V_alloc | apply Kd.V_drewN | apply Kd.V_drew)); exact HO330.out) hb); have n2_ := Aside0.mk (below_step (by repeat (first | (with_reducible first | exact HB.out | apply below_alloc | apply pw_below_drewN | apply below_drew1) | exact HB.out)) hb); clear HO327; clear HO330; clear HB; have HO327 := n0_; have HO330 := n1_; have HB := n2_; clear n0_ n1_ n2_; (try clear hb); (try clear hb2); (try clear hk); (try clear hi)))
   go_ret3
   exact ⟨_, by first | rfl | (simp [errW_none, errW_some] <;> rfl) | (simp [*, errW_none, errW_some] <;> rfl), by (with_reducible repeat (first | apply Kd.V_alloc | apply Kd.V_drewN | apply Kd.V_drew)); exact Kd.V_mono HO330.out (fun _ hk => hk.1), by repeat (first | (with_reducible first | exact HB.out | apply below_alloc | apply pw_below_drewN | apply below_drew1) | exact HB.out)⟩
 ·rw [if_neg c3] at H
  have c3b0 : (t324 == 0) = false := beq_eq_false_iff_ne.mpr c3
  have c3b1 : (t324 != 0) = true := bne_iff_ne.mpr c3
  simp only [Option.some.injEq, Prod.mk.injEq] at H
  obtain ⟨rfl, rfl, rfl⟩ := H
  go_enter Try.func23, Try.ntmps23
  go_wp2_with (first | ((with_reducible refine gate_callee (f := 31) rfl ?_); refine goesL_ (some 8) rfl rfl Try.func31 (by kernel_rfl) rfl #[.slice A0 l0.length c0, .int .i64 10] rfl (by (try simp only [List.map_toArray, List.map_cons, List.map_nil]); first | done | rfl | (simp only [List.length_drop, List.length_take]; rfl)) ?_; (with_reducible refine (swarfref38_Valid.calls k _ _ l0 10 t324 _ ?side1 ?side2 A2.out).mono ?_); (case side1 => repeat (first | exact HR0.out | (with_reducible refine Kd.C_alloc ?_ _) | (with_reducible refine Kd.C_drewN ?_ _) | (with_reducible refine Kd.C_drew ?_))); (case side2 => exact HC0.out); rintro e w' ⟨rfl, ⟨nd, rfl⟩⟩; refine ⟨_, rfl, ?_⟩))
  go_ret3
  exact ⟨_, by first | rfl | (simp [errW_none, errW_some] <;> rfl) | (simp [*, errW_none, errW_some] <;> rfl), Kd.R_V (base := w.heap.size) (by first | exact Kd.R_nil _ _ _ _ _ | exact Kd.N_nil _ _ _ _ _ | exact Kd.V_nil _ _ _ _ _ | exact Kd.Q_nil _ _ _ _ _ | exact Kd.S_nil _ _ _ _ _), by repeat (first | (with_reducible first | exact HB.out | apply below_alloc | apply pw_below_drewN | apply below_drew1) | exact HB.out)⟩

end Go.Proofs.Ytohjocajaanhaaa.P

/- What Exact answers, in the program and in the reference: the first shortest order. Plain numbers and lists. -/

namespace Go.Proofs.Ytohjocajaanhaaa.B
open Go.RowKit Go.Proofs.Ytohjocajaanhaaa.P Go.Proofs.YtohjocajaanhaaaW.PrintWords Go.Proofs.YtohjocajaanhaaaW.PrintLast Go.Proofs.YtohjocajaanhaaaW.PrintMore
set_option linter.unusedVariables false
set_option linter.unusedSimpArgs false

theorem wy_snoc (l : List S31) (i : Int) : ∀ o : List Int, ¬ o = [] → wy l (o ++ [i]) = wy l o + dst (rd_T31 l (rd o ((o.length : Int) - 1))) (rd_T31 l i)
  | [], h => absurd rfl h
  | [a], _ => by simp [wy, rd]
  | a :: b :: t, _ => by
    have ih := wy_snoc l i (b :: t) (by simp)
    have e : rd (a :: b :: t) (((a :: b :: t).length : Int) - 1) = rd (b :: t) (((b :: t).length : Int) - 1) := by
      unfold rd
      have h1 : (((a :: b :: t).length : Int) - 1).toNat = t.length + 1 := by simp only [List.length_cons]; omega
      have h2 : (((b :: t).length : Int) - 1).toNat = t.length := by simp only [List.length_cons]; omega
      rw [h1, h2]; rfl
    rw [e]
    show dst (rd_T31 l a) (rd_T31 l b) + wy l (b :: t ++ [i]) = dst (rd_T31 l a) (rd_T31 l b) + wy l (b :: t) + _
    rw [ih]
    omega
theorem wy_le (l : List S31) (hv : l.all okp = true) : ∀ o : List Int, (∀ x ∈ o, 0 ≤ x ∧ x < (l.length : Int)) → wy l o ≤ 20000000 * (o.length : Int)
  | [], _ => by simp [wy]
  | [a], _ => by simp [wy]
  | a :: b :: t, h => by
    have ih := wy_le l hv (b :: t) (fun x hx => h x (List.mem_cons_of_mem _ hx))
    have h1 := h a List.mem_cons_self
    have h2 := h b (List.mem_cons_of_mem _ List.mem_cons_self)
    have := dst_le (ok_at hv a h1.1 h1.2) (ok_at hv b h2.1 h2.2)
    simp only [wy, List.length_cons] at ih ⊢
    omega
theorem wy_grow (l : List S31) (o : List Int) (ho : ¬ o = []) (i : Int) : wy l o ≤ wy l (o ++ [i]) := by
  rw [wy_snoc l i o ho]
  have := dst_nonneg (rd_T31 l (rd o ((o.length : Int) - 1))) (rd_T31 l i)
  omega
/-- The search through all orders that begin with o. -/
def srch (l : List S31) : Nat → List Int → List Int → List Int
  | 0, o, best => if best = [] ∨ wy l o < wy l best then o else best
  | d + 1, o, best => (List.range l.length).foldl (fun bst (i : Nat) => if (i : Int) ∈ o then bst else srch l d (o ++ [(i : Int)]) bst) best
theorem srch_prune (l : List S31) (d : Nat) : ∀ (o best : List Int), ¬ o = [] → ¬ best = [] → wy l best ≤ wy l o → srch l d o best = best := by
  induction d with
  | zero =>
    intro o best _ hb hw
    unfold srch
    rw [if_neg (fun h => h.elim hb (fun h => by omega))]
  | succ d ih =>
    intro o best ho hb hw
    unfold srch
    have : ∀ is : List Nat, is.foldl (fun bst (i : Nat) => if (i : Int) ∈ o then bst else srch l d (o ++ [(i : Int)]) bst) best = best := by
      intro is
      induction is with
      | nil => rfl
      | cons i is ihs =>
        rw [List.foldl_cons]
        by_cases hi : (i : Int) ∈ o
        · rw [if_pos hi]; exact ihs
        · rw [if_neg hi, ih (o ++ [(i : Int)]) best (by simp) hb (Int.le_trans hw (wy_grow l o ho _))]
          exact ihs
    exact this _
/-- q goes on with o to an order of all. -/
def Compl (l : List S31) (o q : List Int) : Prop := (∃ t, q = o ++ t) ∧ q.length = l.length ∧ q.Nodup ∧ ∀ x ∈ q, 0 ≤ x ∧ x < (l.length : Int)
theorem Compl.less {l : List S31} {o q : List Int} {i : Int} (h : Compl l (o ++ [i]) q) : Compl l o q := by
  obtain ⟨⟨t, ht⟩, h2⟩ := h
  exact ⟨⟨i :: t, by rw [ht]; simp⟩, h2⟩
theorem srch_spec (l : List S31) (d : Nat) : ∀ (o best : List Int), o.length + d = l.length → ¬ o = [] → o.Nodup → (∀ x ∈ o, 0 ≤ x ∧ x < (l.length : Int)) →
    (srch l d o best = best ∨ Compl l o (srch l d o best)) ∧ (¬ best = [] → ¬ srch l d o best = [] ∧ wy l (srch l d o best) ≤ wy l best) ∧ (∀ q, Compl l o q → ¬ srch l d o best = [] ∧ wy l (srch l d o best) ≤ wy l q) := by
  induction d with
  | zero =>
    intro o best hl ho hd hr
    unfold srch
    have hq : ∀ q, Compl l o q → q = o := by
      rintro q ⟨⟨t, ht⟩, h2, _⟩
      have : t = [] := by
        have := congrArg List.length ht
        rw [List.length_append] at this
        exact List.eq_nil_of_length_eq_zero (by omega)
      rw [ht, this, List.append_nil]
    by_cases h : best = [] ∨ wy l o < wy l best
    · rw [if_pos h]
      refine ⟨.inr ⟨⟨[], by simp⟩, by omega, hd, hr⟩, fun hb => ⟨ho, by have := h.resolve_left hb; omega⟩, fun q hc => ⟨ho, by rw [hq q hc]; exact Int.le_refl _⟩⟩
    · rw [if_neg h]
      have h1 := not_or.1 h
      refine ⟨.inl rfl, fun hb => ⟨hb, Int.le_refl _⟩, fun q hc => ⟨h1.1, by rw [hq q hc]; omega⟩⟩
  | succ d ih =>
    intro o best hl ho hd hr
    unfold srch
    have main : ∀ (is : List Nat) (best : List Int), (∀ i ∈ is, i < l.length) →
        ((is.foldl (fun bst (i : Nat) => if (i : Int) ∈ o then bst else srch l d (o ++ [(i : Int)]) bst) best = best ∨ Compl l o (is.foldl (fun bst (i : Nat) => if (i : Int) ∈ o then bst else srch l d (o ++ [(i : Int)]) bst) best)) ∧
        (¬ best = [] → ¬ is.foldl (fun bst (i : Nat) => if (i : Int) ∈ o then bst else srch l d (o ++ [(i : Int)]) bst) best = [] ∧ wy l (is.foldl (fun bst (i : Nat) => if (i : Int) ∈ o then bst else srch l d (o ++ [(i : Int)]) bst) best) ≤ wy l best) ∧
        (∀ q, (∃ i ∈ is, ¬ (i : Int) ∈ o ∧ Compl l (o ++ [(i : Int)]) q) → ¬ is.foldl (fun bst (i : Nat) => if (i : Int) ∈ o then bst else srch l d (o ++ [(i : Int)]) bst) best = [] ∧ wy l (is.foldl (fun bst (i : Nat) => if (i : Int) ∈ o then bst else srch l d (o ++ [(i : Int)]) bst) best) ≤ wy l q)) := by
      intro is
      induction is with
      | nil => intro best _; exact ⟨.inl rfl, fun hb => ⟨hb, Int.le_refl _⟩, fun q h => by obtain ⟨i, hi, _⟩ := h; cases hi⟩
      | cons i is ihs =>
        intro best hi
        have hrest := fun b => ihs b (fun x hx => hi x (List.mem_cons_of_mem _ hx))
        rw [List.foldl_cons]
        by_cases hin : (i : Int) ∈ o
        · rw [if_pos hin]
          obtain ⟨a, b, c⟩ := hrest best
          refine ⟨a, b, fun q hq => ?_⟩
          obtain ⟨i', hi', hn, hc⟩ := hq
          rcases List.mem_cons.1 hi' with rfl | hi'
          · exact absurd hin hn
          · exact c q ⟨i', hi', hn, hc⟩
        · rw [if_neg hin]
          have hil := hi i List.mem_cons_self
          obtain ⟨a1, b1, c1⟩ := ih (o ++ [(i : Int)]) best (by simp; omega) (by simp) (by
              rw [List.nodup_append]
              refine ⟨hd, by simp, fun x hx y hy => ?_⟩
              rw [List.mem_singleton] at hy
              rintro rfl
              exact hin (by rw [← hy]; exact hx)) (fun x hx => by
              rcases List.mem_append.1 hx with hx | hx
              · exact hr x hx
              · rw [List.mem_singleton] at hx; omega)
          obtain ⟨a, b, c⟩ := hrest (srch l d (o ++ [(i : Int)]) best)
          refine ⟨?_, fun hb => ?_, fun q hq => ?_⟩
          · rcases a with a | a
            · rw [a]
              rcases a1 with a1 | a1
              · exact .inl a1
              · exact .inr a1.less
            · exact .inr a
          · obtain ⟨h1, h2⟩ := b1 hb
            obtain ⟨h3, h4⟩ := b h1
            exact ⟨h3, Int.le_trans h4 h2⟩
          · obtain ⟨i', hi', hn, hc⟩ := hq
            rcases List.mem_cons.1 hi' with rfl | hi'
            · obtain ⟨h1, h2⟩ := c1 q hc
              obtain ⟨h3, h4⟩ := b h1
              exact ⟨h3, Int.le_trans h4 h2⟩
            · exact c q ⟨i', hi', hn, hc⟩
    obtain ⟨a, b, c⟩ := main (List.range l.length) best (fun i hi => List.mem_range.1 hi)
    refine ⟨a, b, fun q hq => c q ?_⟩
    obtain ⟨⟨t, ht⟩, h2, h3, h4⟩ := hq
    cases t with
    | nil => rw [List.append_nil] at ht; rw [ht] at h2; omega
    | cons y t =>
      have hy := h4 y (by rw [ht]; simp)
      refine ⟨y.toNat, List.mem_range.2 (by omega), ?_, ?_⟩
      · have e : ((y.toNat : Nat) : Int) = y := by omega
        rw [e]
        intro hyo
        rw [ht, List.nodup_append] at h3
        exact h3.2.2 y hyo y List.mem_cons_self rfl
      · have e : ((y.toNat : Nat) : Int) = y := by omega
        rw [e]
        exact ⟨⟨t, by rw [ht]; simp⟩, h2, h3, h4⟩
theorem range_drop (n j : Nat) (h : j < n) : (List.range n).drop j = j :: (List.range n).drop (j + 1) := by
  rw [List.drop_eq_getElem_cons (by simpa using h)]
  simp
/-- A best order so far. -/
def OKb (l : List S31) (b : List Int) : Prop := (∀ x ∈ b, 0 ≤ x ∧ x < (l.length : Int)) ∧ b.length ≤ l.length
theorem srch_ok (l : List S31) (d : Nat) : ∀ (o best : List Int), o.length + d = l.length → (∀ x ∈ o, 0 ≤ x ∧ x < (l.length : Int)) → OKb l best → OKb l (srch l d o best) := by
  induction d with
  | zero =>
    intro o best hl hr hb
    unfold srch
    split
    · exact ⟨hr, by omega⟩
    · exact hb
  | succ d ih =>
    intro o best hl hr hb
    unfold srch
    have : ∀ (is : List Nat) (b : List Int), (∀ i ∈ is, i < l.length) → OKb l b → OKb l (is.foldl (fun bst (i : Nat) => if (i : Int) ∈ o then bst else srch l d (o ++ [(i : Int)]) bst) b) := by
      intro is
      induction is with
      | nil => intro b _ h; exact h
      | cons i is ihs =>
        intro b hi h
        rw [List.foldl_cons]
        refine ihs _ (fun x hx => hi x (List.mem_cons_of_mem _ hx)) ?_
        have hil := hi i List.mem_cons_self
        by_cases hin : (i : Int) ∈ o
        · rw [if_pos hin]; exact h
        · rw [if_neg hin]
          exact ih _ _ (by simp; omega) (fun x hx => by
            rcases List.mem_append.1 hx with hx | hx
            · exact hr x hx
            · rw [List.mem_singleton] at hx; omega) h
    exact this _ _ (fun i hi => List.mem_range.1 hi) hb
/-! ### The reference -/
theorem rsearch_ev (l : List S31) (hv : l.all okp = true) (hn : l.length ≤ 500) (d : Nat) : ∀ (o best : List Int), o.length + d = l.length → (∀ x ∈ o, 0 ≤ x ∧ x < (l.length : Int)) → OKb l best → Ev (fun k => swarfref38_search.f k l o best) (srch l d o best) := by
  induction d with
  | zero =>
    intro o best hl hr hb
    have e0 : ∀ k, swarfref38_search.f (k + 1) l o best = if (best.length : Int) = 0 then some o else ((swarfref38_way.f k l o).bind fun t => ((swarfref38_way.f k l best).bind fun u => if t < u then some o else some best)) := by
      intro k
      simp only [swarfref38_search.f]
      rw [if_pos (by omega)]
      have hA : o.length < 17592186044416 := by omega
      simp only [Option.bind_some, List.length_nil, List.nil_append, Nat.zero_add, if_pos hA]
    unfold srch
    by_cases hb0 : best = []
    · rw [if_pos (.inl hb0)]
      exact ev_end (fun k => by rw [e0 k, if_pos (by rw [hb0]; rfl)])
    · have hlb : ¬ (best.length : Int) = 0 := fun h => hb0 (List.eq_nil_of_length_eq_zero (by omega))
      refine Ev.step (fun k => by rw [e0 k, if_neg hlb]) (Ev.bind (length_ev l hv o (by omega) hr).2 (Ev.bind (length_ev l hv best (by have := hb.2; omega) hb.1).2 ?_))
      by_cases hlt : wy l o < wy l best
      · simp only [if_pos hlt, if_pos (show best = [] ∨ wy l o < wy l best from .inr hlt)]; exact Ev.now _
      · simp only [if_neg hlt, if_neg (show ¬ (best = [] ∨ wy l o < wy l best) from fun h => h.elim hb0 hlt)]; exact Ev.now _
  | succ d ih =>
    intro o best hl hr hb
    have loop : ∀ (e j : Nat) (bst : List Int), j + e = l.length → OKb l bst → Ev (fun k => swarfref38_search.l0 k l o bst (j : Int)) (((List.range l.length).drop j).foldl (fun bst (i : Nat) => if (i : Int) ∈ o then bst else srch l d (o ++ [(i : Int)]) bst) bst) := by
      intro e
      induction e with
      | zero =>
        intro j bst hj _
        rw [List.drop_eq_nil_of_le (by simp; omega)]
        exact ev_end (fun k => by simp only [swarfref38_search.l0]; rw [if_neg (by omega)]; rfl)
      | succ e ihe =>
        intro j bst hj hbst
        have hwj : wrap64 ((j : Int) + 1) = ((j + 1 : Nat) : Int) := by rw [wrap_mid _ (by omega) (by omega)]; omega
        rw [range_drop _ _ (by omega), List.foldl_cons]
        refine Ev.step (f := fun k => (swarfref38_has.f k o (j : Int)).bind fun t => if t = true then swarfref38_search.l0 k l o bst ((j + 1 : Nat) : Int) else ((swarfref38_search.f k l (o ++ [(j : Int)]) bst).bind fun b2 => swarfref38_search.l0 k l o b2 ((j + 1 : Nat) : Int))) (fun k => ?_) ?_
        · simp only [swarfref38_search.l0]
          rw [if_pos (by omega), hwj]
          have hA : o.length < 17592186044416 := by omega
          simp only [Option.bind_some, List.length_nil, List.nil_append, Nat.zero_add, if_pos hA]
        · refine Ev.bind (has_ev o (by omega) (j : Int)) ?_
          by_cases hin : (j : Int) ∈ o
          · simp only [decide_eq_true hin, if_true, if_pos hin]
            exact ihe (j + 1) bst (by omega) hbst
          · simp only [decide_eq_false hin, Bool.false_eq_true, if_false, if_neg hin]
            have hro : ∀ x ∈ o ++ [(j : Int)], 0 ≤ x ∧ x < (l.length : Int) := fun x hx => by
              rcases List.mem_append.1 hx with hx | hx
              · exact hr x hx
              · rw [List.mem_singleton] at hx; omega
            refine Ev.bind (ih (o ++ [(j : Int)]) bst (by simp; omega) hro hbst) ?_
            exact ihe (j + 1) _ (by omega) (srch_ok l d _ _ (by simp; omega) hro hbst)
    refine Ev.step (f := fun k => swarfref38_search.l0 k l o best ((0 : Nat) : Int)) (fun k => ?_) ?_
    · simp only [swarfref38_search.f]
      rw [if_neg (by omega)]
      rfl
    · have := loop l.length 0 best (by omega) hb
      rw [List.drop_zero] at this
      exact this
/-! ### The program -/
theorem index_l0 (o : List Int) (hl : o.length ≤ 1000) (x : Int) (d : Nat) : ∀ j : Nat, j + d = o.length → EvP (fun k => slices_Index_int_int.l0 k o x (o.length : Int) (j : Int)) (fun r => (0 ≤ r) ↔ x ∈ o.drop j) := by
  induction d with
  | zero =>
    intro j hj
    rw [List.drop_eq_nil_of_le (by omega)]
    exact EvP.stop (-1) (fun k => by simp only [slices_Index_int_int.l0]; rw [if_neg (by omega)]) ⟨fun h => by omega, fun h => by cases h⟩
  | succ d ih =>
    intro j hj
    have hw : wrap64 ((j : Int) + 1) = ((j + 1 : Nat) : Int) := by rw [wrap_mid _ (by omega) (by omega)]; omega
    rw [drop_rd o j (by omega)]
    by_cases h : x = rd o (j : Int)
    · exact EvP.stop (j : Int) (fun k => by simp only [slices_Index_int_int.l0]; rw [if_pos (by omega), if_pos (by omega), if_pos (by omega), if_pos h]) ⟨fun _ => by rw [h]; exact List.mem_cons_self, fun _ => by omega⟩
    · obtain ⟨r, h1, h2⟩ := ih (j + 1) (by omega)
      refine ⟨r, Ev.step (fun k => ?_) h1, ?_⟩
      · simp only [slices_Index_int_int.l0]
        rw [if_pos (by omega), if_pos (by omega), if_pos (by omega), if_neg h, hw]
      · show 0 ≤ r ↔ _
        rw [h2, List.mem_cons]
        exact ⟨fun h => .inr h, fun h' => h'.resolve_left h⟩
theorem contains_ev (o : List Int) (hl : o.length ≤ 1000) (x : Int) : Ev (fun k => slices_Contains_int_int.f k o x) (decide (x ∈ o)) := by
  unfold slices_Contains_int_int.f
  obtain ⟨r, h1, h2⟩ := index_l0 o hl x o.length 0 (by omega)
  rw [List.drop_zero] at h2
  refine Ev.bind h1 ?_
  have : decide (r ≥ 0) = decide (x ∈ o) := by
    by_cases h : x ∈ o
    · rw [decide_eq_true h, decide_eq_true (h2.2 h)]
    · rw [decide_eq_false h, decide_eq_false (fun hr => h (h2.1 hr))]
  rw [this]
  exact Ev.now _
theorem ext_ev (l : List S31) (hv : l.all okp = true) (hn : l.length ≤ 500) (d : Nat) : ∀ (o b : List Int) (m : Int), o.length + d = l.length → ¬ o = [] → (∀ x ∈ o, 0 ≤ x ∧ x < (l.length : Int)) → OKb l b → (¬ b = [] → m = wy l b) →
    EvP (fun k => tour_ext.f k l o (wy l o) b m) (fun r => r.1 = srch l d o b ∧ (¬ r.1 = [] → r.2 = wy l r.1)) := by
  induction d with
  | zero =>
    intro o b m hl ho hr hb hm
    have h1 : 1 ≤ o.length := List.length_pos_iff.2 ho
    by_cases pr : ¬ b = [] ∧ m ≤ wy l o
    · refine EvP.stop (b, m) (fun k => ?_) ⟨(srch_prune l 0 o b ho pr.1 (by rw [← hm pr.1]; exact pr.2)).symm, hm⟩
      simp only [tour_ext.f]
      rw [if_pos h1, if_pos (by omega), if_pos pr]
    · refine EvP.stop (o, wy l o) (fun k => ?_) ⟨?_, fun _ => rfl⟩
      · simp only [tour_ext.f]
        rw [if_pos h1, if_pos (by omega), if_neg pr, if_pos (by omega)]
      · unfold srch
        rw [if_pos]
        by_cases hb0 : b = []
        · exact .inl hb0
        · right
          have e := hm hb0
          have h2 : ¬ m ≤ wy l o := fun h => pr ⟨hb0, h⟩
          omega
  | succ d ih =>
    intro o b m hl ho hr hb hm
    have h1 : 1 ≤ o.length := List.length_pos_iff.2 ho
    by_cases pr : ¬ b = [] ∧ m ≤ wy l o
    · refine EvP.stop (b, m) (fun k => ?_) ⟨(srch_prune l (d + 1) o b ho pr.1 (by rw [← hm pr.1]; exact pr.2)).symm, hm⟩
      simp only [tour_ext.f]
      rw [if_pos h1, if_pos (by omega), if_pos pr]
    · have loop : ∀ (e j : Nat) (bst : List Int) (mm : Int), j + e = l.length → OKb l bst → (¬ bst = [] → mm = wy l bst) →
          EvP (fun k => tour_ext.l0 k l o (wy l o) bst mm (j : Int)) (fun r => r.1 = ((List.range l.length).drop j).foldl (fun bst (i : Nat) => if (i : Int) ∈ o then bst else srch l d (o ++ [(i : Int)]) bst) bst ∧ (¬ r.1 = [] → r.2 = wy l r.1)) := by
        intro e
        induction e with
        | zero =>
          intro j bst mm hj hbst hmm
          rw [List.drop_eq_nil_of_le (by simp; omega)]
          exact EvP.stop (bst, mm) (fun k => by simp only [tour_ext.l0]; rw [if_neg (by omega)]) ⟨rfl, hmm⟩
        | succ e ihe =>
          intro j bst mm hj hbst hmm
          have hwj : wrap64 ((j : Int) + 1) = ((j + 1 : Nat) : Int) := by rw [wrap_mid _ (by omega) (by omega)]; omega
          have hla := hr _ (rd_mem (o := o) (i := (o.length : Int) - 1) (by omega) (by omega))
          have kl := ok_at hv _ hla.1 hla.2
          have kj := ok_at hv (j : Int) (by omega) (by omega)
          have hwd : wrap64 (wy l o + dst (rd_T31 l (rd o ((o.length : Int) - 1))) (rd_T31 l (j : Int))) = wy l (o ++ [(j : Int)]) := by
            rw [wy_snoc l (j : Int) o ho]
            have := wy_nonneg l o
            have := wy_le l hv o hr
            have := dst_nonneg (rd_T31 l (rd o ((o.length : Int) - 1))) (rd_T31 l (j : Int))
            have := dst_le kl kj
            exact wrap_mid _ (by omega) (by omega)
          rw [range_drop _ _ (by omega), List.foldl_cons]
          refine EvP.step (f := fun k => (slices_Contains_int_int.f k o (j : Int)).bind fun t => if t = true then tour_ext.l0 k l o (wy l o) bst mm ((j + 1 : Nat) : Int) else ((tour_ext.f k l (o ++ [(j : Int)]) (wy l (o ++ [(j : Int)])) bst mm).bind fun b2 => tour_ext.l0 k l o (wy l o) b2.1 b2.2 ((j + 1 : Nat) : Int))) (fun k => ?_) ?_
          · simp only [tour_ext.l0]
            rw [if_pos (by omega), if_pos (by omega), hwj, if_pos hla.1, if_pos hla.2, dist_eq kl kj]
            simp only [Option.bind_some]
            rw [hwd]
          · refine EvP.bind (contains_ev o (by omega) (j : Int)) ?_
            by_cases hin : (j : Int) ∈ o
            · simp only [decide_eq_true hin, if_true, if_pos hin]
              exact ihe (j + 1) bst mm (by omega) hbst hmm
            · simp only [decide_eq_false hin, Bool.false_eq_true, if_false, if_neg hin]
              have hro : ∀ x ∈ o ++ [(j : Int)], 0 ≤ x ∧ x < (l.length : Int) := fun x hx => by
                rcases List.mem_append.1 hx with hx | hx
                · exact hr x hx
                · rw [List.mem_singleton] at hx; omega
              refine EvP.bindP (ih (o ++ [(j : Int)]) bst mm (by simp; omega) (by simp) hro hbst hmm) (fun b2 hb2 => ?_)
              have := ihe (j + 1) b2.1 b2.2 (by omega) (by rw [hb2.1]; exact srch_ok l d _ _ (by simp; omega) hro hbst) hb2.2
              rw [hb2.1] at this
              rw [← hb2.1] at this ⊢
              exact this
      refine EvP.step (f := fun k => tour_ext.l0 k l o (wy l o) b m ((0 : Nat) : Int)) (fun k => ?_) ?_
      · simp only [tour_ext.f]
        rw [if_pos h1, if_pos (by omega), if_neg pr, if_neg (by omega)]
        rfl
      · have := loop l.length 0 b m (by omega) hb hm
        rw [List.drop_zero] at this
        exact this
theorem compl_range (l : List S31) (h : 1 ≤ l.length) : Compl l [0] ((List.range l.length).map (fun i : Nat => (i : Int))) := by
  refine ⟨⟨((List.range l.length).drop 1).map (fun i : Nat => (i : Int)), ?_⟩, by simp, ?_, fun x hx => ?_⟩
  · have := range_drop l.length 0 (by omega)
    rw [List.drop_zero] at this
    conv => lhs; rw [this]
    rfl
  · exact List.Pairwise.map _ (fun a b (hab : a ≠ b) => by omega) List.nodup_range
  · obtain ⟨i, hi, rfl⟩ := List.mem_map.1 hx
    have := List.mem_range.1 hi
    omega
/-- The order that Exact finds. -/
def exactO (l : List S31) : List Int := srch l (l.length - 1) [0] []
theorem exact_spec (l : List S31) (h : 1 ≤ l.length) : Compl l [0] (exactO l) ∧ ∀ q, Compl l [0] q → wy l (exactO l) ≤ wy l q := by
  obtain ⟨a, b, c⟩ := srch_spec l (l.length - 1) [0] [] (by simp; omega) (by simp) (by simp) (fun x hx => by rw [List.mem_singleton] at hx; omega)
  have h1 := c _ (compl_range l h)
  refine ⟨a.resolve_left (fun e => h1.1 e), fun q hq => (c q hq).2⟩
def exactE (l : List S31) : List Int × Int × Int := if chkE l 10 = 0 then (if l.length = 0 then ([], 0, 0) else (exactO l, wy l (exactO l), 0)) else ([], 0, chkE l 10)
theorem Exact_ev (l : List S31) (hn : l.length ≤ 500) : Ev (fun k => tour_Exact.f k l) (exactE l) ∧ Ev (fun k => swarfref38_Exact.f k l) (exactE l) := by
  unfold tour_Exact.f swarfref38_Exact.f exactE
  simp only [if_pos (show l.length < 1000 by omega)]
  by_cases hc : chkE l 10 = 0
  · obtain ⟨c1, c2⟩ := chkE_zero hc
    rw [if_pos hc]
    by_cases h0 : l.length = 0
    · rw [if_pos h0]
      refine ⟨Ev.bind (check_ev l 10 (by omega)) ?_, Ev.bind (rvalid_ev l 10 (by omega)) ?_⟩ <;> simp only [if_pos hc, if_pos (show (l.length : Int) = 0 by omega)] <;> exact Ev.now _
    · rw [if_neg h0]
      have hok : OKb l [] := ⟨fun x hx => (by cases hx), by simp⟩
      have hr0 : ∀ x ∈ [(0 : Int)], 0 ≤ x ∧ x < (l.length : Int) := fun x hx => by rw [List.mem_singleton] at hx; omega
      obtain ⟨sp, _⟩ := exact_spec l (by omega)
      have hlen := sp.2.1
      have hne : ¬ exactO l = [] := fun e => by rw [e] at hlen; simp at hlen; omega
      constructor
      · refine Ev.bind (check_ev l 10 (by omega)) ?_
        simp only [if_pos hc, if_neg (show ¬ (l.length : Int) = 0 by omega)]
        obtain ⟨r, h1, h2, h3⟩ := ext_ev l c2 hn (l.length - 1) [0] [] 0 (by simp; omega) (by simp) hr0 hok (fun h => absurd rfl h)
        have e : r = (exactO l, wy l (exactO l)) := by
          have e1 : r.1 = exactO l := h2
          have e2 := h3 (by rw [e1]; exact hne)
          rw [e1] at e2
          exact Prod.ext e1 e2
        have h1' : Ev (fun k => tour_ext.f k l [0] 0 [] 0) r := h1
        rw [e] at h1'
        exact Ev.bind h1' (Ev.now _)
      · refine Ev.bind (rvalid_ev l 10 (by omega)) ?_
        simp only [if_pos hc, if_neg (show ¬ (l.length : Int) = 0 by omega)]
        refine Ev.bind (rsearch_ev l c2 hn (l.length - 1) [0] [] (by simp; omega) hr0 hok) ?_
        exact Ev.bind (length_ev l c2 (exactO l) (by omega) sp.2.2.2).2 (Ev.now _)
  · rw [if_neg hc]
    refine ⟨Ev.bind (check_ev l 10 (by omega)) ?_, Ev.bind (rvalid_ev l 10 (by omega)) ?_⟩ <;> simp only [if_neg hc] <;> exact Ev.now _
end Go.Proofs.Ytohjocajaanhaaa.B

/- What Nearest answers, in the program and in the reference. Plain numbers and lists. -/

namespace Go.Proofs.Ytohjocajaanhaaa.B
open Go.RowKit Go.Proofs.Ytohjocajaanhaaa.P Go.Proofs.YtohjocajaanhaaaW.PrintWords Go.Proofs.YtohjocajaanhaaaW.PrintLast Go.Proofs.YtohjocajaanhaaaW.PrintMore
set_option linter.unusedVariables false
set_option linter.unusedSimpArgs false

/-- One look at a number, when the nearest one is sought. -/
def look (l : List S31) (out : List Int) (at_ : Int) (j : Nat) (b : Int) : Int := if (j : Int) ∈ out then b else if b < 0 then (j : Int) else if dst (rd_T31 l at_) (rd_T31 l (j : Int)) < dst (rd_T31 l at_) (rd_T31 l b) then (j : Int) else b
def nxF (l : List S31) (out : List Int) (at_ : Int) : Nat → Nat → Int → Int
  | 0, _, b => b
  | d + 1, j, b => nxF l out at_ d (j + 1) (look l out at_ j b)
theorem look_spec (l : List S31) (out : List Int) (at_ : Int) (j : Nat) (hj : j < l.length) (b : Int) (hb : b = -1 ∨ (0 ≤ b ∧ b < (l.length : Int) ∧ ¬ b ∈ out)) : (look l out at_ j b = -1 ∧ b = -1 ∧ (j : Int) ∈ out) ∨ (0 ≤ look l out at_ j b ∧ look l out at_ j b < (l.length : Int) ∧ ¬ look l out at_ j b ∈ out) := by
  unfold look
  by_cases h : (j : Int) ∈ out
  · rw [if_pos h]
    rcases hb with hb | hb
    · exact .inl ⟨hb, hb, h⟩
    · exact .inr hb
  · rw [if_neg h]
    by_cases h1 : b < 0
    · rw [if_pos h1]; exact .inr ⟨by omega, by omega, h⟩
    · rw [if_neg h1]
      split
      · exact .inr ⟨by omega, by omega, h⟩
      · exact .inr (hb.resolve_left (by omega))
theorem nx_spec (l : List S31) (out : List Int) (at_ : Int) (d : Nat) : ∀ (j : Nat) (b : Int), j + d = l.length → (b = -1 ∨ (0 ≤ b ∧ b < (l.length : Int) ∧ ¬ b ∈ out)) →
    (nxF l out at_ d j b = -1 ∧ b = -1 ∧ ∀ i : Nat, j ≤ i → i < l.length → (i : Int) ∈ out) ∨ (0 ≤ nxF l out at_ d j b ∧ nxF l out at_ d j b < (l.length : Int) ∧ ¬ nxF l out at_ d j b ∈ out) := by
  induction d with
  | zero =>
    intro j b hj hb
    unfold nxF
    rcases hb with hb | hb
    · exact .inl ⟨hb, hb, fun i h1 h2 => by omega⟩
    · exact .inr hb
  | succ d ih =>
    intro j b hj hb
    unfold nxF
    have hl := look_spec l out at_ j (by omega) b hb
    rcases ih (j + 1) (look l out at_ j b) (by omega) (by rcases hl with h | h; exact .inl h.1; exact .inr h) with ⟨h1, h2, h3⟩ | h
    · rcases hl with ⟨g1, g2, g3⟩ | g
      · refine .inl ⟨h1, g2, fun i hi hil => ?_⟩
        by_cases he : i = j
        · rw [he]; exact g3
        · exact h3 i (by omega) hil
      · omega
    · exact .inr h
/-- The next number of an order. -/
def pick (l : List S31) (out : List Int) : Int := if out = [] then 0 else nxF l out (rd out ((out.length : Int) - 1)) l.length 0 (-1)
def near (l : List S31) : Nat → List Int → List Int
  | 0, out => out
  | d + 1, out => near l d (out ++ [pick l out])
theorem pick_spec {l : List S31} {out : List Int} (hl : out.length < l.length) : 0 ≤ pick l out ∧ pick l out < (l.length : Int) ∧ ¬ pick l out ∈ out := by
  unfold pick
  by_cases h : out = []
  · rw [if_pos h, h]; exact ⟨by omega, by omega, by simp⟩
  · rw [if_neg h]
    rcases nx_spec l out (rd out ((out.length : Int) - 1)) l.length 0 (-1) (by omega) (.inl rfl) with ⟨h1, h2, h3⟩ | h
    · obtain ⟨x, hx, hn⟩ := some_out hl
      exact absurd (h3 x (by omega) hx) hn
    · exact h
theorem nodup_snoc {o : List Int} {x : Int} (hd : o.Nodup) (hx : ¬ x ∈ o) : (o ++ [x]).Nodup := by
  rw [List.nodup_append]
  refine ⟨hd, by simp, fun a ha b hb => ?_⟩
  rw [List.mem_singleton] at hb
  rintro rfl
  exact hx (hb ▸ ha)
theorem near_compl (l : List S31) (d : Nat) : ∀ out : List Int, out.length + d = l.length → out.Nodup → (∀ x ∈ out, 0 ≤ x ∧ x < (l.length : Int)) → Compl l out (near l d out) := by
  induction d with
  | zero => intro out hl hd hr; exact ⟨⟨[], by simp [near]⟩, hl, hd, hr⟩
  | succ d ih =>
    intro out hl hd hr
    have hp := pick_spec (l := l) (out := out) (by omega)
    unfold near
    exact (ih (out ++ [pick l out]) (by simp; omega) (nodup_snoc hd hp.2.2) (fun x hx => by
      rcases List.mem_append.1 hx with hx | hx
      · exact hr x hx
      · rw [List.mem_singleton] at hx; omega)).less
/-! ### The program -/
/-! ### The reference -/
theorem rnear_l1 {l : List S31} (hv : l.all okp = true) (hn : l.length ≤ 200) (out : List Int) (hol : out.length ≤ 200) (hr : ∀ x ∈ out, 0 ≤ x ∧ x < (l.length : Int)) (ho : ¬ out = []) (r : List Int) (d : Nat) :
    ∀ (j : Nat) (b : Int), j + d = l.length → (b = -1 ∨ (0 ≤ b ∧ b < (l.length : Int) ∧ ¬ b ∈ out)) → Ev (fun k => swarfref38_Nearest.l0 k l (out ++ [nxF l out (rd out ((out.length : Int) - 1)) d j b])) r → Ev (fun k => swarfref38_Nearest.l1 k l out b (j : Int)) r := by
  have h1 : 1 ≤ out.length := List.length_pos_iff.2 ho
  have hwl : wrap64 ((out.length : Int) - 1) = (out.length : Int) - 1 := wrap_mid _ (by omega) (by omega)
  induction d with
  | zero =>
    intro j b hj hb hrr
    refine Ev.step (fun k => ?_) hrr
    simp only [swarfref38_Nearest.l1]
    rw [if_neg (by omega), if_pos (by omega)]
    rfl
  | succ d ih =>
    intro j b hj hb hrr
    have hw : wrap64 ((j : Int) + 1) = ((j + 1 : Nat) : Int) := by rw [wrap_mid _ (by omega) (by omega)]; omega
    have hl := look_spec l out (rd out ((out.length : Int) - 1)) j (by omega) b hb
    have hla := hr _ (rd_mem (o := out) (i := (out.length : Int) - 1) (by omega) (by omega))
    have kl := ok_at hv _ hla.1 hla.2
    have kj := ok_at hv (j : Int) (by omega) (by omega)
    have hi := ih (j + 1) (look l out (rd out ((out.length : Int) - 1)) j b) (by omega) (by rcases hl with h | h; exact .inl h.1; exact .inr h) hrr
    refine Ev.step (f := fun k => (swarfref38_has.f k out (j : Int)).bind fun t => if t = true then swarfref38_Nearest.j2 k l out b (j : Int) true else swarfref38_Nearest.j2 k l out b (j : Int) false) (fun k => ?_) (Ev.bind (has_ev out (by omega) (j : Int)) ?_)
    · simp only [swarfref38_Nearest.l1]
      rw [if_pos (by omega), if_neg (by omega)]
    · unfold look at hi
      by_cases hin : (j : Int) ∈ out
      · rw [if_pos hin] at hi
        simp only [decide_eq_true hin, if_true]
        refine Ev.step (fun k => ?_) hi
        simp only [swarfref38_Nearest.j2]; rw [if_pos trivial, hw]
      · rw [if_neg hin] at hi
        simp only [decide_eq_false hin, Bool.false_eq_true, if_false]
        refine Ev.step (fun k => ?_) hi
        simp only [swarfref38_Nearest.j2]
        rw [if_neg (by decide), hw]
        by_cases hneg : b < 0
        · rw [if_pos hneg, if_pos hneg]
        · have hbb := hb.resolve_left (by omega)
          have kb := ok_at hv b hbb.1 hbb.2.1
          rw [if_neg hneg, if_neg hneg, hwl, if_pos (by omega), if_pos (by omega), if_pos hla.1, if_pos hla.2, if_pos (by omega), if_pos (by omega), ref_dist_eq kl kj]
          simp only [Option.bind_some]
          rw [if_pos hbb.1, if_pos hbb.2.1, ref_dist_eq kl kb]
          simp only [Option.bind_some]
          split <;> rfl
theorem rnear_first (l : List S31) (hn : l.length ≤ 200) (r : List Int) (hr : Ev (fun k => swarfref38_Nearest.l0 k l [0]) r) (d : Nat) : ∀ j : Nat, 1 ≤ j → j + d = l.length → Ev (fun k => swarfref38_Nearest.l1 k l [] 0 (j : Int)) r := by
  induction d with
  | zero =>
    intro j h1 hj
    refine Ev.step (fun k => ?_) hr
    simp only [swarfref38_Nearest.l1]
    rw [if_neg (by omega), if_pos (by simp)]
    rfl
  | succ d ih =>
    intro j h1 hj
    have hw : wrap64 ((j : Int) + 1) = ((j + 1 : Nat) : Int) := by rw [wrap_mid _ (by omega) (by omega)]; omega
    refine Ev.step (f := fun k => (swarfref38_has.f k [] (j : Int)).bind fun t => if t = true then swarfref38_Nearest.j2 k l [] 0 (j : Int) true else swarfref38_Nearest.j2 k l [] 0 (j : Int) true) (fun k => ?_) (Ev.bind (has_ev [] (by simp) (j : Int)) ?_)
    · simp only [swarfref38_Nearest.l1]
      rw [if_pos (by omega), if_pos (by rfl), decide_eq_true (by omega)]
    · simp only [decide_eq_false (show ¬ (j : Int) ∈ ([] : List Int) by simp), Bool.false_eq_true, if_false]
      refine Ev.step (fun k => ?_) (ih (j + 1) (by omega) (by omega))
      simp only [swarfref38_Nearest.j2]; rw [if_pos trivial, hw]
theorem rnear_l0 {l : List S31} (hv : l.all okp = true) (hn : l.length ≤ 200) (d : Nat) : ∀ (out : List Int), out.length + d = l.length → out.Nodup → (∀ x ∈ out, 0 ≤ x ∧ x < (l.length : Int)) → Ev (fun k => swarfref38_Nearest.l0 k l out) (near l d out) := by
  induction d with
  | zero =>
    intro out hl hd hr
    refine ev_end (fun k => ?_)
    simp only [swarfref38_Nearest.l0]; rw [if_neg (by omega)]; rfl
  | succ d ih =>
    intro out hl hd hr
    have hp := pick_spec (l := l) (out := out) (by omega)
    have hi := ih (out ++ [pick l out]) (by simp; omega) (nodup_snoc hd hp.2.2) (fun x hx => by
      rcases List.mem_append.1 hx with hx | hx
      · exact hr x hx
      · rw [List.mem_singleton] at hx; omega)
    refine Ev.step (f := fun k => swarfref38_Nearest.l1 k l out (-1) ((0 : Nat) : Int)) (fun k => ?_) ?_
    · simp only [swarfref38_Nearest.l0]; rw [if_pos (by omega)]; rfl
    · by_cases ho : out = []
      · subst ho
        have hpk : pick l [] = 0 := by unfold pick; rw [if_pos rfl]
        unfold near
        rw [hpk] at hi ⊢
        refine Ev.step (f := fun k => (swarfref38_has.f k [] ((0 : Nat) : Int)).bind fun t => if t = true then swarfref38_Nearest.j2 k l [] (-1) ((0 : Nat) : Int) true else swarfref38_Nearest.j2 k l [] (-1) ((0 : Nat) : Int) false) (fun k => ?_) (Ev.bind (has_ev [] (by simp) ((0 : Nat) : Int)) ?_)
        · simp only [swarfref38_Nearest.l1]
          rw [if_pos (by simp at hl; omega), if_pos (by rfl), decide_eq_false (by omega)]
        · simp only [decide_eq_false (show ¬ ((0 : Nat) : Int) ∈ ([] : List Int) by simp), Bool.false_eq_true, if_false]
          refine Ev.step (fun k => ?_) (rnear_first l hn _ hi (l.length - 1) 1 (by omega) (by simp at hl; omega))
          simp only [swarfref38_Nearest.j2]; rw [if_neg (by decide), if_pos (by omega), show wrap64 (((0 : Nat) : Int) + 1) = ((1 : Nat) : Int) from wrap_mid _ (by omega) (by omega)]; rfl
      · refine rnear_l1 hv hn out (by omega) hr ho _ l.length 0 (-1) (by omega) (.inl rfl) ?_
        have : pick l out = nxF l out (rd out ((out.length : Int) - 1)) l.length 0 (-1) := by unfold pick; rw [if_neg ho]
        rw [← this]
        exact hi
theorem rNearest_ev {l : List S31} (hv : l.all okp = true) (hn : l.length ≤ 200) : Ev (fun k => swarfref38_Nearest.f k l) (near l l.length []) := by
  unfold swarfref38_Nearest.f
  exact rnear_l0 hv hn l.length [] (by simp) (by simp) (fun x hx => by cases hx)
/-! ### It is an order -/
theorem ordS_of (n : Nat) (xs : List Int) : ∀ seen : List Bool, seen.length = n → (∀ x ∈ xs, 0 ≤ x ∧ x < (n : Int) ∧ rdOf false seen x = false) → xs.Nodup → ordS n seen xs = true := by
  induction xs with
  | nil => intro seen _ _ _; rfl
  | cons x xs ih =>
    intro seen hs h hd
    obtain ⟨a, b, c⟩ := h x List.mem_cons_self
    unfold ordS
    rw [if_neg (by omega), if_neg (by omega), if_neg (by rw [c]; decide)]
    refine ih _ (by simp [hs]) (fun y hy => ?_) (List.nodup_cons.1 hd).2
    obtain ⟨a', b', c'⟩ := h y (List.mem_cons_of_mem _ hy)
    refine ⟨a', b', ?_⟩
    rw [rdOf_set seen x y a (by omega) a', if_neg ?_]
    · exact c'
    · rintro rfl
      exact (List.nodup_cons.1 hd).1 hy
theorem isOrd_of {n : Nat} {o : List Int} (h1 : o.length = n) (h2 : n = 0 ∨ rd o 0 = 0) (h3 : ∀ x ∈ o, 0 ≤ x ∧ x < (n : Int)) (h4 : o.Nodup) : isOrd n o = true := by
  unfold isOrd
  rw [if_pos h1, if_pos h2]
  refine ordS_of n o _ (by simp) (fun x hx => ⟨(h3 x hx).1, (h3 x hx).2, ?_⟩) h4
  unfold rdOf
  rw [List.getD_eq_getElem?_getD, List.getElem?_replicate]
  split <;> rfl
theorem compl_ord {l : List S31} {q : List Int} (h : Compl l [0] q) : isOrd l.length q = true := by
  obtain ⟨⟨t, ht⟩, h2, h3, h4⟩ := h
  refine isOrd_of h2 (.inr ?_) h4 h3
  rw [ht]; rfl
theorem near_first (l : List S31) (h : 1 ≤ l.length) : Compl l [0] (near l l.length []) := by
  have hn : l.length = (l.length - 1) + 1 := by omega
  have e : near l l.length [] = near l (l.length - 1) [0] := by
    have hp : pick l [] = 0 := by unfold pick; rw [if_pos rfl]
    have h1 : ∀ d, near l (d + 1) [] = near l d [0] := fun d => by
      show near l d ([] ++ [pick l []]) = _
      rw [hp]; rfl
    conv => lhs; rw [hn]
    exact h1 _
  rw [e]
  exact near_compl l (l.length - 1) [0] (by simp; omega) (by simp) (fun x hx => by rw [List.mem_singleton] at hx; omega)
theorem near_ord (l : List S31) : isOrd l.length (near l l.length []) = true := by
  by_cases h : l.length = 0
  · rw [h]; rfl
  · exact compl_ord (near_first l (by omega))
end Go.Proofs.Ytohjocajaanhaaa.B

-- PRINTED by print.py (a twelfth state) out of the translation. Not trusted: Lean checks it.

namespace Go.Proofs.Ytohjocajaanhaaa.P
open Go.RowKit Go.Proofs.YtohjocajaanhaaaW.PrintWords Go.Proofs.YtohjocajaanhaaaW.PrintLast Go.Proofs.YtohjocajaanhaaaW.PrintMore
attribute [local go_sem] max2_int min2_int max_two min_two max_three min_three max_four min_four   -- for this text's walks alone
set_option linter.unusedVariables false
set_option linter.unusedSimpArgs false

/-! ### swarfref38_Reversed: function 44 -/
def swarfref38_Reversed.l0 : Nat → Int → Int → List Int → Option (List Int)
 | 0, _, _, _ => none
 | k + 1, x1, x2, x7 => if x1 < x2 then (if 0 ≤ x2 then (if x2 < (x7.length : Int) then (if 0 ≤ x1 then (if x1 < (x7.length : Int) then (swarfref38_Reversed.l0 k (wrap64 (x1 + 1)) (wrap64 (x2 - 1)) ((x7.set (x1 : Int).toNat (rd x7 x2)).set (x2 : Int).toNat (rd x7 x1))) else (none)) else (none)) else (none)) else (none)) else (some x7)
def swarfref38_Reversed.f (k : Nat) (l0 : List Int) (a1 : Int) (a2 : Int) : Option (List Int) := (some (([] : List Int) : List Int)).bind fun y353 => (if y353.length + l0.length < 17592186044416 then (swarfref38_Reversed.l0 k a1 a2 (y353 ++ l0)) else (none))
theorem swarfref38_Reversed.mono_l : ∀ k, (∀ y0 y1 y2, LeO (swarfref38_Reversed.l0 k y0 y1 y2) (swarfref38_Reversed.l0 (k + 1) y0 y1 y2))
 | 0 => fun _ _ _ r h => by simp [swarfref38_Reversed.l0] at h
 | k + 1 => by
  have ih0 := swarfref38_Reversed.mono_l k
  ·intro y0 y1 y2
   unfold swarfref38_Reversed.l0
   repeat' first
   | (with_reducible exact ih0 _ _ _)
   | (with_reducible exact LeO.refl _)
   | (with_reducible exact LeO.none _)
   | (with_reducible refine LeO.ite ?_ ?_)
   | (with_reducible refine LeO.bind ?_ (fun _ => ?_))
   | exact ih0 _ _ _
   | exact LeO.none _
   | refine LeO.ite ?_ ?_
   | refine LeO.bind ?_ (fun _ => ?_)
theorem swarfref38_Reversed.mono : ∀ a0 a1 a2 k, LeO (swarfref38_Reversed.f k a0 a1 a2) (swarfref38_Reversed.f (k + 1) a0 a1 a2) := by
 intro a0 a1 a2 k
 have ih0 := swarfref38_Reversed.mono_l k
 unfold swarfref38_Reversed.f
 repeat' first
   | (with_reducible exact ih0 _ _ _)
   | (with_reducible exact LeO.refl _)
   | (with_reducible exact LeO.none _)
   | (with_reducible refine LeO.ite ?_ ?_)
   | (with_reducible refine LeO.bind ?_ (fun _ => ?_))
   | exact ih0 _ _ _
   | exact LeO.none _
   | refine LeO.ite ?_ ?_
   | refine LeO.bind ?_ (fun _ => ?_)
def swarfref38_Reversed.T3 : Bool × List (List Nat × List Nat) := (true, [([], []), ([], []), ([], []), ([], []), ([], []), ([], []), ([4, 5], [4, 5]), ([6], [6]), ([], []), ([], []), ([8, 9], [8, 9]), ([10], [10]), ([0, 1, 0, 1, 4, 5, 6, 7, 11], [0, 1]), ([12, 7, 0, 1, 4, 5, 6, 7, 11], [7, 12]), ([2, 3, 0, 1, 2, 3, 4, 5, 6, 7, 8, 9, 10, 11, 12, 13], [2, 3]), ([14, 11, 13, 0, 1, 2, 3, 4, 5, 6, 7, 8, 9, 10, 11, 12, 13], [11, 14])])
def swarfref38_Reversed.B3 : List Nat := [0, 0, 0, 0, 0, 0, 48, 112, 0, 0, 768, 1792, 4083, 8179, 16383, 32767]
theorem swarfref38_Reversed.tab3 : rtab .any (opsOf Try.f44 3) = swarfref38_Reversed.T3 := by kernel_rfl
theorem swarfref38_Reversed.bits3 : waitsOk swarfref38_Reversed.T3.2 swarfref38_Reversed.B3 = true := by kernel_rfl
set_option maxHeartbeats 8000000 in
set_option maxRecDepth 100000 in
theorem swarfref38_Reversed.calls (k : Nat) (A0 : Option Addr) (c0 : Nat) (l0 : List Int) (a1 : Int) (a2 : Int) (r : List Int) (w : World) (hr0 : Kd.C (Kd.int .i64) w A0 l0.length l0) (hc0 : l0.length ≤ c0) (h : swarfref38_Reversed.f k l0 a1 a2 = some r) :
  Calls Try.prog 44 #[.slice A0 l0.length c0, .int .i64 a1, .int .i64 a2] w fun e w' => ∃ v0_ : Value, e = .returned (v0_) ∧ Kd.R (Kd.int .i64) 3 w' w.heap.size (fun _ => True) v0_ r ∧ Below w.heap.size w w' := by
 have HR0 := Aside0.mk hr0
 have HC0 := Aside0.mk hc0
 clear hr0 hc0
 have HB := Aside0.mk (Below.refl w.heap.size w)
 have H : ((some (([] : List Int) : List Int)).bind fun y353 => (if y353.length + l0.length < 17592186044416 then (swarfref38_Reversed.l0 k a1 a2 (y353 ++ l0)) else (none))) = some r := h
 clear h
 obtain ⟨y353, hy353⟩ : ∃ y_ : List Int, y_ = (([] : List Int)) := ⟨_, rfl⟩
 replace H : (if y353.length + l0.length < 17592186044416 then (swarfref38_Reversed.l0 k a1 a2 (y353 ++ l0)) else (none)) = some r := by first | (rw [hy353]; with_reducible exact H) | (have H2_ := (Option.bind_some _ _).symm.trans H; rw [hy353]; with_reducible exact H2_) | (have H2_ := (Option.bind_some _ _).symm.trans H; with_reducible exact H2_) | with_reducible exact H | (rw [hy353]; exact H) | exact H
 have Ny353 := Aside0.mk hy353
 clear hy353
 by_cases c4 : y353.length + l0.length < 17592186044416
 ·rw [if_pos c4] at H; have LMc4 := Aside0.mk c4; clear c4
  obtain ⟨y356, hy356⟩ : ∃ y_ : List Int, y_ = (y353 ++ l0) := ⟨_, rfl⟩
  replace H : (swarfref38_Reversed.l0 k a1 a2 y356) = some r := by first | (rw [hy356]; with_reducible exact H) | (have H2_ := (Option.bind_some _ _).symm.trans H; rw [hy356]; with_reducible exact H2_) | (have H2_ := (Option.bind_some _ _).symm.trans H; with_reducible exact H2_) | with_reducible exact H | (rw [hy356]; exact H) | exact H
  have Ny356 := Aside0.mk hy356; clear hy356; have H' := Aside0.mk H; clear H
  go_enter Try.func44, Try.ntmps44
  go_wp2_with (first | ((with_reducible refine gate_dst (N := 8) rfl ?_); refine Kd.R_lit (Kd.int .i64) _ 3 ?hg (N := 8) ?hd (xs := ([] : List Int)) (inner := []) (ok := fun _ => True) (okp := fun _ => True) ?hr ?hp (fun _ hk => hk) trivial (Below.refl _ _) (Nat.le_refl _) (by simp) ?_; (case hd => rfl); (case hg => rfl); (case hr => first | (go_simp; done) | (go_simp; rfl)); (case hp => exact (Reps.none _ _)); intro v354 w5 ho6 hb hg_ hnew_; clear hg_ hnew_; (first | rw [← Ny353.out] at ho6 | (simp only [Int.reduceToNat] at ho6; rw [← Ny353.out] at ho6)); have n0_ := Aside0.mk (Kd.R_lower ho6 (below_size (by repeat (first | (with_reducible first | exact HB.out | apply below_alloc | apply pw_below_drewN | apply below_drew1) | exact HB.out)))); have n1_ := Aside0.mk (below_step (by repeat (first | (with_reducible first | exact HB.out | apply below_alloc | apply pw_below_drewN | apply below_drew1) | exact HB.out)) hb); clear HB; have HO355 := n0_; have HB := n1_; clear n0_ n1_; clear hb ho6) | ((with_reducible refine gate_builtin (b := .append) (xs := #[.tmp 8, .tmp 9]) rfl ?_); at_builtin; refine Kd.R_append_rows (Kd.int .i64) (w0 := w) w.heap.size rfl (.tmp 8) (.tmp 9) 23 3 (.int .i64 0) 8 rfl Try.underlying23 info3 rfl (by decide) (by omega) v354 y353 l0 _ _ _ (fun _ => True) (fun _ => False) rfl rfl ?aO ?aR (fun _ _ h => h) (fun _ h => h.elim) ?aF ?aB ?aS ?aL ?_; (case aR => repeat (first | exact (Kd.C_below HR0.out HB.out) | (with_reducible refine Kd.C_alloc ?_ _) | (with_reducible refine Kd.C_drewN ?_ _) | (with_reducible refine Kd.C_drew ?_))); (case aB => exact (by repeat (first | (with_reducible first | exact HB.out | apply below_alloc | apply pw_below_drewN | apply below_drew1) | exact HB.out))); (case aF => exact (fun _ _ => trivial)); (case aO => exact (by (with_reducible repeat (first | apply Kd.R_alloc | apply Kd.R_drewN | apply Kd.R_drew)); exact HO355.out)); (case aS => exact (below_size (by repeat (first | (with_reducible first | exact HB.out | apply below_alloc | apply pw_below_drewN | apply below_drew1) | exact HB.out)))); (case aL => have := LMc4.out; omega); intro v357 w7 ho hb hg hat; rw [← Ny356.out] at ho; have n0_ := Aside0.mk (hb); have n1_ := Aside0.mk (ho); clear HB; clear HO355; have HB := n0_; have HO358 := n1_; clear n0_ n1_; clear ho hb hg hat))
  go_loopg [1, 2] k (fun kq v1 v2 w' => ∃ (x1_1 : Int) (x2_1 : Int) (x7_1 : List Int), v1 = .int .i64 x1_1 ∧ v2 = .int .i64 x2_1 ∧ Aside0 (swarfref38_Reversed.l0 kq x1_1 x2_1 x7_1 = some r) ∧ Aside0 (kq ≤ k) ∧ Aside0 (Kd.R (Kd.int .i64) 3 w' w.heap.size (fun _ => True) v357 x7_1) ∧ Aside0 (Below w.heap.size w w'))
  case atStart => exact ⟨(a1), (a2), (y356), (by first | rfl | (simp; done) | (simp [*]; done)), (by first | rfl | (simp; done) | (simp [*]; done)), H', ⟨Nat.le_refl _⟩, ⟨by (with_reducible repeat (first | apply Kd.R_alloc | apply Kd.R_drewN | apply Kd.R_drew)); exact HO358.out⟩, ⟨by repeat (first | (with_reducible first | exact HB.out | apply below_alloc | apply pw_below_drewN | apply below_drew1) | exact HB.out)⟩⟩
  case round =>
   clear H'; try clear p2; try clear c4
   obtain ⟨x1_1, x2_1, x7_1, rfl, rfl, HA, HK1, HO_7, HB⟩ := hrel
   cases gk with
   | zero => exact absurd HA.out (by simp [swarfref38_Reversed.l0])
   | succ k1 =>
    have H := HA.out
    clear HA
    simp only [swarfref38_Reversed.l0] at H
    by_cases c8 : x1_1 < x2_1
    ·rw [if_pos c8] at H
     have c8b0 : decide (x1_1 < x2_1) = true := decide_eq_true c8
     clear c8
     by_cases c9 : 0 ≤ x2_1
     ·rw [if_pos c9] at H
      have c9b0 : decide (0 ≤ x2_1) = true := decide_eq_true c9
      clear c9
      by_cases c10 : x2_1 < (x7_1.length : Int)
      ·rw [if_pos c10] at H
       have c10b0 : decide (x2_1 < (x7_1.length : Int)) = true := decide_eq_true c10
       clear c10
       by_cases c11 : 0 ≤ x1_1
       ·rw [if_pos c11] at H
        have c11b0 : decide (0 ≤ x1_1) = true := decide_eq_true c11
        clear c11
        by_cases c12 : x1_1 < (x7_1.length : Int)
        ·rw [if_pos c12] at H
         have c12b0 : decide (x1_1 < (x7_1.length : Int)) = true := decide_eq_true c12
         clear c12
         obtain ⟨y361, hy361⟩ : ∃ y_ : List Int, y_ = (x7_1.set (x1_1 : Int).toNat (rd x7_1 x2_1)) := ⟨_, rfl⟩
         replace H : (swarfref38_Reversed.l0 k1 (wrap64 (x1_1 + 1)) (wrap64 (x2_1 - 1)) (y361.set (x2_1 : Int).toNat (rd x7_1 x1_1))) = some r := by first | (rw [hy361]; with_reducible exact H) | (have H2_ := (Option.bind_some _ _).symm.trans H; rw [hy361]; with_reducible exact H2_) | (have H2_ := (Option.bind_some _ _).symm.trans H; with_reducible exact H2_) | with_reducible exact H | (rw [hy361]; exact H) | exact H
         have Ny361 := Aside0.mk hy361; clear hy361
         obtain ⟨y362, hy362⟩ : ∃ y_ : List Int, y_ = (y361.set (x2_1 : Int).toNat (rd x7_1 x1_1)) := ⟨_, rfl⟩
         replace H : (swarfref38_Reversed.l0 k1 (wrap64 (x1_1 + 1)) (wrap64 (x2_1 - 1)) y362) = some r := by first | (rw [hy362]; with_reducible exact H) | (have H2_ := (Option.bind_some _ _).symm.trans H; rw [hy362]; with_reducible exact H2_) | (have H2_ := (Option.bind_some _ _).symm.trans H; with_reducible exact H2_) | with_reducible exact H | (rw [hy362]; exact H) | exact H
         have Ny362 := Aside0.mk hy362; clear hy362; have H' := Aside0.mk H; clear H
         try go_wp2
         have n0_ := Aside0.mk (Kd.R_drew HO_7.out)
         have n1_ := Aside0.mk (below_drew1 HB.out)
         clear HO_7; clear HB; have HO_7 := n0_; have HB := n1_; clear n0_ n1_
         obtain ⟨Ao16, co16, eo16⟩ := Kd.R_slice HO_7.out
         (first | subst eo16 | (injection eo16 with f1_ f2_ f3_; have f4_ := f1_.symm; have f5_ := f3_.symm; clear f1_ f2_ f3_; subst f4_; subst f5_))
         have p359 : 0 ≤ (x2_1 : Int) := of_decide_eq_true (by first | (with_reducible assumption) | assumption)
         have q359 : x2_1 < (x7_1.length : Int) := of_decide_eq_true (by first | (with_reducible assumption) | assumption)
         obtain ⟨ad359, e359, hx359_0⟩ := Kd.at_int (Kd.R_reads' HO_7.out).2.2 x2_1 p359 q359
         cases e359; replace p359 := eq_true p359; replace q359 := eq_true q359
         have p360 : 0 ≤ (x1_1 : Int) := of_decide_eq_true (by first | (with_reducible assumption) | assumption)
         have q360 : x1_1 < (x7_1.length : Int) := of_decide_eq_true (by first | (with_reducible assumption) | assumption)
         obtain ⟨ad360, e360, hx360_0⟩ := Kd.at_int (Kd.R_reads' HO_7.out).2.2 x1_1 p360 q360
         obtain rfl : ad359 = ad360 := (by injection e360)
         replace p360 := eq_true p360; replace q360 := eq_true q360
         have p13 : 0 ≤ (x1_1 : Int) := of_decide_eq_true (by first | (with_reducible assumption) | assumption)
         have q13 : (x1_1 : Int) < ((x7_1.length : Int) : Int) := of_decide_eq_true (by first | (with_reducible assumption) | assumption)
         obtain ⟨go13, co13, eo13, gb13, gl13, cl13, HG13⟩ := Kd.R_form HO_7.out (by omega)
         (first | cases eo13 | (injection eo13 with ea_ en_ ec_; (first | subst ea_ | (injection ea_ with ea_; subst ea_)); subst ec_; clear en_))
         have GB13 := Aside0.mk gb13; have GG13 := Aside0.mk HG13; clear gb13 gl13 HG13
         (first | simp only [add_plain] at hx359_0 | skip)
         (first | simp only [add_plain] at hx360_0 | skip)
         obtain ⟨hx13_0, hf13_0⟩ := Kd.R_celln 0 HO_7.out (x1_1 : Int) p13 q13
         replace p13 := eq_true p13; replace q13 := eq_true q13
         have HP17 := Kd.R_putn HO_7.out (x1_1 : Int) (rd x7_1 x2_1)
         rw [← Ny361.out] at HP17; have HQ17 := Aside0.mk HP17; clear HP17
         have p14 : 0 ≤ (x2_1 : Int) := of_decide_eq_true (by first | (with_reducible assumption) | assumption)
         have q14 : (x2_1 : Int) < ((x7_1.length : Int) : Int) := of_decide_eq_true (by first | (with_reducible assumption) | assumption)
         obtain ⟨hx14_0, hf14_0⟩ := Kd.R_celln 0 HQ17.out (x2_1 : Int) p14 q14
         replace p14 := eq_true p14; replace q14 := eq_true q14
         have HP18 := Kd.R_putn HQ17.out (x2_1 : Int) (rd x7_1 x1_1)
         rw [← Ny362.out] at HP18; have HQ18 := Aside0.mk HP18; clear HP18
         refine start_ (n := 16) (S := fun w' => w'.cell? ⟨go13, (x2_1).toNat, none⟩ = some (.int .i64 (rd x7_1 x2_1)) ∧ w'.cell? ⟨go13, (x1_1).toNat, none⟩ = some (.int .i64 (rd x7_1 x1_1))) (ds := [13, 15]) #[false, false, false, false, false, false, false, false, false, false, false, false, false, false, false, false] (by kernel_rfl) rfl rfl ⟨hx359_0, hx360_0⟩ (fun hHeld => ?_); refine with_tabW swarfref38_Reversed.tab3 swarfref38_Reversed.bits3 (fun HT_ HW_ => ?_)
         generalize wr.drew = w15 at HO_7 HB GG13 HQ17 HQ18 hf13_0 hf14_0 hx13_0 hx14_0 hx359_0 hx360_0 hHeld ⊢
         refine pure_ (i := 0) (N := some 14) (v := ?_) (a' := ?_) #[true, false, false, false, false, false, false, false, false, false, false, false, false, false, false, false] rfl rfl (any_of HT_.out (by kernel_rfl)) (fun _ _ _ h => h) (Or.inl ⟨by rfl, ?_⟩) ?_ ?_
         rotate_left; ·intro w'; go_simp; with_reducible rfl
         rotate_left; ·simp only [Act.put, sA_, sZ_, sS_, i64_w, i32_w]; rfl
         refine pure_ (i := 1) (N := some 15) (v := ?_) (a' := ?_) #[true, true, false, false, false, false, false, false, false, false, false, false, false, false, false, false] rfl rfl (any_of HT_.out (by kernel_rfl)) (fun _ _ _ h => h) (Or.inl ⟨by rfl, ?_⟩) ?_ ?_
         rotate_left; ·intro w'; go_simp; with_reducible rfl
         rotate_left; ·simp only [Act.put, sA_, sZ_, sS_, i64_w, i32_w]; rfl
         refine pure_ (i := 2) (N := some 16) (v := ?_) (a' := ?_) #[true, true, true, false, false, false, false, false, false, false, false, false, false, false, false, false] rfl rfl (any_of HT_.out (by kernel_rfl)) (fun _ _ _ h => h) (Or.inl ⟨by rfl, ?_⟩) ?_ ?_
         rotate_left; ·intro w'; go_simp; with_reducible rfl
         rotate_left; ·simp only [Act.put, sA_, sZ_, sS_, i64_w, i32_w]; rfl
         refine pure_ (i := 3) (N := some 17) (v := ?_) (a' := ?_) #[true, true, true, true, false, false, false, false, false, false, false, false, false, false, false, false] rfl rfl (any_of HT_.out (by kernel_rfl)) (fun _ _ _ h => h) (Or.inl ⟨by rfl, ?_⟩) ?_ ?_
         rotate_left; ·intro w'; go_simp; with_reducible rfl
         rotate_left; ·simp only [Act.put, sA_, sZ_, sS_, i64_w, i32_w]; rfl
         refine pure_ (i := 4) (N := some 18) (v := ?_) (a' := ?_) #[true, true, true, true, true, false, false, false, false, false, false, false, false, false, false, false] rfl rfl (any_of HT_.out (by kernel_rfl)) (fun _ _ _ h => h) (Or.inl ⟨by rfl, ?_⟩) ?_ ?_
         rotate_left; ·intro w'; go_simp; with_reducible rfl
         rotate_left; ·simp only [Act.put, sA_, sZ_, sS_, i64_w, i32_w]; rfl
         refine pure_ (i := 5) (N := some 19) (v := ?_) (a' := ?_) #[true, true, true, true, true, true, false, false, false, false, false, false, false, false, false, false] rfl rfl (any_of HT_.out (by kernel_rfl)) (fun _ _ _ h => h) (Or.inl ⟨by rfl, ?_⟩) ?_ ?_
         rotate_left; ·intro w'; go_simp; with_reducible rfl
         rotate_left; ·simp only [Act.put, sA_, sZ_, sS_, i64_w, i32_w]; rfl
         refine pure_ (i := 6) (N := some 20) (v := ?_) (a' := ?_) #[true, true, true, true, true, true, true, false, false, false, false, false, false, false, false, false] rfl rfl (any_of HT_.out (by kernel_rfl)) (fun _ _ _ h => h) (Or.inl ⟨by rfl, ?_⟩) ?_ ?_
         rotate_left; ·intro w'; go_simp; with_reducible rfl
         rotate_left; ·simp only [Act.put, sA_, sZ_, sS_, i64_w, i32_w]; rfl
         refine pure_ (i := 8) (N := some 22) (v := ?_) (a' := ?_) #[true, true, true, true, true, true, true, false, true, false, false, false, false, false, false, false] rfl rfl (any_of HT_.out (by kernel_rfl)) (fun _ _ _ h => h) (Or.inl ⟨by rfl, ?_⟩) ?_ ?_
         rotate_left; ·intro w'; go_simp; with_reducible rfl
         rotate_left; ·simp only [Act.put, sA_, sZ_, sS_, i64_w, i32_w]; rfl
         refine pure_ (i := 9) (N := some 23) (v := ?_) (a' := ?_) #[true, true, true, true, true, true, true, false, true, true, false, false, false, false, false, false] rfl rfl (any_of HT_.out (by kernel_rfl)) (fun _ _ _ h => h) (Or.inl ⟨by rfl, ?_⟩) ?_ ?_
         rotate_left; ·intro w'; go_simp; with_reducible rfl
         rotate_left; ·simp only [Act.put, sA_, sZ_, sS_, i64_w, i32_w]; rfl
         refine pure_ (i := 10) (N := some 24) (v := ?_) (a' := ?_) #[true, true, true, true, true, true, true, false, true, true, true, false, false, false, false, false] rfl rfl (any_of HT_.out (by kernel_rfl)) (fun _ _ _ h => h) (Or.inl ⟨by rfl, ?_⟩) ?_ ?_
         rotate_left; ·intro w'; go_simp; with_reducible rfl
         rotate_left; ·simp only [Act.put, sA_, sZ_, sS_, i64_w, i32_w]; rfl
         refine take_ (i := 7) (N := some 21) (v := ?_) (a' := ?_) #[true, true, true, true, true, true, true, true, true, true, true, false, false, false, false, false] rfl rfl (take_ofW HT_.out HW_.out (by kernel_rfl)) (fun _ _ _ h => h) (Or.inl ⟨by rfl, ?_⟩) hHeld ?_ ?_
         rotate_left
         ·rintro w' ⟨s0, s1⟩; go_simp; with_reducible rfl
         rotate_left; ·simp only [Act.put, sA_, sZ_, sS_, i64_w, i32_w]; rfl
         refine take_ (i := 11) (N := some 25) (v := ?_) (a' := ?_) #[true, true, true, true, true, true, true, true, true, true, true, true, false, false, false, false] rfl rfl (take_ofW HT_.out HW_.out (by kernel_rfl)) (fun _ _ _ h => h) (Or.inl ⟨by rfl, ?_⟩) hHeld ?_ ?_
         rotate_left
         ·rintro w' ⟨s0, s1⟩; go_simp; with_reducible rfl
         rotate_left; ·simp only [Act.put, sA_, sZ_, sS_, i64_w, i32_w]; rfl
         refine pure_ (i := 12) (N := some 26) (v := ?_) (a' := ?_) #[true, true, true, true, true, true, true, true, true, true, true, true, true, false, false, false] rfl rfl (any_of HT_.out (by kernel_rfl)) (fun _ _ _ h => h) (Or.inl ⟨by rfl, ?_⟩) ?_ ?_
         rotate_left; ·intro w'; go_simp; with_reducible rfl
         rotate_left; ·simp only [Act.put, sA_, sZ_, sS_, i64_w, i32_w]; rfl
         refine last_ (i := 13) (N := none) #[true, true, true, true, true, true, true, true, true, true, true, true, true, true, false, false] rfl rfl (one_of HT_.out (by kernel_rfl)) (by decide) (fun K hK => ?_)
         refine skip_ (w1 := ?_) (by rfl) rfl ?_ ?_
         rotate_left; ·go_simp; rfl
         refine hK.out _ _ ?_
         clear hK K
         refine pure_ (i := 14) (N := some 27) (v := ?_) (a' := ?_) #[true, true, true, true, true, true, true, true, true, true, true, true, true, true, true, false] rfl rfl (any_of HT_.out (by kernel_rfl)) (fun _ _ _ h => h) (Or.inl ⟨by rfl, ?_⟩) ?_ ?_
         rotate_left; ·intro w'; go_simp; with_reducible rfl
         rotate_left; ·simp only [Act.put, sA_, sZ_, sS_, i64_w, i32_w]; rfl
         refine last_ (i := 15) (N := none) #[true, true, true, true, true, true, true, true, true, true, true, true, true, true, true, true] rfl rfl (one_of HT_.out (by kernel_rfl)) (by decide) (fun K hK => ?_)
         refine skip_ (w1 := ?_) (by rfl) rfl ?_ ?_
         rotate_left; ·go_simp; rfl
         refine hK.out _ _ ?_
         clear hK K
         refine done_ (done_of HT_.out (by kernel_rfl)) ?_
         try go_wp2
         go_roundg k1
         case measure => have := HK1.out; omega
         case rel => exact ⟨(wrap64 (x1_1 + 1)), (wrap64 (x2_1 - 1)), (y362), (by first | rfl | (simp; done) | (simp [*]; done)), (by first | rfl | (simp; done) | (simp [*]; done)), H', ⟨by have := HK1.out; omega⟩, ⟨by (with_reducible repeat (first | apply Kd.R_alloc | apply Kd.R_drewN | apply Kd.R_drew)); exact HQ18.out⟩, ⟨by repeat (first | (with_reducible first | exact HB.out | apply below_alloc | apply pw_below_drewN | apply below_drew1 | refine below_set ?_ GB13.out | refine below_set ?_ GB13.out) | exact HB.out)⟩⟩
        ·rw [if_neg c12] at H
         exact absurd H (by simp)
       ·rw [if_neg c11] at H
        exact absurd H (by simp)
      ·rw [if_neg c10] at H
       exact absurd H (by simp)
     ·rw [if_neg c9] at H
      exact absurd H (by simp)
    ·rw [if_neg c8] at H
     have c8b0 : decide (x1_1 < x2_1) = false := decide_eq_false c8
     clear c8; obtain rfl := Option.some.inj H; go_wp2; go_ret
     exact ⟨_, by first | rfl | (simp [errW_none, errW_some] <;> rfl) | (simp [*, errW_none, errW_some] <;> rfl), by (with_reducible repeat (first | apply Kd.R_alloc | apply Kd.R_drewN | apply Kd.R_drew)); exact HO_7.out, by repeat (first | (with_reducible first | exact HB.out | apply below_alloc | apply pw_below_drewN | apply below_drew1) | exact HB.out)⟩
 ·rw [if_neg c4] at H
  exact absurd H (by simp)

end Go.Proofs.Ytohjocajaanhaaa.P

-- PRINTED by print.py (a twelfth state) out of the translation. Not trusted: Lean checks it.

namespace Go.Proofs.Ytohjocajaanhaaa.P
open Go.RowKit Go.Proofs.YtohjocajaanhaaaW.PrintWords Go.Proofs.YtohjocajaanhaaaW.PrintLast Go.Proofs.YtohjocajaanhaaaW.PrintMore
attribute [local go_sem] max2_int min2_int max_two min_two max_three min_three max_four min_four   -- for this text's walks alone
set_option linter.unusedVariables false
set_option linter.unusedSimpArgs false

/-! ### swarfref38_Local: function 27 -/
mutual
def swarfref38_Local.l0 : Nat → List (S31) → List Int → Int → Int → Option (Bool)
 | 0, _, _, _, _ => none
 | k + 1, x0, x1, x5, x6 => if x6 < (x1.length : Int) then (swarfref38_Local.l1 k x0 x1 x5 x6 (wrap64 (x6 + 1))) else (some true)
def swarfref38_Local.l1 : Nat → List (S31) → List Int → Int → Int → Int → Option (Bool)
 | 0, _, _, _, _, _ => none
 | k + 1, x0, x1, x5, x6, x7 => if x7 < (x1.length : Int) then ((swarfref38_Reversed.f k x1 x6 x7).bind fun t364 => ((swarfref38_way.f k x0 t364).bind fun t367 => (if t367 < x5 then (some false) else (swarfref38_Local.l1 k x0 x1 x5 x6 (wrap64 (x7 + 1)))))) else (swarfref38_Local.l0 k x0 x1 x5 (wrap64 (x6 + 1)))
end
def swarfref38_Local.f (k : Nat) (l0 : List (S31)) (l1 : List Int) : Option (Bool) := (swarfref38_way.f k l0 l1).bind fun t363 => (swarfref38_Local.l0 k l0 l1 t363 1)
theorem swarfref38_Local.mono_l : ∀ k, (∀ y0 y1 y2 y3, LeO (swarfref38_Local.l0 k y0 y1 y2 y3) (swarfref38_Local.l0 (k + 1) y0 y1 y2 y3)) ∧ (∀ y0 y1 y2 y3 y4, LeO (swarfref38_Local.l1 k y0 y1 y2 y3 y4) (swarfref38_Local.l1 (k + 1) y0 y1 y2 y3 y4))
 | 0 => ⟨fun _ _ _ _ r h => by simp [swarfref38_Local.l0] at h, fun _ _ _ _ _ r h => by simp [swarfref38_Local.l1] at h⟩
 | k + 1 => by
  obtain ⟨ih0, ih1⟩ := swarfref38_Local.mono_l k
  refine ⟨?_, ?_⟩
  ·intro y0 y1 y2 y3
   unfold swarfref38_Local.l0
   repeat' first
   | (with_reducible exact ih0 _ _ _ _)
   | (with_reducible exact ih1 _ _ _ _ _)
   | (with_reducible exact swarfref38_Reversed.mono _ _ _ _)
   | (with_reducible exact swarfref38_way.mono _ _ _)
   | (with_reducible exact LeO.refl _)
   | (with_reducible exact LeO.none _)
   | (with_reducible refine LeO.ite ?_ ?_)
   | (with_reducible refine LeO.bind ?_ (fun _ => ?_))
   | exact ih0 _ _ _ _
   | exact ih1 _ _ _ _ _
   | exact swarfref38_Reversed.mono _ _ _ _
   | exact swarfref38_way.mono _ _ _
   | exact LeO.none _
   | refine LeO.ite ?_ ?_
   | refine LeO.bind ?_ (fun _ => ?_)
  ·intro y0 y1 y2 y3 y4
   unfold swarfref38_Local.l1
   repeat' first
   | (with_reducible exact ih0 _ _ _ _)
   | (with_reducible exact ih1 _ _ _ _ _)
   | (with_reducible exact swarfref38_Reversed.mono _ _ _ _)
   | (with_reducible exact swarfref38_way.mono _ _ _)
   | (with_reducible exact LeO.refl _)
   | (with_reducible exact LeO.none _)
   | (with_reducible refine LeO.ite ?_ ?_)
   | (with_reducible refine LeO.bind ?_ (fun _ => ?_))
   | exact ih0 _ _ _ _
   | exact ih1 _ _ _ _ _
   | exact swarfref38_Reversed.mono _ _ _ _
   | exact swarfref38_way.mono _ _ _
   | exact LeO.none _
   | refine LeO.ite ?_ ?_
   | refine LeO.bind ?_ (fun _ => ?_)
theorem swarfref38_Local.mono : ∀ a0 a1 k, LeO (swarfref38_Local.f k a0 a1) (swarfref38_Local.f (k + 1) a0 a1) := by
 intro a0 a1 k
 obtain ⟨ih0, ih1⟩ := swarfref38_Local.mono_l k
 unfold swarfref38_Local.f
 repeat' first
   | (with_reducible exact ih0 _ _ _ _)
   | (with_reducible exact ih1 _ _ _ _ _)
   | (with_reducible exact swarfref38_Reversed.mono _ _ _ _)
   | (with_reducible exact swarfref38_way.mono _ _ _)
   | (with_reducible exact LeO.refl _)
   | (with_reducible exact LeO.none _)
   | (with_reducible refine LeO.ite ?_ ?_)
   | (with_reducible refine LeO.bind ?_ (fun _ => ?_))
   | exact ih0 _ _ _ _
   | exact ih1 _ _ _ _ _
   | exact swarfref38_Reversed.mono _ _ _ _
   | exact swarfref38_way.mono _ _ _
   | exact LeO.none _
   | refine LeO.ite ?_ ?_
   | refine LeO.bind ?_ (fun _ => ?_)
set_option maxHeartbeats 8000000 in
set_option maxRecDepth 100000 in
theorem swarfref38_Local.calls (k : Nat) (A0 : Option Addr) (c0 : Nat) (l0 : List (S31)) (A1 : Option Addr) (c1 : Nat) (l1 : List Int) (r : Bool) (w : World) (hr0 : Kd.C k31 w A0 l0.length l0) (hc0 : l0.length ≤ c0) (hr1 : Kd.C (Kd.int .i64) w A1 l1.length l1) (hc1 : l1.length ≤ c1) (h : swarfref38_Local.f k l0 l1 = some r) :
  Calls Try.prog 27 #[.slice A0 l0.length c0, .slice A1 l1.length c1] w fun e w' => e = .returned (.bool r) ∧ Below w.heap.size w w' := by
 have HR0 := Aside0.mk hr0
 have HC0 := Aside0.mk hc0
 clear hr0 hc0
 have HR1 := Aside0.mk hr1
 have HC1 := Aside0.mk hc1
 clear hr1 hc1
 have HB := Aside0.mk (Below.refl w.heap.size w)
 have H : ((swarfref38_way.f k l0 l1).bind fun t363 => (swarfref38_Local.l0 k l0 l1 t363 1)) = some r := h
 clear h
 replace H := Option.bind_eq_some_iff.mp H
 obtain ⟨t363, A30, H⟩ := H
 replace H : (swarfref38_Local.l0 k l0 l1 t363 1) = some r := H
 have A3 := Aside0.mk A30
 clear A30
 have H' := Aside0.mk H
 clear H
 go_enter Try.func27, Try.ntmps27
 go_wp2_with (first | ((with_reducible refine gate_callee (f := 33) rfl ?_); refine goesL_ (some 10) rfl rfl Try.func33 (by kernel_rfl) rfl #[.slice A0 l0.length c0, .slice A1 l1.length c1] rfl (by (try simp only [List.map_toArray, List.map_cons, List.map_nil]); first | done | rfl | (simp only [List.length_drop, List.length_take]; rfl)) ?_; (with_reducible refine (swarfref38_way.calls k _ _ l0 _ _ l1 t363 _ ?side1 ?side2 ?side3 ?side4 A3.out).mono ?_); (case side1 => repeat (first | exact HR0.out | (with_reducible refine Kd.C_alloc ?_ _) | (with_reducible refine Kd.C_drewN ?_ _) | (with_reducible refine Kd.C_drew ?_))); (case side2 => exact HC0.out); (case side3 => repeat (first | exact HR1.out | (with_reducible refine Kd.C_alloc ?_ _) | (with_reducible refine Kd.C_drewN ?_ _) | (with_reducible refine Kd.C_drew ?_))); (case side4 => exact HC1.out); rintro e w4 ⟨rfl, hb⟩; refine ⟨_, rfl, ?_⟩; have n0_ := Aside0.mk (below_step (by repeat (first | (with_reducible first | exact HB.out | apply below_alloc | apply pw_below_drewN | apply below_drew1) | exact HB.out)) hb); clear HB; have HB := n0_; clear n0_; (try clear hb); (try clear hb2); (try clear hk); (try clear hi)))
 go_loopg [6] k (fun kq v6 w' => ∃ (x6_1 : Int), v6 = .int .i64 x6_1 ∧ Aside0 (swarfref38_Local.l0 kq l0 l1 t363 x6_1 = some r) ∧ Aside0 (kq ≤ k) ∧ Aside0 (Below w.heap.size w w'))
 case atStart => exact ⟨(1), (by first | rfl | (simp; done) | (simp [*]; done)), H', ⟨Nat.le_refl _⟩, ⟨by repeat (first | (with_reducible first | exact HB.out | apply below_alloc | apply pw_below_drewN | apply below_drew1) | exact HB.out)⟩⟩
 case round =>
  clear H'; try clear c1; try clear c2; try clear p2; try clear c3
  obtain ⟨x6_1, rfl, HA, HK1, HB⟩ := hrel
  cases gk with
  | zero => exact absurd HA.out (by simp [swarfref38_Local.l0])
  | succ k1 =>
   have H := HA.out
   clear HA
   simp only [swarfref38_Local.l0] at H
   by_cases c5 : x6_1 < (l1.length : Int)
   ·rw [if_pos c5] at H
    have c5b0 : decide (x6_1 < (l1.length : Int)) = true := decide_eq_true c5
    clear c5; have H' := Aside0.mk H; clear H; go_wp2
    go_loopg [7] k1 (fun kq v7 w' => ∃ (x7_2 : Int), v7 = .int .i64 x7_2 ∧ Aside0 (swarfref38_Local.l1 kq l0 l1 t363 x6_1 x7_2 = some r) ∧ Aside0 (kq ≤ k1) ∧ Aside0 (Below w.heap.size w w'))
    case atStart => exact ⟨(wrap64 (x6_1 + 1)), (by first | rfl | (simp; done) | (simp [*]; done)), H', ⟨Nat.le_refl _⟩, ⟨by repeat (first | (with_reducible first | exact HB.out | apply below_alloc | apply pw_below_drewN | apply below_drew1) | exact HB.out)⟩⟩
    case round =>
     clear H'; try clear c1; try clear c2; try clear p2; try clear c3; try clear c5; try clear c5b0; try clear p2
     obtain ⟨x7_2, rfl, HA, HK2, HB⟩ := hrel
     cases gk with
     | zero => exact absurd HA.out (by simp [swarfref38_Local.l1])
     | succ k2 =>
      have H := HA.out
      clear HA
      simp only [swarfref38_Local.l1] at H
      by_cases c6 : x7_2 < (l1.length : Int)
      ·rw [if_pos c6] at H
       have c6b0 : decide (x7_2 < (l1.length : Int)) = true := decide_eq_true c6
       clear c6; replace H := Option.bind_eq_some_iff.mp H
       obtain ⟨t364, A70, H⟩ := H
       replace H : ((swarfref38_way.f k2 l0 t364).bind fun t367 => (if t367 < t363 then (some false) else (swarfref38_Local.l1 k2 l0 l1 t363 x6_1 (wrap64 (x7_2 + 1))))) = some r := H
       have A7 := Aside0.mk A70; clear A70; replace H := Option.bind_eq_some_iff.mp H
       obtain ⟨t367, A80, H⟩ := H
       replace H : (if t367 < t363 then (some false) else (swarfref38_Local.l1 k2 l0 l1 t363 x6_1 (wrap64 (x7_2 + 1)))) = some r := H
       have A8 := Aside0.mk A80; clear A80
       by_cases c9 : t367 < t363
       ·rw [if_pos c9] at H
        have c9b0 : decide (t367 < t363) = true := decide_eq_true c9
        clear c9; obtain rfl := Option.some.inj H
        go_wp2_with (first | ((with_reducible refine gate_callee (f := 44) rfl ?_); refine goesL_ (some 29) rfl rfl Try.func44 (by kernel_rfl) rfl #[.slice A1 l1.length c1, .int .i64 x6_1, .int .i64 x7_2] rfl (by (try simp only [List.map_toArray, List.map_cons, List.map_nil]); first | done | rfl | (simp only [List.length_drop, List.length_take]; rfl)) ?_; (with_reducible refine (swarfref38_Reversed.calls k2 _ _ l1 x6_1 x7_2 t364 _ ?side1 ?side2 A7.out).mono ?_); (case side1 => repeat (first | exact (Kd.C_below HR1.out HB.out) | (with_reducible refine Kd.C_alloc ?_ _) | (with_reducible refine Kd.C_drewN ?_ _) | (with_reducible refine Kd.C_drew ?_))); (case side2 => exact HC1.out); rintro e w10 ⟨v365, rfl, ho0, hb⟩; refine ⟨_, rfl, ?_⟩; have n0_ := Aside0.mk (Kd.R_lower ho0 (below_size (by repeat (first | (with_reducible first | exact HB.out | apply below_alloc | apply pw_below_drewN | apply below_drew1) | exact HB.out)))); have n1_ := Aside0.mk (below_step (by repeat (first | (with_reducible first | exact HB.out | apply below_alloc | apply pw_below_drewN | apply below_drew1) | exact HB.out)) hb); clear HB; have HO366 := n0_; have HB := n1_; clear n0_ n1_; (try clear hb); (try clear hb2); (try clear hk); (try clear hi); (try clear ho0); obtain ⟨Ao11, co11, eo11⟩ := Kd.R_slice HO366.out; subst eo11) | ((with_reducible refine gate_callee (f := 33) rfl ?_); refine goesL_ (some 30) rfl rfl Try.func33 (by kernel_rfl) rfl #[.slice A0 l0.length c0, .slice Ao11 t364.length co11] rfl (by (try simp only [List.map_toArray, List.map_cons, List.map_nil]); first | done | rfl | (simp only [List.length_drop, List.length_take]; rfl)) ?_; (with_reducible refine (swarfref38_way.calls k2 _ _ l0 _ _ t364 t367 _ ?side1 ?side2 ?side3 ?side4 A8.out).mono ?_); (case side1 => repeat (first | exact (Kd.C_below HR0.out HB.out) | (with_reducible refine Kd.C_alloc ?_ _) | (with_reducible refine Kd.C_drewN ?_ _) | (with_reducible refine Kd.C_drew ?_))); (case side2 => exact HC0.out); (case side3 => repeat (first | exact (Kd.R_reads' HO366.out).2.2 | (with_reducible refine Kd.C_alloc ?_ _) | (with_reducible refine Kd.C_drewN ?_ _) | (with_reducible refine Kd.C_drew ?_))); (case side4 => exact (Kd.R_reads' HO366.out).2.1); rintro e w12 ⟨rfl, hb⟩; refine ⟨_, rfl, ?_⟩; have n0_ := Aside0.mk (Kd.R_below (by (with_reducible repeat (first | apply Kd.R_alloc | apply Kd.R_drewN | apply Kd.R_drew)); exact HO366.out) hb); have n1_ := Aside0.mk (below_step (by repeat (first | (with_reducible first | exact HB.out | apply below_alloc | apply pw_below_drewN | apply below_drew1) | exact HB.out)) hb); clear HO366; clear HB; have HO366 := n0_; have HB := n1_; clear n0_ n1_; (try clear hb); (try clear hb2); (try clear hk); (try clear hi)))
        go_ret
        exact ⟨by first | rfl | (simp [errW_none, errW_some] <;> rfl) | (simp [*, errW_none, errW_some] <;> rfl), by repeat (first | (with_reducible first | exact HB.out | apply below_alloc | apply pw_below_drewN | apply below_drew1) | exact HB.out)⟩
       ·rw [if_neg c9] at H
        have c9b0 : decide (t367 < t363) = false := decide_eq_false c9
        clear c9; have H' := Aside0.mk H; clear H
        go_wp2_with (first | ((with_reducible refine gate_callee (f := 44) rfl ?_); refine goesL_ (some 29) rfl rfl Try.func44 (by kernel_rfl) rfl #[.slice A1 l1.length c1, .int .i64 x6_1, .int .i64 x7_2] rfl (by (try simp only [List.map_toArray, List.map_cons, List.map_nil]); first | done | rfl | (simp only [List.length_drop, List.length_take]; rfl)) ?_; (with_reducible refine (swarfref38_Reversed.calls k2 _ _ l1 x6_1 x7_2 t364 _ ?side1 ?side2 A7.out).mono ?_); (case side1 => repeat (first | exact (Kd.C_below HR1.out HB.out) | (with_reducible refine Kd.C_alloc ?_ _) | (with_reducible refine Kd.C_drewN ?_ _) | (with_reducible refine Kd.C_drew ?_))); (case side2 => exact HC1.out); rintro e w13 ⟨v365, rfl, ho0, hb⟩; refine ⟨_, rfl, ?_⟩; have n0_ := Aside0.mk (Kd.R_lower ho0 (below_size (by repeat (first | (with_reducible first | exact HB.out | apply below_alloc | apply pw_below_drewN | apply below_drew1) | exact HB.out)))); have n1_ := Aside0.mk (below_step (by repeat (first | (with_reducible first | exact HB.out | apply below_alloc | apply pw_below_drewN | apply below_drew1) | exact HB.out)) hb); clear HB; have HO366 := n0_; have HB := n1_; clear n0_ n1_; (try clear hb); (try clear hb2); (try clear hk); (try clear hi); (try clear ho0); obtain ⟨Ao14, co14, eo14⟩ := Kd.R_slice HO366.out; subst eo14) | ((with_reducible refine gate_callee (f := 33) rfl ?_); refine goesL_ (some 30) rfl rfl Try.func33 (by kernel_rfl) rfl #[.slice A0 l0.length c0, .slice Ao14 t364.length co14] rfl (by (try simp only [List.map_toArray, List.map_cons, List.map_nil]); first | done | rfl | (simp only [List.length_drop, List.length_take]; rfl)) ?_; (with_reducible refine (swarfref38_way.calls k2 _ _ l0 _ _ t364 t367 _ ?side1 ?side2 ?side3 ?side4 A8.out).mono ?_); (case side1 => repeat (first | exact (Kd.C_below HR0.out HB.out) | (with_reducible refine Kd.C_alloc ?_ _) | (with_reducible refine Kd.C_drewN ?_ _) | (with_reducible refine Kd.C_drew ?_))); (case side2 => exact HC0.out); (case side3 => repeat (first | exact (Kd.R_reads' HO366.out).2.2 | (with_reducible refine Kd.C_alloc ?_ _) | (with_reducible refine Kd.C_drewN ?_ _) | (with_reducible refine Kd.C_drew ?_))); (case side4 => exact (Kd.R_reads' HO366.out).2.1); rintro e w15 ⟨rfl, hb⟩; refine ⟨_, rfl, ?_⟩; have n0_ := Aside0.mk (Kd.R_below (by (with_reducible repeat (first | apply Kd.R_alloc | apply Kd.R_drewN | apply Kd.R_drew)); exact HO366.out) hb); have n1_ := Aside0.mk (below_step (by repeat (first | (with_reducible first | exact HB.out | apply below_alloc | apply pw_below_drewN | apply below_drew1) | exact HB.out)) hb); clear HO366; clear HB; have HO366 := n0_; have HB := n1_; clear n0_ n1_; (try clear hb); (try clear hb2); (try clear hk); (try clear hi)))
        go_roundg k2
        case measure => have := HK1.out; have := HK2.out; omega
        case rel => exact ⟨(wrap64 (x7_2 + 1)), (by first | rfl | (simp; done) | (simp [*]; done)), H', ⟨by have := HK1.out; have := HK2.out; omega⟩, ⟨by repeat (first | (with_reducible first | exact HB.out | apply below_alloc | apply pw_below_drewN | apply below_drew1) | exact HB.out)⟩⟩
      ·rw [if_neg c6] at H
       have c6b0 : decide (x7_2 < (l1.length : Int)) = false := decide_eq_false c6
       clear c6; have H' := Aside0.mk H; clear H; go_wp2
       go_roundg k2
       case measure => have := HK1.out; have := HK2.out; omega
       case rel => exact ⟨(wrap64 (x6_1 + 1)), (by first | rfl | (simp; done) | (simp [*]; done)), H', ⟨by have := HK1.out; have := HK2.out; omega⟩, ⟨by repeat (first | (with_reducible first | exact HB.out | apply below_alloc | apply pw_below_drewN | apply below_drew1) | exact HB.out)⟩⟩
   ·rw [if_neg c5] at H
    have c5b0 : decide (x6_1 < (l1.length : Int)) = false := decide_eq_false c5
    clear c5; obtain rfl := Option.some.inj H; go_wp2; go_ret
    exact ⟨by first | rfl | (simp [errW_none, errW_some] <;> rfl) | (simp [*, errW_none, errW_some] <;> rfl), by repeat (first | (with_reducible first | exact HB.out | apply below_alloc | apply pw_below_drewN | apply below_drew1) | exact HB.out)⟩

end Go.Proofs.Ytohjocajaanhaaa.P

/- What Improve answers: a valid order, not longer, that no reversal shortens. Plain numbers and lists. -/

namespace Go.Proofs.Ytohjocajaanhaaa.B
open Go.RowKit Go.Proofs.Ytohjocajaanhaaa.P Go.Proofs.YtohjocajaanhaaaW.PrintWords Go.Proofs.YtohjocajaanhaaaW.PrintLast Go.Proofs.YtohjocajaanhaaaW.PrintMore
set_option linter.unusedVariables false
set_option linter.unusedSimpArgs false

/-! ### Lists -/
theorem set_at (A : List Int) (x v : Int) (T : List Int) : (A ++ x :: T).set A.length v = A ++ v :: T := by
  induction A with
  | nil => rfl
  | cons a A ih => simp only [List.cons_append, List.length_cons, List.set_cons_succ, ih]
theorem rd_app (X Y : List Int) (i : Nat) : rd (X ++ Y) (i : Int) = if i < X.length then rd X (i : Int) else rd Y ((i - X.length : Nat) : Int) := by
  unfold rd
  rw [Int.toNat_natCast, Int.toNat_natCast, List.getD_eq_getElem?_getD, List.getElem?_append]
  split
  · rw [List.getD_eq_getElem?_getD]
  · rw [List.getD_eq_getElem?_getD]
theorem rd_at (A : List Int) (x : Int) (T : List Int) : rd (A ++ x :: T) (A.length : Int) = x := by
  rw [rd_app, if_neg (by omega), Nat.sub_self]
  rfl
def lst (X : List Int) : Int := rd X ((X.length - 1 : Nat) : Int)
def hd (X : List Int) : Int := rd X 0
theorem lst_snoc (X : List Int) (x : Int) : lst (X ++ [x]) = x := by
  unfold lst
  have : (X ++ [x]).length - 1 = X.length := by simp
  rw [this, rd_at]
theorem hd_cons (x : Int) (X : List Int) : hd (x :: X) = x := rfl
theorem lst_cons (a b : Int) (t : List Int) : lst (a :: b :: t) = lst (b :: t) := by
  unfold lst rd
  simp
theorem wy_join (l : List S31) (Y : List Int) (hY : ¬ Y = []) : ∀ X : List Int, ¬ X = [] → wy l (X ++ Y) = wy l X + dst (rd_T31 l (lst X)) (rd_T31 l (hd Y)) + wy l Y
  | [], h => absurd rfl h
  | [a], _ => by
    cases Y with
    | nil => exact absurd rfl hY
    | cons b t =>
      show dst (rd_T31 l a) (rd_T31 l b) + wy l (b :: t) = 0 + _ + _
      have : lst [a] = a := rfl
      rw [this, hd_cons]
      omega
  | a :: b :: t, _ => by
    have ih := wy_join l Y hY (b :: t) (by simp)
    rw [lst_cons]
    show dst (rd_T31 l a) (rd_T31 l b) + wy l (b :: t ++ Y) = dst (rd_T31 l a) (rd_T31 l b) + wy l (b :: t) + _ + _
    rw [ih]
    omega
theorem lst_rev : ∀ X : List Int, ¬ X = [] → lst X.reverse = hd X
  | [], h => absurd rfl h
  | a :: t, _ => by rw [List.reverse_cons, lst_snoc]; rfl
theorem hd_rev (X : List Int) (h : ¬ X = []) : hd X.reverse = lst X := by
  have := lst_rev X.reverse (by simpa using h)
  rw [List.reverse_reverse] at this
  exact this.symm
theorem wy_rev (l : List S31) : ∀ X : List Int, wy l X.reverse = wy l X
  | [] => rfl
  | [a] => rfl
  | a :: b :: t => by
    have ih := wy_rev l (b :: t)
    rw [List.reverse_cons, wy_join l [a] (by simp) _ (by simp), ih, lst_rev _ (by simp), hd_cons, hd_cons]
    show wy l (b :: t) + dst (rd_T31 l b) (rd_T31 l a) + 0 = dst (rd_T31 l a) (rd_T31 l b) + wy l (b :: t)
    rw [dst_symm (rd_T31 l b) (rd_T31 l a)]
    omega
/-- By how much the reversal of S between A and B shortens. -/
def gap3 (l : List S31) (A S B : List Int) : Int :=
  if B = [] then dst (rd_T31 l (lst A)) (rd_T31 l (hd S)) - dst (rd_T31 l (lst A)) (rd_T31 l (lst S))
  else dst (rd_T31 l (lst A)) (rd_T31 l (hd S)) + dst (rd_T31 l (lst S)) (rd_T31 l (hd B)) - (dst (rd_T31 l (lst A)) (rd_T31 l (lst S)) + dst (rd_T31 l (hd S)) (rd_T31 l (hd B)))
theorem lst_app (X Y : List Int) (h : ¬ Y = []) : lst (X ++ Y) = lst Y := by
  have hl : 0 < Y.length := List.length_pos_iff.2 h
  unfold lst
  rw [rd_app, if_neg (by rw [List.length_append]; omega), List.length_append, show X.length + Y.length - 1 - X.length = Y.length - 1 by omega]
theorem gap3_eq (l : List S31) (A S B : List Int) (hA : ¬ A = []) (hS : ¬ S = []) : wy l (A ++ S ++ B) - wy l (A ++ S.reverse ++ B) = gap3 l A S B := by
  have hR : ¬ S.reverse = [] := by simpa using hS
  have hAS : ¬ A ++ S = [] := by simp [hA]
  have hAR : ¬ A ++ S.reverse = [] := by simp [hA]
  unfold gap3
  by_cases hB : B = []
  · subst hB
    rw [if_pos rfl, List.append_nil, List.append_nil, wy_join l S hS A hA, wy_join l _ hR A hA, wy_rev, hd_rev S hS]
    omega
  · rw [if_neg hB, wy_join l B hB _ hAS, wy_join l B hB _ hAR, wy_join l S hS A hA, wy_join l _ hR A hA, wy_rev, hd_rev S hS, lst_app A S hS, lst_app A _ hR, lst_rev S hS]
    omega
/-! ### Reversals -/
theorem cut_ends : ∀ S : List Int, 2 ≤ S.length → ∃ x M y, S = x :: (M ++ [y])
  | [], h => by simp at h
  | [_], h => by simp at h
  | x :: b :: t, _ => ⟨x, (b :: t).dropLast, (b :: t).getLast (by simp), by rw [List.dropLast_concat_getLast]⟩
theorem swap_eq (A B M : List Int) (x y : Int) : ((A ++ (x :: (M ++ [y])) ++ B).set A.length y).set (A.length + M.length + 1) x = (A ++ [y]) ++ M ++ (x :: B) := by
  have e1 : A ++ (x :: (M ++ [y])) ++ B = A ++ x :: (M ++ [y] ++ B) := by simp
  rw [e1, set_at]
  have e2 : A ++ y :: (M ++ [y] ++ B) = (A ++ [y] ++ M) ++ y :: B := by simp
  have e3 : A.length + M.length + 1 = (A ++ [y] ++ M).length := by simp; omega
  rw [e2, e3, set_at]
theorem trev_ev (a m : Nat) (hm : m ≤ 1000) (n : Nat) : ∀ (A S B : List Int) (x2 : Int), S.length ≤ n → 0 ≤ x2 → (a : Int) + x2 = (A.length : Int) → x2 + (S.length : Int) - 1 < (m : Int) → Ev (fun k => tour_rev.l0 a m k (A ++ S ++ B) x2 (x2 + (S.length : Int) - 1)) (A ++ S.reverse ++ B) := by
  induction n using Nat.strongRecOn with
  | _ n ih =>
  intro A S B x2 hn h0 ha hm2
  by_cases hs : S.length ≤ 1
  · have : S.reverse = S := by
      cases S with
      | nil => rfl
      | cons x t =>
        have : t = [] := by simp only [List.length_cons] at hs; exact List.eq_nil_of_length_eq_zero (by omega)
        rw [this]; rfl
    rw [this]
    exact ev_end (fun k => by simp only [tour_rev.l0]; rw [if_neg (by omega)])
  · obtain ⟨x, M, y, rfl⟩ := cut_ends S (by omega)
    have hl : (x :: (M ++ [y])).length = M.length + 2 := by simp
    rw [hl] at hn hm2 hs ⊢
    have hi := ih M.length (by omega) (A ++ [y]) M (x :: B) (x2 + 1) (Nat.le_refl _) (by omega) (by simp; omega) (by omega)
    have hrev : A ++ (x :: (M ++ [y])).reverse ++ B = (A ++ [y]) ++ M.reverse ++ (x :: B) := by simp
    rw [hrev]
    refine Ev.step (fun k => ?_) hi
    simp only [tour_rev.l0]
    have w1 : wrap64 (x2 + 1) = x2 + 1 := wrap_mid _ (by omega) (by omega)
    have w2 : wrap64 (x2 + ((M.length + 2 : Nat) : Int) - 1 - 1) = x2 + 1 + (M.length : Int) - 1 := by rw [wrap_mid _ (by omega) (by omega)]; omega
    have t1 : ((a : Int) + x2).toNat = A.length := by omega
    have t2 : ((a : Int) + (x2 + ((M.length + 2 : Nat) : Int) - 1)).toNat = A.length + M.length + 1 := by omega
    have r1 : rd (A ++ (x :: (M ++ [y])) ++ B) ((a : Int) + x2) = x := by
      rw [ha, show A ++ (x :: (M ++ [y])) ++ B = A ++ x :: (M ++ [y] ++ B) by simp, rd_at]
    have r2 : rd (A ++ (x :: (M ++ [y])) ++ B) ((a : Int) + (x2 + ((M.length + 2 : Nat) : Int) - 1)) = y := by
      have e : (a : Int) + (x2 + ((M.length + 2 : Nat) : Int) - 1) = ((A ++ x :: M).length : Int) := by simp; omega
      rw [e, show A ++ (x :: (M ++ [y])) ++ B = (A ++ x :: M) ++ y :: B by simp, rd_at]
    rw [if_pos (by omega), if_pos h0, if_pos (by omega), r1, r2, t1, t2, swap_eq, w1, w2]
/-! ### Parts of an order -/
def pA (o : List Int) (i : Nat) : List Int := o.take i
def pS (o : List Int) (i j : Nat) : List Int := (o.drop i).take (j + 1 - i)
def pB (o : List Int) (j : Nat) : List Int := o.drop (j + 1)
theorem parts (o : List Int) (i j : Nat) (h1 : i ≤ j) (h2 : j < o.length) : pA o i ++ pS o i j ++ pB o j = o ∧ (pA o i).length = i ∧ (pS o i j).length = j + 1 - i ∧ (pB o j).length = o.length - (j + 1) := by
  unfold pA pS pB
  refine ⟨?_, by rw [List.length_take]; omega, by rw [List.length_take, List.length_drop]; omega, List.length_drop⟩
  have e : o.drop (j + 1) = (o.drop i).drop (j + 1 - i) := by rw [List.drop_drop]; congr 1; omega
  rw [e, List.append_assoc, List.take_append_drop, List.take_append_drop]
/-- The order with the numbers from place i to j reversed. -/
def rvo (o : List Int) (i j : Nat) : List Int := pA o i ++ (pS o i j).reverse ++ pB o j
theorem rvo_perm (o : List Int) (i j : Nat) (h1 : i ≤ j) (h2 : j < o.length) : (rvo o i j).Perm o := by
  obtain ⟨e, _⟩ := parts o i j h1 h2
  conv => rhs; rw [← e]
  unfold rvo
  exact ((List.reverse_perm (pS o i j)).append_left (pA o i)).append_right (pB o j)
theorem rvo_hd (o : List Int) (i j : Nat) (h0 : 1 ≤ i) (h1 : i ≤ j) (h2 : j < o.length) : rd (rvo o i j) 0 = rd o 0 := by
  obtain ⟨e, la, _⟩ := parts o i j h1 h2
  have a1 := rd_app (pA o i) ((pS o i j).reverse ++ pB o j) 0
  have a2 := rd_app (pA o i) (pS o i j ++ pB o j) 0
  rw [if_pos (by omega)] at a1 a2
  unfold rvo
  rw [List.append_assoc]
  conv => rhs; rw [← e, List.append_assoc]
  exact a1.trans a2.symm
def gn (l : List S31) (o : List Int) (i j : Nat) : Int := wy l o - wy l (rvo o i j)
theorem gn_eq (l : List S31) (o : List Int) (i j : Nat) (h0 : 1 ≤ i) (h1 : i ≤ j) (h2 : j < o.length) :
    gn l o i j = if ((j : Int) + 1) < (o.length : Int) then dst (rd_T31 l (rd o ((i : Int) - 1))) (rd_T31 l (rd o (i : Int))) + dst (rd_T31 l (rd o (j : Int))) (rd_T31 l (rd o ((j : Int) + 1))) - (dst (rd_T31 l (rd o ((i : Int) - 1))) (rd_T31 l (rd o (j : Int))) + dst (rd_T31 l (rd o (i : Int))) (rd_T31 l (rd o ((j : Int) + 1)))) else dst (rd_T31 l (rd o ((i : Int) - 1))) (rd_T31 l (rd o (i : Int))) - dst (rd_T31 l (rd o ((i : Int) - 1))) (rd_T31 l (rd o (j : Int))) := by
  obtain ⟨e, la, ls, lb⟩ := parts o i j h1 h2
  have hA : ¬ pA o i = [] := fun h => by rw [h] at la; simp at la; omega
  have hS : ¬ pS o i j = [] := fun h => by rw [h] at ls; simp at ls; omega
  have g := gap3_eq l (pA o i) (pS o i j) (pB o j) hA hS
  unfold gn rvo
  have eo : wy l o = wy l (pA o i ++ pS o i j ++ pB o j) := by rw [e]
  rw [eo, g]
  have ea : lst (pA o i) = rd o ((i : Int) - 1) := by
    have := rd_app (pA o i) (pS o i j ++ pB o j) (i - 1)
    rw [← List.append_assoc, e, if_pos (by omega)] at this
    unfold lst
    rw [la, ← this]
    congr 1
    omega
  have es : hd (pS o i j) = rd o (i : Int) := by
    have := rd_app (pA o i) (pS o i j ++ pB o j) i
    rw [← List.append_assoc, e, if_neg (by omega), la, Nat.sub_self, rd_app, if_pos (by omega)] at this
    exact this.symm
  have ez : lst (pS o i j) = rd o (j : Int) := by
    have := rd_app (pA o i) (pS o i j ++ pB o j) j
    rw [← List.append_assoc, e, if_neg (by omega), la, rd_app, if_pos (by omega)] at this
    unfold lst
    rw [this, ls]
    congr 1
    omega
  unfold gap3
  rw [ea, es, ez]
  by_cases hB : pB o j = []
  · rw [if_pos hB, if_neg]
    rw [hB] at lb
    simp at lb
    omega
  · have lb0 : 0 < (pB o j).length := List.length_pos_iff.2 hB
    have eb : hd (pB o j) = rd o ((j : Int) + 1) := by
      have := rd_app (pA o i ++ pS o i j) (pB o j) (j + 1)
      rw [e, if_neg (by rw [List.length_append]; omega), List.length_append, la, ls, show j + 1 - (i + (j + 1 - i)) = 0 by omega] at this
      exact this.symm
    rw [if_neg hB, if_pos (by omega), eb]
theorem gain_some {l : List S31} (hv : l.all okp = true) (o : List Int) (hl : o.length ≤ 1000) (hr : ∀ x ∈ o, 0 ≤ x ∧ x < (l.length : Int)) (i j : Nat) (h0 : 1 ≤ i) (h1 : i ≤ j) (h2 : j < o.length) : tour_gain.f l o (i : Int) (j : Int) = some (gn l o i j) := by
  have wi : wrap64 ((i : Int) - 1) = (i : Int) - 1 := wrap_mid _ (by omega) (by omega)
  have wj : wrap64 ((j : Int) + 1) = (j : Int) + 1 := wrap_mid _ (by omega) (by omega)
  have m1 := hr _ (rd_mem (o := o) (i := (i : Int) - 1) (by omega) (by omega))
  have m2 := hr _ (rd_mem (o := o) (i := (i : Int)) (by omega) (by omega))
  have m3 := hr _ (rd_mem (o := o) (i := (j : Int)) (by omega) (by omega))
  have k1 := ok_at hv _ m1.1 m1.2
  have k2 := ok_at hv _ m2.1 m2.2
  have k3 := ok_at hv _ m3.1 m3.2
  have b1 := dst_nonneg (rd_T31 l (rd o ((i : Int) - 1))) (rd_T31 l (rd o (i : Int)))
  have b2 := dst_le k1 k2
  have b3 := dst_nonneg (rd_T31 l (rd o ((i : Int) - 1))) (rd_T31 l (rd o (j : Int)))
  have b4 := dst_le k1 k3
  rw [gn_eq l o i j h0 h1 h2]
  unfold tour_gain.f
  rw [wi, wj, if_pos (by omega), if_pos (by omega), if_pos m1.1, if_pos m1.2, if_pos (by omega), if_pos (by omega), if_pos m2.1, if_pos m2.2, dist_eq k1 k2]
  simp only [Option.bind_some]
  rw [if_pos (by omega), if_pos (by omega), if_pos m3.1, if_pos m3.2, dist_eq k1 k3]
  simp only [Option.bind_some]
  by_cases h : (j : Int) + 1 < (o.length : Int)
  · have m4 := hr _ (rd_mem (o := o) (i := (j : Int) + 1) (by omega) h)
    have k4 := ok_at hv _ m4.1 m4.2
    have b5 := dst_nonneg (rd_T31 l (rd o (j : Int))) (rd_T31 l (rd o ((j : Int) + 1)))
    have b6 := dst_le k3 k4
    have b7 := dst_nonneg (rd_T31 l (rd o (i : Int))) (rd_T31 l (rd o ((j : Int) + 1)))
    have b8 := dst_le k2 k4
    rw [if_pos h, if_pos h]
    rw [if_pos (by omega), if_pos m4.1, if_pos m4.2, dist_eq k3 k4, dist_eq k2 k4]
    simp only [Option.bind_some]
    rw [wrap_mid (_ + _) (by omega) (by omega), wrap_mid (_ + _) (by omega) (by omega), wrap_mid _ (by omega) (by omega)]
  · rw [if_neg h, if_neg h, wrap_mid _ (by omega) (by omega)]
end Go.Proofs.Ytohjocajaanhaaa.B
