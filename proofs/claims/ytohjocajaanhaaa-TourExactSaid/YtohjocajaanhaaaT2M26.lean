import Derived.Test.YtohjocajaanhaaaT2M21
import Derived.Test.YtohjocajaanhaaaT2M25
import Derived.Test.YtohjocajaanhaaaT2M24
-- PRINTED by print.py (a twelfth state) out of the translation. Not trusted: Lean checks it.

namespace Go.Proofs.Ytohjocajaanhaaa.P
open Go.RowKit Go.Proofs.YtohjocajaanhaaaW.PrintWords Go.Proofs.YtohjocajaanhaaaW.PrintLast Go.Proofs.YtohjocajaanhaaaW.PrintMore
attribute [local go_sem] max2_int min2_int max_two min_two max_three min_three max_four min_four   -- for this text's walks alone
set_option linter.unusedVariables false
set_option linter.unusedSimpArgs false

/-! ### swarfref38_search: function 39 -/
mutual
def swarfref38_search.l0 : Nat → List (S31) → List Int → List Int → Int → Option (List Int)
  | 0, _, _, _, _ => none
  | k + 1, x0, x1, x2, x7 => if x7 < (x0.length : Int) then ((swarfref38_has.f k x1 x7).bind fun t387 => (if t387 = true then (swarfref38_search.l0 k x0 x1 x2 (wrap64 (x7 + 1))) else ((some (([] : List Int) : List Int)).bind fun y388 => (if y388.length + x1.length < 17592186044416 then ((some (y388 ++ x1 : List Int)).bind fun y391 => (if y391.length < 17592186044416 then ((swarfref38_search.f k x0 (y391 ++ [x7]) x2).bind fun t397 => (swarfref38_search.l0 k x0 x1 t397 (wrap64 (x7 + 1)))) else (none))) else (none))))) else (some x2)
def swarfref38_search.f : Nat → List (S31) → List Int → List Int → Option (List Int)
  | 0, _, _, _ => none
  | k + 1, l0, l1, l2 => if (l1.length : Int) = (l0.length : Int) then (if (l2.length : Int) = 0 then ((some (([] : List Int) : List Int)).bind fun y373 => (if y373.length + l1.length < 17592186044416 then (some (y373 ++ l1)) else (none))) else ((swarfref38_way.f k l0 l1).bind fun t379 => ((swarfref38_way.f k l0 l2).bind fun t380 => (if t379 < t380 then ((some (([] : List Int) : List Int)).bind fun y381 => (if y381.length + l1.length < 17592186044416 then (some (y381 ++ l1)) else (none))) else (some l2))))) else (swarfref38_search.l0 k l0 l1 l2 0)
end
theorem swarfref38_search.mono_l : ∀ k, (∀ y0 y1 y2, LeO (swarfref38_search.f k y0 y1 y2) (swarfref38_search.f (k + 1) y0 y1 y2)) ∧ (∀ y0 y1 y2 y3, LeO (swarfref38_search.l0 k y0 y1 y2 y3) (swarfref38_search.l0 (k + 1) y0 y1 y2 y3))
  | 0 => ⟨fun _ _ _ r h => by simp [swarfref38_search.f] at h, fun _ _ _ _ r h => by simp [swarfref38_search.l0] at h⟩
  | k + 1 => by
    obtain ⟨ih0, ih1⟩ := swarfref38_search.mono_l k
    refine ⟨?_, ?_⟩
    · intro y0 y1 y2
      unfold swarfref38_search.f
      repeat' first
      | (with_reducible exact ih0 _ _ _)
      | (with_reducible exact ih1 _ _ _ _)
      | (with_reducible exact swarfref38_has.mono _ _ _)
      | (with_reducible exact swarfref38_way.mono _ _ _)
      | (with_reducible exact LeO.refl _)
      | (with_reducible exact LeO.none _)
      | (with_reducible refine LeO.ite ?_ ?_)
      | (with_reducible refine LeO.bind ?_ (fun _ => ?_))
      | exact ih0 _ _ _
      | exact ih1 _ _ _ _
      | exact swarfref38_has.mono _ _ _
      | exact swarfref38_way.mono _ _ _
      | exact LeO.none _
      | refine LeO.ite ?_ ?_
      | refine LeO.bind ?_ (fun _ => ?_)
    · intro y0 y1 y2 y3
      unfold swarfref38_search.l0
      repeat' first
      | (with_reducible exact ih0 _ _ _)
      | (with_reducible exact ih1 _ _ _ _)
      | (with_reducible exact swarfref38_has.mono _ _ _)
      | (with_reducible exact swarfref38_way.mono _ _ _)
      | (with_reducible exact LeO.refl _)
      | (with_reducible exact LeO.none _)
      | (with_reducible refine LeO.ite ?_ ?_)
      | (with_reducible refine LeO.bind ?_ (fun _ => ?_))
      | exact ih0 _ _ _
      | exact ih1 _ _ _ _
      | exact swarfref38_has.mono _ _ _
      | exact swarfref38_way.mono _ _ _
      | exact LeO.none _
      | refine LeO.ite ?_ ?_
      | refine LeO.bind ?_ (fun _ => ?_)
theorem swarfref38_search.mono : ∀ a0 a1 a2 k, LeO (swarfref38_search.f k a0 a1 a2) (swarfref38_search.f (k + 1) a0 a1 a2) := by
  intro a0 a1 a2 k
  obtain ⟨ih0, ih1⟩ := swarfref38_search.mono_l k
  exact ih0 a0 a1 a2
set_option maxHeartbeats 8000000 in
set_option maxRecDepth 100000 in
theorem swarfref38_search.calls (k : Nat) : ∀ (A0 : Option Addr) (c0 : Nat) (l0 : List (S31)) (A1 : Option Addr) (c1 : Nat) (l1 : List Int) (P2_ : Nat → Prop) (A2 : Option Addr) (c2 : Nat) (l2 : List Int) (r : List Int) (w : World) (hr0 : Kd.C k31 w A0 l0.length l0) (hc0 : l0.length ≤ c0) (hr1 : Kd.C (Kd.int .i64) w A1 l1.length l1) (hc1 : l1.length ≤ c1) (hs2 : Kd.V (Kd.int .i64) 3 w w.heap.size (fun k_ => P2_ k_) (.slice A2 l2.length c2) l2) (h : swarfref38_search.f k l0 l1 l2 = some r),
    Calls Try.prog 39 #[.slice A0 l0.length c0, .slice A1 l1.length c1, .slice A2 l2.length c2] w fun e w' => ∃ v0_ : Value, e = .returned (v0_) ∧ Kd.V (Kd.int .i64) 3 w' w.heap.size (fun k_ => (P2_ k_ ∨ w.heap.size ≤ k_)) v0_ r ∧ Below w.heap.size w w' := by
  induction k using Nat.strongRecOn with
  | _ k ih =>
  intro A0 c0 l0 A1 c1 l1 P2_ A2 c2 l2 r w hr0 hc0 hr1 hc1 hs2 h
  cases k with
  | zero => exact absurd h (by simp [swarfref38_search.f])
  | succ k =>
  simp only [swarfref38_search.f] at h
  have HR0 := Aside0.mk hr0
  have HC0 := Aside0.mk hc0
  clear hr0 hc0
  have HR1 := Aside0.mk hr1
  have HC1 := Aside0.mk hc1
  clear hr1 hc1
  have HO2 := Aside0.mk (show Kd.V (Kd.int .i64) 3 w w.heap.size (fun k_ => (P2_ k_ ∨ w.heap.size ≤ k_)) (.slice A2 l2.length c2) l2 from Kd.V_mono hs2 (fun k_ hk => .inl hk))
  have HB := Aside0.mk (Below.refl w.heap.size w)
  have H : (if (l1.length : Int) = (l0.length : Int) then (if (l2.length : Int) = 0 then ((some (([] : List Int) : List Int)).bind fun y373 => (if y373.length + l1.length < 17592186044416 then (some (y373 ++ l1)) else (none))) else ((swarfref38_way.f k l0 l1).bind fun t379 => ((swarfref38_way.f k l0 l2).bind fun t380 => (if t379 < t380 then ((some (([] : List Int) : List Int)).bind fun y381 => (if y381.length + l1.length < 17592186044416 then (some (y381 ++ l1)) else (none))) else (some l2))))) else (swarfref38_search.l0 k l0 l1 l2 0)) = some r := h
  clear h
  by_cases c4 : (l1.length : Int) = (l0.length : Int)
  · rw [if_pos c4] at H
    have c4b0 : ((l1.length : Int) == (l0.length : Int)) = true := beq_iff_eq.mpr c4
    have c4b1 : ((l1.length : Int) != (l0.length : Int)) = false := bne_eq_false_iff_eq.mpr c4
    have c4b2 : (l1.length == l0.length) = true := by first | simpa using c4 | (simp at c4 ⊢; omega)
    clear c4
    by_cases c5 : (l2.length : Int) = 0
    · rw [if_pos c5] at H
      have c5b0 : ((l2.length : Int) == 0) = true := beq_iff_eq.mpr c5
      have c5b1 : ((l2.length : Int) != 0) = false := bne_eq_false_iff_eq.mpr c5
      clear c5
      obtain ⟨y373, hy373⟩ : ∃ y_ : List Int, y_ = (([] : List Int)) := ⟨_, rfl⟩
      replace H : (if y373.length + l1.length < 17592186044416 then (some (y373 ++ l1)) else (none)) = some r := by first | (rw [hy373]; with_reducible exact H) | (have H2_ := (Option.bind_some _ _).symm.trans H; rw [hy373]; with_reducible exact H2_) | (have H2_ := (Option.bind_some _ _).symm.trans H; with_reducible exact H2_) | with_reducible exact H | (rw [hy373]; exact H) | exact H
      have Ny373 := Aside0.mk hy373
      clear hy373
      by_cases c6 : y373.length + l1.length < 17592186044416
      · rw [if_pos c6] at H
        have LMc6 := Aside0.mk c6
        clear c6
        obtain ⟨y376, hy376⟩ : ∃ y_ : List Int, y_ = (y373 ++ l1) := ⟨_, rfl⟩
        replace H : (some y376) = some r := by first | (rw [hy376]; with_reducible exact H) | (have H2_ := (Option.bind_some _ _).symm.trans H; rw [hy376]; with_reducible exact H2_) | (have H2_ := (Option.bind_some _ _).symm.trans H; with_reducible exact H2_) | with_reducible exact H | (rw [hy376]; exact H) | exact H
        have Ny376 := Aside0.mk hy376
        clear hy376
        obtain rfl := Option.some.inj H
        go_enter Try.func39, Try.ntmps39
        go_wp2_with (first | ((with_reducible refine gate_dst (N := 25) rfl ?_); refine Kd.R_lit (Kd.int .i64) _ 3 ?hg (N := 25) ?hd (xs := ([] : List Int)) (inner := []) (ok := fun _ => True) (okp := fun _ => True) ?hr ?hp (fun _ hk => hk) trivial (Below.refl _ _) (Nat.le_refl _) (by simp) ?_; (case hd => rfl); (case hg => rfl); (case hr => first | (go_simp; done) | (go_simp; rfl)); (case hp => exact (Reps.none _ _)); intro v374 w7 ho8 hb hg_ hnew_; clear hg_ hnew_; (first | rw [← Ny373.out] at ho8 | (simp only [Int.reduceToNat] at ho8; rw [← Ny373.out] at ho8)); have n0_ := Aside0.mk (Kd.V_elder' (by (with_reducible repeat (first | apply Kd.V_alloc | apply Kd.V_drewN | apply Kd.V_drew)); exact HO2.out) (Kd.R_base ho8) hb); have n1_ := Aside0.mk (Kd.R_lower (Kd.R_newM (M := fun k_ => (w.heap.size ≤ k_)) ho8 (below_size (by repeat (first | (with_reducible first | exact HB.out | apply below_alloc | apply pw_below_drewN | apply below_drew1) | exact HB.out))) (fun k_ h_ => h_)) (below_size (by repeat (first | (with_reducible first | exact HB.out | apply below_alloc | apply pw_below_drewN | apply below_drew1) | exact HB.out)))); have n2_ := Aside0.mk (below_step (by repeat (first | (with_reducible first | exact HB.out | apply below_alloc | apply pw_below_drewN | apply below_drew1) | exact HB.out)) hb); clear HO2; clear HB; have HO2 := n0_; have HO375 := n1_; have HB := n2_; clear n0_ n1_ n2_; clear hb ho8) | ((with_reducible refine gate_builtin (b := .append) (xs := #[.tmp 25, .tmp 26]) rfl ?_); at_builtin; refine Kd.R_append_rows (Kd.int .i64) (w0 := w) w.heap.size rfl (.tmp 25) (.tmp 26) 23 3 (.int .i64 0) 8 rfl Try.underlying23 info3 rfl (by decide) (by omega) v374 y373 l1 _ _ _ (fun k_ => (w.heap.size ≤ k_)) (fun _ => False) rfl rfl ?aO ?aR (fun _ _ h => h) (fun _ h => h.elim) ?aF ?aB ?aS ?aL ?_; (case aR => repeat (first | exact (Kd.C_below HR1.out HB.out) | (with_reducible refine Kd.C_alloc ?_ _) | (with_reducible refine Kd.C_drewN ?_ _) | (with_reducible refine Kd.C_drew ?_))); (case aB => exact (by repeat (first | (with_reducible first | exact HB.out | apply below_alloc | apply pw_below_drewN | apply below_drew1) | exact HB.out))); (case aF => exact (fun k_ hk => (Nat.le_trans (below_size (by repeat (first | (with_reducible first | exact HB.out | apply below_alloc | apply pw_below_drewN | apply below_drew1) | exact HB.out))) hk))); (case aO => exact (by (with_reducible repeat (first | apply Kd.R_alloc | apply Kd.R_drewN | apply Kd.R_drew)); exact Kd.R_mono HO375.out (fun _ hk => hk.1))); (case aS => exact (below_size (by repeat (first | (with_reducible first | exact HB.out | apply below_alloc | apply pw_below_drewN | apply below_drew1) | exact HB.out)))); (case aL => have := LMc6.out; omega); intro v377 w9 ho hb hg hat; rw [← Ny376.out] at ho; have n0_ := Aside0.mk (Kd.V_afterv (ok := (fun k_ => (P2_ k_ ∨ w.heap.size ≤ k_))) (by (with_reducible repeat (first | apply Kd.V_alloc | apply Kd.V_drewN | apply Kd.V_drew)); exact HO2.out) hg hat); have n1_ := Aside0.mk (hb); have n2_ := Aside0.mk (ho); clear HO2; clear HB; clear HO375; have HO2 := n0_; have HB := n1_; have HO378 := n2_; clear n0_ n1_ n2_; clear ho hb hg hat))
        go_ret
        exact ⟨_, by first | rfl | (simp [errW_none, errW_some] <;> rfl) | (simp [*, errW_none, errW_some] <;> rfl), Kd.V_mono (Kd.R_V (by (with_reducible repeat (first | apply Kd.R_alloc | apply Kd.R_drewN | apply Kd.R_drew)); exact HO378.out)) (fun k_ hk => by first | exact ⟨(.inr (hk.1)), hk.2⟩ | exact (.inr (hk))), by repeat (first | (with_reducible first | exact HB.out | apply below_alloc | apply pw_below_drewN | apply below_drew1) | exact HB.out)⟩
      · rw [if_neg c6] at H
        exact absurd H (by simp)
    · rw [if_neg c5] at H
      have c5b0 : ((l2.length : Int) == 0) = false := beq_eq_false_iff_ne.mpr c5
      have c5b1 : ((l2.length : Int) != 0) = true := bne_iff_ne.mpr c5
      have c5b2 : ¬ (l2 = []) := fun h_ => c5 (by rw [h_]; rfl)
      replace H := Option.bind_eq_some_iff.mp H
      obtain ⟨t379, A100, H⟩ := H
      replace H : ((swarfref38_way.f k l0 l2).bind fun t380 => (if t379 < t380 then ((some (([] : List Int) : List Int)).bind fun y381 => (if y381.length + l1.length < 17592186044416 then (some (y381 ++ l1)) else (none))) else (some l2))) = some r := H
      have A10 := Aside0.mk A100
      clear A100
      replace H := Option.bind_eq_some_iff.mp H
      obtain ⟨t380, A110, H⟩ := H
      replace H : (if t379 < t380 then ((some (([] : List Int) : List Int)).bind fun y381 => (if y381.length + l1.length < 17592186044416 then (some (y381 ++ l1)) else (none))) else (some l2)) = some r := H
      have A11 := Aside0.mk A110
      clear A110
      by_cases c12 : t379 < t380
      · rw [if_pos c12] at H
        have c12b0 : decide (t379 < t380) = true := decide_eq_true c12
        clear c12
        obtain ⟨y381, hy381⟩ : ∃ y_ : List Int, y_ = (([] : List Int)) := ⟨_, rfl⟩
        replace H : (if y381.length + l1.length < 17592186044416 then (some (y381 ++ l1)) else (none)) = some r := by first | (rw [hy381]; with_reducible exact H) | (have H2_ := (Option.bind_some _ _).symm.trans H; rw [hy381]; with_reducible exact H2_) | (have H2_ := (Option.bind_some _ _).symm.trans H; with_reducible exact H2_) | with_reducible exact H | (rw [hy381]; exact H) | exact H
        have Ny381 := Aside0.mk hy381
        clear hy381
        by_cases c13 : y381.length + l1.length < 17592186044416
        · rw [if_pos c13] at H
          have LMc13 := Aside0.mk c13
          clear c13
          obtain ⟨y384, hy384⟩ : ∃ y_ : List Int, y_ = (y381 ++ l1) := ⟨_, rfl⟩
          replace H : (some y384) = some r := by first | (rw [hy384]; with_reducible exact H) | (have H2_ := (Option.bind_some _ _).symm.trans H; rw [hy384]; with_reducible exact H2_) | (have H2_ := (Option.bind_some _ _).symm.trans H; with_reducible exact H2_) | with_reducible exact H | (rw [hy384]; exact H) | exact H
          have Ny384 := Aside0.mk hy384
          clear hy384
          obtain rfl := Option.some.inj H
          go_enter Try.func39, Try.ntmps39
          go_wp2_with (first | (go_at_call 33; (with_reducible refine (swarfref38_way.calls k _ _ l0 _ _ l1 t379 _ ?side1 ?side2 ?side3 ?side4 A10.out).mono ?_); (case side1 => repeat (first | exact HR0.out | (with_reducible refine Kd.C_alloc ?_ _) | (with_reducible refine Kd.C_drewN ?_ _) | (with_reducible refine Kd.C_drew ?_))); (case side2 => exact HC0.out); (case side3 => repeat (first | exact HR1.out | (with_reducible refine Kd.C_alloc ?_ _) | (with_reducible refine Kd.C_drewN ?_ _) | (with_reducible refine Kd.C_drew ?_))); (case side4 => exact HC1.out); rintro e w14 ⟨rfl, hb⟩; have n0_ := Aside0.mk (Kd.V_below (by (with_reducible repeat (first | apply Kd.V_alloc | apply Kd.V_drewN | apply Kd.V_drew)); exact HO2.out) hb); have n1_ := Aside0.mk (below_step (by repeat (first | (with_reducible first | exact HB.out | apply below_alloc | apply pw_below_drewN | apply below_drew1) | exact HB.out)) hb); clear HO2; clear HB; have HO2 := n0_; have HB := n1_; clear n0_ n1_; (try clear hb); (try clear hb2); (try clear hk); (try clear hi)) | (go_at_call 33; (with_reducible refine (swarfref38_way.calls k _ _ l0 _ _ l2 t380 _ ?side1 ?side2 ?side3 ?side4 A11.out).mono ?_); (case side1 => repeat (first | exact (Kd.C_below HR0.out HB.out) | (with_reducible refine Kd.C_alloc ?_ _) | (with_reducible refine Kd.C_drewN ?_ _) | (with_reducible refine Kd.C_drew ?_))); (case side2 => exact HC0.out); (case side3 => repeat (first | exact (Kd.V_reads' HO2.out).2.2 | (with_reducible refine Kd.C_alloc ?_ _) | (with_reducible refine Kd.C_drewN ?_ _) | (with_reducible refine Kd.C_drew ?_))); (case side4 => exact (Kd.V_reads' HO2.out).2.1); rintro e w15 ⟨rfl, hb⟩; have n0_ := Aside0.mk (Kd.V_below (by (with_reducible repeat (first | apply Kd.V_alloc | apply Kd.V_drewN | apply Kd.V_drew)); exact HO2.out) hb); have n1_ := Aside0.mk (below_step (by repeat (first | (with_reducible first | exact HB.out | apply below_alloc | apply pw_below_drewN | apply below_drew1) | exact HB.out)) hb); clear HO2; clear HB; have HO2 := n0_; have HB := n1_; clear n0_ n1_; (try clear hb); (try clear hb2); (try clear hk); (try clear hi)) | ((with_reducible refine gate_dst (N := 25) rfl ?_); refine Kd.R_lit (Kd.int .i64) _ 3 ?hg (N := 25) ?hd (xs := ([] : List Int)) (inner := []) (ok := fun _ => True) (okp := fun _ => True) ?hr ?hp (fun _ hk => hk) trivial (Below.refl _ _) (Nat.le_refl _) (by simp) ?_; (case hd => rfl); (case hg => rfl); (case hr => first | (go_simp; done) | (go_simp; rfl)); (case hp => exact (Reps.none _ _)); intro v382 w16 ho17 hb hg_ hnew_; clear hg_ hnew_; (first | rw [← Ny381.out] at ho17 | (simp only [Int.reduceToNat] at ho17; rw [← Ny381.out] at ho17)); have n0_ := Aside0.mk (Kd.V_elder' (by (with_reducible repeat (first | apply Kd.V_alloc | apply Kd.V_drewN | apply Kd.V_drew)); exact HO2.out) (Kd.R_base ho17) hb); have n1_ := Aside0.mk (Kd.R_lower (Kd.R_newM (M := fun k_ => (w.heap.size ≤ k_)) ho17 (below_size (by repeat (first | (with_reducible first | exact HB.out | apply below_alloc | apply pw_below_drewN | apply below_drew1) | exact HB.out))) (fun k_ h_ => h_)) (below_size (by repeat (first | (with_reducible first | exact HB.out | apply below_alloc | apply pw_below_drewN | apply below_drew1) | exact HB.out)))); have n2_ := Aside0.mk (below_step (by repeat (first | (with_reducible first | exact HB.out | apply below_alloc | apply pw_below_drewN | apply below_drew1) | exact HB.out)) hb); clear HO2; clear HB; have HO2 := n0_; have HO383 := n1_; have HB := n2_; clear n0_ n1_ n2_; clear hb ho17) | ((with_reducible refine gate_builtin (b := .append) (xs := #[.tmp 25, .tmp 26]) rfl ?_); at_builtin; refine Kd.R_append_rows (Kd.int .i64) (w0 := w) w.heap.size rfl (.tmp 25) (.tmp 26) 23 3 (.int .i64 0) 8 rfl Try.underlying23 info3 rfl (by decide) (by omega) v382 y381 l1 _ _ _ (fun k_ => (w.heap.size ≤ k_)) (fun _ => False) rfl rfl ?aO ?aR (fun _ _ h => h) (fun _ h => h.elim) ?aF ?aB ?aS ?aL ?_; (case aR => repeat (first | exact (Kd.C_below HR1.out HB.out) | (with_reducible refine Kd.C_alloc ?_ _) | (with_reducible refine Kd.C_drewN ?_ _) | (with_reducible refine Kd.C_drew ?_))); (case aB => exact (by repeat (first | (with_reducible first | exact HB.out | apply below_alloc | apply pw_below_drewN | apply below_drew1) | exact HB.out))); (case aF => exact (fun k_ hk => (Nat.le_trans (below_size (by repeat (first | (with_reducible first | exact HB.out | apply below_alloc | apply pw_below_drewN | apply below_drew1) | exact HB.out))) hk))); (case aO => exact (by (with_reducible repeat (first | apply Kd.R_alloc | apply Kd.R_drewN | apply Kd.R_drew)); exact Kd.R_mono HO383.out (fun _ hk => hk.1))); (case aS => exact (below_size (by repeat (first | (with_reducible first | exact HB.out | apply below_alloc | apply pw_below_drewN | apply below_drew1) | exact HB.out)))); (case aL => have := LMc13.out; omega); intro v385 w18 ho hb hg hat; rw [← Ny384.out] at ho; have n0_ := Aside0.mk (Kd.V_afterv (ok := (fun k_ => (P2_ k_ ∨ w.heap.size ≤ k_))) (by (with_reducible repeat (first | apply Kd.V_alloc | apply Kd.V_drewN | apply Kd.V_drew)); exact HO2.out) hg hat); have n1_ := Aside0.mk (hb); have n2_ := Aside0.mk (ho); clear HO2; clear HB; clear HO383; have HO2 := n0_; have HB := n1_; have HO386 := n2_; clear n0_ n1_ n2_; clear ho hb hg hat))
          go_ret
          exact ⟨_, by first | rfl | (simp [errW_none, errW_some] <;> rfl) | (simp [*, errW_none, errW_some] <;> rfl), Kd.V_mono (Kd.R_V (by (with_reducible repeat (first | apply Kd.R_alloc | apply Kd.R_drewN | apply Kd.R_drew)); exact HO386.out)) (fun k_ hk => by first | exact ⟨(.inr (hk.1)), hk.2⟩ | exact (.inr (hk))), by repeat (first | (with_reducible first | exact HB.out | apply below_alloc | apply pw_below_drewN | apply below_drew1) | exact HB.out)⟩
        · rw [if_neg c13] at H
          exact absurd H (by simp)
      · rw [if_neg c12] at H
        have c12b0 : decide (t379 < t380) = false := decide_eq_false c12
        clear c12
        obtain rfl := Option.some.inj H
        go_enter Try.func39, Try.ntmps39
        go_wp2_with (first | (go_at_call 33; (with_reducible refine (swarfref38_way.calls k _ _ l0 _ _ l1 t379 _ ?side1 ?side2 ?side3 ?side4 A10.out).mono ?_); (case side1 => repeat (first | exact HR0.out | (with_reducible refine Kd.C_alloc ?_ _) | (with_reducible refine Kd.C_drewN ?_ _) | (with_reducible refine Kd.C_drew ?_))); (case side2 => exact HC0.out); (case side3 => repeat (first | exact HR1.out | (with_reducible refine Kd.C_alloc ?_ _) | (with_reducible refine Kd.C_drewN ?_ _) | (with_reducible refine Kd.C_drew ?_))); (case side4 => exact HC1.out); rintro e w19 ⟨rfl, hb⟩; have n0_ := Aside0.mk (Kd.V_below (by (with_reducible repeat (first | apply Kd.V_alloc | apply Kd.V_drewN | apply Kd.V_drew)); exact HO2.out) hb); have n1_ := Aside0.mk (below_step (by repeat (first | (with_reducible first | exact HB.out | apply below_alloc | apply pw_below_drewN | apply below_drew1) | exact HB.out)) hb); clear HO2; clear HB; have HO2 := n0_; have HB := n1_; clear n0_ n1_; (try clear hb); (try clear hb2); (try clear hk); (try clear hi)) | (go_at_call 33; (with_reducible refine (swarfref38_way.calls k _ _ l0 _ _ l2 t380 _ ?side1 ?side2 ?side3 ?side4 A11.out).mono ?_); (case side1 => repeat (first | exact (Kd.C_below HR0.out HB.out) | (with_reducible refine Kd.C_alloc ?_ _) | (with_reducible refine Kd.C_drewN ?_ _) | (with_reducible refine Kd.C_drew ?_))); (case side2 => exact HC0.out); (case side3 => repeat (first | exact (Kd.V_reads' HO2.out).2.2 | (with_reducible refine Kd.C_alloc ?_ _) | (with_reducible refine Kd.C_drewN ?_ _) | (with_reducible refine Kd.C_drew ?_))); (case side4 => exact (Kd.V_reads' HO2.out).2.1); rintro e w20 ⟨rfl, hb⟩; have n0_ := Aside0.mk (Kd.V_below (by (with_reducible repeat (first | apply Kd.V_alloc | apply Kd.V_drewN | apply Kd.V_drew)); exact HO2.out) hb); have n1_ := Aside0.mk (below_step (by repeat (first | (with_reducible first | exact HB.out | apply below_alloc | apply pw_below_drewN | apply below_drew1) | exact HB.out)) hb); clear HO2; clear HB; have HO2 := n0_; have HB := n1_; clear n0_ n1_; (try clear hb); (try clear hb2); (try clear hk); (try clear hi)))
        go_ret
        exact ⟨_, by first | rfl | (simp [errW_none, errW_some] <;> rfl) | (simp [*, errW_none, errW_some] <;> rfl), by (with_reducible repeat (first | apply Kd.V_alloc | apply Kd.V_drewN | apply Kd.V_drew)); exact HO2.out, by repeat (first | (with_reducible first | exact HB.out | apply below_alloc | apply pw_below_drewN | apply below_drew1) | exact HB.out)⟩
  · rw [if_neg c4] at H
    have c4b0 : ((l1.length : Int) == (l0.length : Int)) = false := beq_eq_false_iff_ne.mpr c4
    have c4b1 : ((l1.length : Int) != (l0.length : Int)) = true := bne_iff_ne.mpr c4
    have c4b2 : (l1.length == l0.length) = false := by first | simpa using c4 | (simp at c4 ⊢; omega)
    have H' := Aside0.mk H
    clear H
    go_enter Try.func39, Try.ntmps39
    go_wp2
    go_loopg [2, 7] k (fun kq v2 v7 w' => ∃ (x2_1 : List Int) (x7_1 : Int), v7 = .int .i64 x7_1 ∧ Aside0 (swarfref38_search.l0 kq l0 l1 x2_1 x7_1 = some r) ∧ Aside0 (kq ≤ k) ∧ Aside0 (Kd.V (Kd.int .i64) 3 w' w.heap.size (fun k_ => (P2_ k_ ∨ w.heap.size ≤ k_)) v2 x2_1) ∧ Aside0 (Below w.heap.size w w'))
    case atStart => exact ⟨(l2), (0), (by first | rfl | (simp; done) | (simp [*]; done)), H', ⟨Nat.le_refl _⟩, ⟨by (with_reducible repeat (first | apply Kd.V_alloc | apply Kd.V_drewN | apply Kd.V_drew)); exact HO2.out⟩, ⟨by repeat (first | (with_reducible first | exact HB.out | apply below_alloc | apply pw_below_drewN | apply below_drew1) | exact HB.out)⟩⟩
    case round =>
      clear H'
      try clear c1
      try clear c2
      try clear p2
      try clear c3
      try clear c4
      try clear c4b0
      try clear c4b1
      try clear c4b2
      try clear c5
      try clear c5b0
      try clear c5b1
      try clear c5b2
      try clear c6
      try clear c12
      try clear c12b0
      try clear c13
      obtain ⟨x2_1, x7_1, rfl, HA, HK1, HO_2, HB⟩ := hrel
      cases gk with
      | zero => exact absurd HA.out (by simp [swarfref38_search.l0])
      | succ k1 =>
        have H := HA.out
        clear HA
        simp only [swarfref38_search.l0] at H
        by_cases c21 : x7_1 < (l0.length : Int)
        · rw [if_pos c21] at H
          have c21b0 : decide (x7_1 < (l0.length : Int)) = true := decide_eq_true c21
          clear c21
          replace H := Option.bind_eq_some_iff.mp H
          obtain ⟨t387, A220, H⟩ := H
          replace H : (if t387 = true then (swarfref38_search.l0 k1 l0 l1 x2_1 (wrap64 (x7_1 + 1))) else ((some (([] : List Int) : List Int)).bind fun y388 => (if y388.length + l1.length < 17592186044416 then ((some (y388 ++ l1 : List Int)).bind fun y391 => (if y391.length < 17592186044416 then ((swarfref38_search.f k1 l0 (y391 ++ [x7_1]) x2_1).bind fun t397 => (swarfref38_search.l0 k1 l0 l1 t397 (wrap64 (x7_1 + 1)))) else (none))) else (none)))) = some r := H
          have A22 := Aside0.mk A220
          clear A220
          by_cases c23 : t387 = true
          · subst c23
            have H1 : (swarfref38_search.l0 k1 l0 l1 x2_1 (wrap64 (x7_1 + 1))) = some r := by rw [if_pos rfl] at H; exact H
            clear H
            have H := H1
            clear H1
            have H' := Aside0.mk H
            clear H
            go_wp2_with (first | ((with_reducible refine gate_callee (f := 35) rfl ?_); refine goesL_ (some 37) rfl rfl Try.func35 (by kernel_rfl) rfl #[.slice A1 l1.length c1, .int .i64 x7_1] rfl (by (try simp only [List.map_toArray, List.map_cons, List.map_nil]); first | done | rfl | (simp only [List.length_drop, List.length_take]; rfl)) ?_; (with_reducible refine (swarfref38_has.calls k1 _ _ l1 x7_1 true _ ?side1 ?side2 A22.out).mono ?_); (case side1 => repeat (first | exact (Kd.C_below HR1.out HB.out) | (with_reducible refine Kd.C_alloc ?_ _) | (with_reducible refine Kd.C_drewN ?_ _) | (with_reducible refine Kd.C_drew ?_))); (case side2 => exact HC1.out); rintro e w' ⟨rfl, ⟨nd, rfl⟩⟩; refine ⟨_, rfl, ?_⟩))
            go_roundg k1
            case measure => have := HK1.out; omega
            case rel => exact ⟨(x2_1), (wrap64 (x7_1 + 1)), (by first | rfl | (simp; done) | (simp [*]; done)), H', ⟨by have := HK1.out; omega⟩, ⟨by (with_reducible repeat (first | apply Kd.V_alloc | apply Kd.V_drewN | apply Kd.V_drew)); exact HO_2.out⟩, ⟨by repeat (first | (with_reducible first | exact HB.out | apply below_alloc | apply pw_below_drewN | apply below_drew1) | exact HB.out)⟩⟩
          · replace c23 := Bool.eq_false_iff.mpr c23
            subst c23
            have H1 : ((some (([] : List Int) : List Int)).bind fun y388 => (if y388.length + l1.length < 17592186044416 then ((some (y388 ++ l1 : List Int)).bind fun y391 => (if y391.length < 17592186044416 then ((swarfref38_search.f k1 l0 (y391 ++ [x7_1]) x2_1).bind fun t397 => (swarfref38_search.l0 k1 l0 l1 t397 (wrap64 (x7_1 + 1)))) else (none))) else (none))) = some r := by rw [if_neg (show ¬ (false = true) by decide)] at H; exact H
            clear H
            have H := H1
            clear H1
            obtain ⟨y388, hy388⟩ : ∃ y_ : List Int, y_ = (([] : List Int)) := ⟨_, rfl⟩
            replace H : (if y388.length + l1.length < 17592186044416 then ((some (y388 ++ l1 : List Int)).bind fun y391 => (if y391.length < 17592186044416 then ((swarfref38_search.f k1 l0 (y391 ++ [x7_1]) x2_1).bind fun t397 => (swarfref38_search.l0 k1 l0 l1 t397 (wrap64 (x7_1 + 1)))) else (none))) else (none)) = some r := by first | (rw [hy388]; with_reducible exact H) | (have H2_ := (Option.bind_some _ _).symm.trans H; rw [hy388]; with_reducible exact H2_) | (have H2_ := (Option.bind_some _ _).symm.trans H; with_reducible exact H2_) | with_reducible exact H | (rw [hy388]; exact H) | exact H
            have Ny388 := Aside0.mk hy388
            clear hy388
            by_cases c24 : y388.length + l1.length < 17592186044416
            · rw [if_pos c24] at H
              have LMc24 := Aside0.mk c24
              clear c24
              obtain ⟨y391, hy391⟩ : ∃ y_ : List Int, y_ = (y388 ++ l1) := ⟨_, rfl⟩
              replace H : (if y391.length < 17592186044416 then ((swarfref38_search.f k1 l0 (y391 ++ [x7_1]) x2_1).bind fun t397 => (swarfref38_search.l0 k1 l0 l1 t397 (wrap64 (x7_1 + 1)))) else (none)) = some r := by first | (rw [hy391]; with_reducible exact H) | (have H2_ := (Option.bind_some _ _).symm.trans H; rw [hy391]; with_reducible exact H2_) | (have H2_ := (Option.bind_some _ _).symm.trans H; with_reducible exact H2_) | with_reducible exact H | (rw [hy391]; exact H) | exact H
              have Ny391 := Aside0.mk hy391
              clear hy391
              by_cases c25 : y391.length < 17592186044416
              · rw [if_pos c25] at H
                have LMc25 := Aside0.mk c25
                clear c25
                obtain ⟨y394, hy394⟩ : ∃ y_ : List Int, y_ = (y391 ++ [x7_1]) := ⟨_, rfl⟩
                replace H : ((swarfref38_search.f k1 l0 y394 x2_1).bind fun t397 => (swarfref38_search.l0 k1 l0 l1 t397 (wrap64 (x7_1 + 1)))) = some r := by first | (rw [hy394]; with_reducible exact H) | (have H2_ := (Option.bind_some _ _).symm.trans H; rw [hy394]; with_reducible exact H2_) | (have H2_ := (Option.bind_some _ _).symm.trans H; with_reducible exact H2_) | with_reducible exact H | (rw [hy394]; exact H) | exact H
                have Ny394 := Aside0.mk hy394
                clear hy394
                replace H := Option.bind_eq_some_iff.mp H
                obtain ⟨t397, A260, H⟩ := H
                replace H : (swarfref38_search.l0 k1 l0 l1 t397 (wrap64 (x7_1 + 1))) = some r := H
                have A26 := Aside0.mk A260
                clear A260
                have H' := Aside0.mk H
                clear H
                go_wp2_with (first | ((with_reducible refine gate_callee (f := 35) rfl ?_); refine goesL_ (some 37) rfl rfl Try.func35 (by kernel_rfl) rfl #[.slice A1 l1.length c1, .int .i64 x7_1] rfl (by (try simp only [List.map_toArray, List.map_cons, List.map_nil]); first | done | rfl | (simp only [List.length_drop, List.length_take]; rfl)) ?_; (with_reducible refine (swarfref38_has.calls k1 _ _ l1 x7_1 false _ ?side1 ?side2 A22.out).mono ?_); (case side1 => repeat (first | exact (Kd.C_below HR1.out HB.out) | (with_reducible refine Kd.C_alloc ?_ _) | (with_reducible refine Kd.C_drewN ?_ _) | (with_reducible refine Kd.C_drew ?_))); (case side2 => exact HC1.out); rintro e w' ⟨rfl, ⟨nd, rfl⟩⟩; refine ⟨_, rfl, ?_⟩) | ((with_reducible refine gate_dst (N := 40) rfl ?_); refine Kd.R_lit (Kd.int .i64) _ 3 ?hg (N := 40) ?hd (xs := ([] : List Int)) (inner := []) (ok := fun _ => True) (okp := fun _ => True) ?hr ?hp (fun _ hk => hk) trivial (Below.refl _ _) (Nat.le_refl _) (by simp) ?_; (case hd => rfl); (case hg => rfl); (case hr => first | (go_simp; done) | (go_simp; rfl)); (case hp => exact (Reps.none _ _)); intro v389 w27 ho28 hb hg_ hnew_; clear hg_ hnew_; (first | rw [← Ny388.out] at ho28 | (simp only [Int.reduceToNat] at ho28; rw [← Ny388.out] at ho28)); have n0_ := Aside0.mk (Kd.V_elder' (by (with_reducible repeat (first | apply Kd.V_alloc | apply Kd.V_drewN | apply Kd.V_drew)); exact HO_2.out) (Kd.R_base ho28) hb); have n1_ := Aside0.mk (Kd.R_lower (Kd.R_newM (M := fun k_ => (w.heap.size ≤ k_)) ho28 (below_size (by repeat (first | (with_reducible first | exact HB.out | apply below_alloc | apply pw_below_drewN | apply below_drew1) | exact HB.out))) (fun k_ h_ => h_)) (below_size (by repeat (first | (with_reducible first | exact HB.out | apply below_alloc | apply pw_below_drewN | apply below_drew1) | exact HB.out)))); have n2_ := Aside0.mk (below_step (by repeat (first | (with_reducible first | exact HB.out | apply below_alloc | apply pw_below_drewN | apply below_drew1) | exact HB.out)) hb); clear HO_2; clear HB; have HO_2 := n0_; have HO390 := n1_; have HB := n2_; clear n0_ n1_ n2_; clear hb ho28) | ((with_reducible refine gate_builtin (b := .append) (xs := #[.tmp 40, .tmp 41]) rfl ?_); at_builtin; refine Kd.R_append_rows (Kd.int .i64) (w0 := w) w.heap.size rfl (.tmp 40) (.tmp 41) 23 3 (.int .i64 0) 8 rfl Try.underlying23 info3 rfl (by decide) (by omega) v389 y388 l1 _ _ _ (fun k_ => (w.heap.size ≤ k_)) (fun _ => False) rfl rfl ?aO ?aR (fun _ _ h => h) (fun _ h => h.elim) ?aF ?aB ?aS ?aL ?_; (case aR => repeat (first | exact (Kd.C_below HR1.out HB.out) | (with_reducible refine Kd.C_alloc ?_ _) | (with_reducible refine Kd.C_drewN ?_ _) | (with_reducible refine Kd.C_drew ?_))); (case aB => exact (by repeat (first | (with_reducible first | exact HB.out | apply below_alloc | apply pw_below_drewN | apply below_drew1) | exact HB.out))); (case aF => exact (fun k_ hk => (Nat.le_trans (below_size (by repeat (first | (with_reducible first | exact HB.out | apply below_alloc | apply pw_below_drewN | apply below_drew1) | exact HB.out))) hk))); (case aO => exact (by (with_reducible repeat (first | apply Kd.R_alloc | apply Kd.R_drewN | apply Kd.R_drew)); exact Kd.R_mono HO390.out (fun _ hk => hk.1))); (case aS => exact (below_size (by repeat (first | (with_reducible first | exact HB.out | apply below_alloc | apply pw_below_drewN | apply below_drew1) | exact HB.out)))); (case aL => have := LMc24.out; omega); intro v392 w29 ho hb hg hat; rw [← Ny391.out] at ho; have n0_ := Aside0.mk (Kd.V_afterv (ok := (fun k_ => (P2_ k_ ∨ w.heap.size ≤ k_))) (by (with_reducible repeat (first | apply Kd.V_alloc | apply Kd.V_drewN | apply Kd.V_drew)); exact HO_2.out) hg hat); have n1_ := Aside0.mk (hb); have n2_ := Aside0.mk (ho); clear HO_2; clear HB; clear HO390; have HO_2 := n0_; have HB := n1_; have HO393 := n2_; clear n0_ n1_ n2_; clear ho hb hg hat) | ((with_reducible refine gate_builtin (b := .append) (xs := #[.tmp 42, .tmp 44]) rfl ?_); at_builtin; refine Kd.R_append (Kd.int .i64) (w0 := w) w.heap.size rfl (.tmp 42) (.tmp 44) 23 3 (.int .i64 0) 8 rfl Try.underlying23 info3 rfl (by decide) (by omega) v392 y391 x7_1 [.int .i64 x7_1] (fun k_ => (w.heap.size ≤ k_)) (fun _ => False) rfl rfl ?aP (fun _ hk => hk.elim) ?aF ?aO ?aB ?aS ?aL ?_; (case aP => exact rfl); (case aB => exact (by repeat (first | (with_reducible first | exact HB.out | apply below_alloc | apply pw_below_drewN | apply below_drew1) | exact HB.out))); (case aF => exact (fun k_ hk => (Nat.le_trans (below_size (by repeat (first | (with_reducible first | exact HB.out | apply below_alloc | apply pw_below_drewN | apply below_drew1) | exact HB.out))) hk))); (case aO => exact (by (with_reducible repeat (first | apply Kd.R_alloc | apply Kd.R_drewN | apply Kd.R_drew)); exact HO393.out)); (case aS => exact (below_size (by repeat (first | (with_reducible first | exact HB.out | apply below_alloc | apply pw_below_drewN | apply below_drew1) | exact HB.out)))); (case aL => have := LMc25.out; omega); intro v395 w30 ho hb hg hat; rw [← Ny394.out] at ho; have n0_ := Aside0.mk (Kd.V_afterv (ok := (fun k_ => (P2_ k_ ∨ w.heap.size ≤ k_))) (by (with_reducible repeat (first | apply Kd.V_alloc | apply Kd.V_drewN | apply Kd.V_drew)); exact HO_2.out) hg hat); have n1_ := Aside0.mk (hb); have n2_ := Aside0.mk (ho); clear HO_2; clear HB; clear HO393; have HO_2 := n0_; have HB := n1_; have HO396 := n2_; clear n0_ n1_ n2_; clear ho hb hg hat; obtain ⟨Ao31, co31, eo31⟩ := Kd.R_slice HO396.out; subst eo31; obtain ⟨Ao32, co32, eo32⟩ := Kd.V_slice HO_2.out; subst eo32) | ((with_reducible refine gate_callee (f := 39) rfl ?_); refine goesL_ (some 47) rfl rfl Try.func39 (by kernel_rfl) rfl #[.slice A0 l0.length c0, .slice Ao31 y394.length co31, .slice Ao32 x2_1.length co32] rfl (by (try simp only [List.map_toArray, List.map_cons, List.map_nil]); first | done | rfl | (simp only [List.length_drop, List.length_take]; rfl)) ?_; (with_reducible refine (ih k1 (by have := HK1.out; omega) _ _ l0 _ _ y394 (fun k_ => ((P2_ k_ ∨ w.heap.size ≤ k_) ∧ some k_ ≠ (.slice Ao31 y394.length co31 : Value).ownBlock)) _ _ x2_1 t397 _ ?side1 ?side2 ?side3 ?side4 ?side5 A26.out).mono ?_); (case side1 => repeat (first | exact (Kd.C_below HR0.out HB.out) | (with_reducible refine Kd.C_alloc ?_ _) | (with_reducible refine Kd.C_drewN ?_ _) | (with_reducible refine Kd.C_drew ?_))); (case side2 => exact HC0.out); (case side3 => repeat (first | exact (Kd.R_reads' HO396.out).2.2 | (with_reducible refine Kd.C_alloc ?_ _) | (with_reducible refine Kd.C_drewN ?_ _) | (with_reducible refine Kd.C_drew ?_))); (case side4 => exact (Kd.R_reads' HO396.out).2.1); (case side5 => exact HO_2.out); rintro e w33 ⟨v398, rfl, ho0, hb⟩; refine ⟨_, rfl, ?_⟩; have n0_ := Aside0.mk (Kd.V_below (by (with_reducible repeat (first | apply Kd.V_alloc | apply Kd.V_drewN | apply Kd.V_drew)); exact HO_2.out) hb); have n1_ := Aside0.mk (Kd.R_below (by (with_reducible repeat (first | apply Kd.R_alloc | apply Kd.R_drewN | apply Kd.R_drew)); exact HO396.out) hb); have n2_ := Aside0.mk (Kd.V_lower (Kd.V_mono (ok' := fun k_ => (P2_ k_ ∨ w.heap.size ≤ k_) ∧ some k_ ≠ (.slice Ao31 y394.length co31 : Value).ownBlock) ho0 (fun k_ hk_ => ⟨Or.elim hk_ (fun hs_ => hs_.1) (fun hn_ => (.inr (Nat.le_trans (below_size (by repeat (first | (with_reducible first | exact HB.out | apply below_alloc | apply pw_below_drewN | apply below_drew1) | exact HB.out))) hn_))), Or.elim hk_ (fun hs_ => hs_.2) (fun hn_ => (Kd.fresh' (Kd.R_lt (by (with_reducible repeat (first | apply Kd.R_alloc | apply Kd.R_drewN | apply Kd.R_drew)); exact HO396.out)) k_ hn_))⟩)) (below_size (by repeat (first | (with_reducible first | exact HB.out | apply below_alloc | apply pw_below_drewN | apply below_drew1) | exact HB.out)))); have n3_ := Aside0.mk (below_step (by repeat (first | (with_reducible first | exact HB.out | apply below_alloc | apply pw_below_drewN | apply below_drew1) | exact HB.out)) hb); clear HO_2; clear HO396; clear HB; have HO_2 := n0_; have HO396 := n1_; have HO399 := n2_; have HB := n3_; clear n0_ n1_ n2_ n3_; (try clear hb); (try clear hb2); (try clear hk); (try clear hi); (try clear ho0)))
                go_roundg k1
                case measure => have := HK1.out; omega
                case rel => exact ⟨(t397), (wrap64 (x7_1 + 1)), (by first | rfl | (simp; done) | (simp [*]; done)), H', ⟨by have := HK1.out; omega⟩, ⟨by (with_reducible repeat (first | apply Kd.V_alloc | apply Kd.V_drewN | apply Kd.V_drew)); exact Kd.V_mono HO399.out (fun _ hk => hk.1)⟩, ⟨by repeat (first | (with_reducible first | exact HB.out | apply below_alloc | apply pw_below_drewN | apply below_drew1) | exact HB.out)⟩⟩
              · rw [if_neg c25] at H
                exact absurd H (by simp)
            · rw [if_neg c24] at H
              exact absurd H (by simp)
        · rw [if_neg c21] at H
          have c21b0 : decide (x7_1 < (l0.length : Int)) = false := decide_eq_false c21
          clear c21
          obtain rfl := Option.some.inj H
          go_wp2
          go_ret
          exact ⟨_, by first | rfl | (simp [errW_none, errW_some] <;> rfl) | (simp [*, errW_none, errW_some] <;> rfl), by (with_reducible repeat (first | apply Kd.V_alloc | apply Kd.V_drewN | apply Kd.V_drew)); exact HO_2.out, by repeat (first | (with_reducible first | exact HB.out | apply below_alloc | apply pw_below_drewN | apply below_drew1) | exact HB.out)⟩

end Go.Proofs.Ytohjocajaanhaaa.P

-- PRINTED by print.py (a twelfth state) out of the translation. Not trusted: Lean checks it.

namespace Go.Proofs.Ytohjocajaanhaaa.P
open Go.RowKit Go.Proofs.YtohjocajaanhaaaW.PrintWords Go.Proofs.YtohjocajaanhaaaW.PrintLast Go.Proofs.YtohjocajaanhaaaW.PrintMore
attribute [local go_sem] max2_int min2_int max_two min_two max_three min_three max_four min_four   -- for this text's walks alone
set_option linter.unusedVariables false
set_option linter.unusedSimpArgs false

/-! ### swarfref38_Exact: function 23 -/
def swarfref38_Exact.f (k : Nat) (l0 : List (S31)) : Option (List Int × Int × Int) := (swarfref38_Valid.f k l0 10).bind fun t324 => (if t324 = 0 then (if (l0.length : Int) = 0 then (some (([] : List Int), 0, 0)) else ((swarfref38_search.f k l0 (([0] : List Int)) ([] : List Int)).bind fun t328 => ((swarfref38_way.f k l0 t328).bind fun t331 => (some (t328, t331, 0))))) else (some (([] : List Int), 0, t324)))
theorem swarfref38_Exact.mono : ∀ a0 k, LeO (swarfref38_Exact.f k a0) (swarfref38_Exact.f (k + 1) a0) := by
  intro a0 k
  unfold swarfref38_Exact.f
  repeat' first
      | (with_reducible exact swarfref38_Valid.mono _ _ _)
      | (with_reducible exact swarfref38_search.mono _ _ _ _)
      | (with_reducible exact swarfref38_way.mono _ _ _)
      | (with_reducible exact LeO.refl _)
      | (with_reducible exact LeO.none _)
      | (with_reducible refine LeO.ite ?_ ?_)
      | (with_reducible refine LeO.bind ?_ (fun _ => ?_))
      | exact swarfref38_Valid.mono _ _ _
      | exact swarfref38_search.mono _ _ _ _
      | exact swarfref38_way.mono _ _ _
      | exact LeO.none _
      | refine LeO.ite ?_ ?_
      | refine LeO.bind ?_ (fun _ => ?_)
set_option maxHeartbeats 8000000 in
set_option maxRecDepth 100000 in
theorem swarfref38_Exact.calls (k : Nat) (A0 : Option Addr) (c0 : Nat) (l0 : List (S31)) (r1 : List Int) (r2 : Int) (r3 : Int) (w : World) (hr0 : Kd.C k31 w A0 l0.length l0) (hc0 : l0.length ≤ c0) (h : swarfref38_Exact.f k l0 = some (r1, r2, r3)) :
    Calls Try.prog 23 #[.slice A0 l0.length c0] w fun e w' => ∃ v0_ : Value, e = .returned (.tuple #[v0_, .int .i64 r2, .int .i64 r3]) ∧ Kd.V (Kd.int .i64) 3 w' w.heap.size (fun k_ => (w.heap.size ≤ k_)) v0_ r1 ∧ Below w.heap.size w w' := by
  have HR0 := Aside0.mk hr0
  have HC0 := Aside0.mk hc0
  clear hr0 hc0
  have HB := Aside0.mk (Below.refl w.heap.size w)
  have H : ((swarfref38_Valid.f k l0 10).bind fun t324 => (if t324 = 0 then (if (l0.length : Int) = 0 then (some (([] : List Int), 0, 0)) else ((swarfref38_search.f k l0 (([0] : List Int)) ([] : List Int)).bind fun t328 => ((swarfref38_way.f k l0 t328).bind fun t331 => (some (t328, t331, 0))))) else (some (([] : List Int), 0, t324)))) = some (r1, r2, r3) := h
  clear h
  replace H := Option.bind_eq_some_iff.mp H
  obtain ⟨t324, A20, H⟩ := H
  replace H : (if t324 = 0 then (if (l0.length : Int) = 0 then (some (([] : List Int), 0, 0)) else ((swarfref38_search.f k l0 (([0] : List Int)) ([] : List Int)).bind fun t328 => ((swarfref38_way.f k l0 t328).bind fun t331 => (some (t328, t331, 0))))) else (some (([] : List Int), 0, t324))) = some (r1, r2, r3) := H
  have A2 := Aside0.mk A20
  clear A20
  by_cases c3 : t324 = 0
  · rw [if_pos c3] at H
    have c3b0 : (t324 == 0) = true := beq_iff_eq.mpr c3
    have c3b1 : (t324 != 0) = false := bne_eq_false_iff_eq.mpr c3
    clear c3
    by_cases c4 : (l0.length : Int) = 0
    · rw [if_pos c4] at H
      have c4b0 : ((l0.length : Int) == 0) = true := beq_iff_eq.mpr c4
      have c4b1 : ((l0.length : Int) != 0) = false := bne_eq_false_iff_eq.mpr c4
      clear c4
      simp only [Option.some.injEq, Prod.mk.injEq] at H
      obtain ⟨rfl, rfl, rfl⟩ := H
      go_enter Try.func23, Try.ntmps23
      go_wp2_with (first | ((with_reducible refine gate_callee (f := 31) rfl ?_); refine goesL_ (some 8) rfl rfl Try.func31 (by kernel_rfl) rfl #[.slice A0 l0.length c0, .int .i64 10] rfl (by (try simp only [List.map_toArray, List.map_cons, List.map_nil]); first | done | rfl | (simp only [List.length_drop, List.length_take]; rfl)) ?_; (with_reducible refine (swarfref38_Valid.calls k _ _ l0 10 t324 _ ?side1 ?side2 A2.out).mono ?_); (case side1 => repeat (first | exact HR0.out | (with_reducible refine Kd.C_alloc ?_ _) | (with_reducible refine Kd.C_drewN ?_ _) | (with_reducible refine Kd.C_drew ?_))); (case side2 => exact HC0.out); rintro e w' ⟨rfl, ⟨nd, rfl⟩⟩; refine ⟨_, rfl, ?_⟩))
      go_ret3
      exact ⟨_, by first | rfl | (simp [errW_none, errW_some] <;> rfl) | (simp [*, errW_none, errW_some] <;> rfl), Kd.R_V (base := w.heap.size) (by first | exact Kd.R_nil _ _ _ _ _ | exact Kd.N_nil _ _ _ _ _ | exact Kd.V_nil _ _ _ _ _ | exact Kd.Q_nil _ _ _ _ _ | exact Kd.S_nil _ _ _ _ _), by repeat (first | (with_reducible first | exact HB.out | apply below_alloc | apply pw_below_drewN | apply below_drew1) | exact HB.out)⟩
    · rw [if_neg c4] at H
      have c4b0 : ((l0.length : Int) == 0) = false := beq_eq_false_iff_ne.mpr c4
      have c4b1 : ((l0.length : Int) != 0) = true := bne_iff_ne.mpr c4
      have c4b2 : ¬ (l0 = []) := fun h_ => c4 (by rw [h_]; rfl)
      obtain ⟨y325, hy325⟩ : ∃ y_ : List Int, y_ = (([0] : List Int)) := ⟨_, rfl⟩
      replace H : ((swarfref38_search.f k l0 y325 ([] : List Int)).bind fun t328 => ((swarfref38_way.f k l0 t328).bind fun t331 => (some (t328, t331, 0)))) = some (r1, r2, r3) := by first | (rw [hy325]; with_reducible exact H) | (have H2_ := (Option.bind_some _ _).symm.trans H; rw [hy325]; with_reducible exact H2_) | (have H2_ := (Option.bind_some _ _).symm.trans H; with_reducible exact H2_) | with_reducible exact H | (rw [hy325]; exact H) | exact H
      have Ny325 := Aside0.mk hy325
      clear hy325
      replace H := Option.bind_eq_some_iff.mp H
      obtain ⟨t328, A50, H⟩ := H
      replace H : ((swarfref38_way.f k l0 t328).bind fun t331 => (some (t328, t331, 0))) = some (r1, r2, r3) := H
      have A5 := Aside0.mk A50
      clear A50
      replace H := Option.bind_eq_some_iff.mp H
      obtain ⟨t331, A60, H⟩ := H
      replace H : (some (t328, t331, 0)) = some (r1, r2, r3) := H
      have A6 := Aside0.mk A60
      clear A60
      simp only [Option.some.injEq, Prod.mk.injEq] at H
      obtain ⟨rfl, rfl, rfl⟩ := H
      go_enter Try.func23, Try.ntmps23
      go_wp2_with (first | ((with_reducible refine gate_callee (f := 31) rfl ?_); refine goesL_ (some 8) rfl rfl Try.func31 (by kernel_rfl) rfl #[.slice A0 l0.length c0, .int .i64 10] rfl (by (try simp only [List.map_toArray, List.map_cons, List.map_nil]); first | done | rfl | (simp only [List.length_drop, List.length_take]; rfl)) ?_; (with_reducible refine (swarfref38_Valid.calls k _ _ l0 10 t324 _ ?side1 ?side2 A2.out).mono ?_); (case side1 => repeat (first | exact HR0.out | (with_reducible refine Kd.C_alloc ?_ _) | (with_reducible refine Kd.C_drewN ?_ _) | (with_reducible refine Kd.C_drew ?_))); (case side2 => exact HC0.out); rintro e w' ⟨rfl, ⟨nd, rfl⟩⟩; refine ⟨_, rfl, ?_⟩) | ((with_reducible refine gate_dst (N := 16) rfl ?_); refine Kd.R_lit (Kd.int .i64) _ 3 ?hg (N := 16) ?hd (xs := ([0] : List Int)) (inner := [.int .i64 0]) (ok := fun _ => True) (okp := fun _ => True) ?hr ?hp (fun _ hk => hk) trivial (Below.refl _ _) (Nat.le_refl _) (by simp) ?_; (case hd => rfl); (case hg => rfl); (case hr => first | (go_simp; done) | (go_simp; rfl)); (case hp => exact (Reps.one (show Kd.M (Kd.int .i64) _ _ _ 0 [.int .i64 0] from rfl) (Reps.none _ _))); intro v326 w7 ho8 hb hg_ hnew_; clear hg_ hnew_; (first | rw [← Ny325.out] at ho8 | (simp only [Int.reduceToNat] at ho8; rw [← Ny325.out] at ho8)); have n0_ := Aside0.mk (Kd.R_lower (Kd.R_newM (M := fun k_ => (w.heap.size ≤ k_)) ho8 (below_size (by repeat (first | (with_reducible first | exact HB.out | apply below_alloc | apply pw_below_drewN | apply below_drew1) | exact HB.out))) (fun k_ h_ => h_)) (below_size (by repeat (first | (with_reducible first | exact HB.out | apply below_alloc | apply pw_below_drewN | apply below_drew1) | exact HB.out)))); have n1_ := Aside0.mk (below_step (by repeat (first | (with_reducible first | exact HB.out | apply below_alloc | apply pw_below_drewN | apply below_drew1) | exact HB.out)) hb); clear HB; have HO327 := n0_; have HB := n1_; clear n0_ n1_; clear hb ho8; obtain ⟨Ao9, co9, eo9⟩ := Kd.R_slice HO327.out; subst eo9) | ((with_reducible refine gate_callee (f := 39) rfl ?_); refine goesL_ (some 17) rfl rfl Try.func39 (by kernel_rfl) rfl #[.slice A0 l0.length c0, .slice Ao9 y325.length co9, .slice none 0 0] rfl (by (try simp only [List.map_toArray, List.map_cons, List.map_nil]); first | done | rfl | (simp only [List.length_drop, List.length_take]; rfl)) ?_; (refine (swarfref38_search.calls k _ _ l0 _ _ y325 (fun k_ => False) _ _ ([] : List Int) t328 _ ?side1 ?side2 ?side3 ?side4 ?side5 A5.out).mono ?_); (case side1 => repeat (first | exact (Kd.C_below HR0.out HB.out) | (with_reducible refine Kd.C_alloc ?_ _) | (with_reducible refine Kd.C_drewN ?_ _) | (with_reducible refine Kd.C_drew ?_))); (case side2 => exact HC0.out); (case side3 => repeat (first | exact (Kd.R_reads' HO327.out).2.2 | (with_reducible refine Kd.C_alloc ?_ _) | (with_reducible refine Kd.C_drewN ?_ _) | (with_reducible refine Kd.C_drew ?_))); (case side4 => exact (Kd.R_reads' HO327.out).2.1); (case side5 => exact Kd.V_nil _ _ _ _ _); rintro e w10 ⟨v329, rfl, ho0, hb⟩; refine ⟨_, rfl, ?_⟩; have n0_ := Aside0.mk (Kd.R_below (by (with_reducible repeat (first | apply Kd.R_alloc | apply Kd.R_drewN | apply Kd.R_drew)); exact HO327.out) hb); have n1_ := Aside0.mk (Kd.V_lower (Kd.V_mono (ok' := fun k_ => (w.heap.size ≤ k_) ∧ some k_ ≠ (.slice Ao9 y325.length co9 : Value).ownBlock) ho0 (fun k_ hk_ => ⟨Or.elim hk_ (fun hs_ => (hs_).elim) (fun hn_ => (Nat.le_trans (below_size (by repeat (first | (with_reducible first | exact HB.out | apply below_alloc | apply pw_below_drewN | apply below_drew1) | exact HB.out))) hn_)), Or.elim hk_ (fun hs_ => (hs_).elim) (fun hn_ => (Kd.fresh' (Kd.R_lt (by (with_reducible repeat (first | apply Kd.R_alloc | apply Kd.R_drewN | apply Kd.R_drew)); exact HO327.out)) k_ hn_))⟩)) (below_size (by repeat (first | (with_reducible first | exact HB.out | apply below_alloc | apply pw_below_drewN | apply below_drew1) | exact HB.out)))); have n2_ := Aside0.mk (below_step (by repeat (first | (with_reducible first | exact HB.out | apply below_alloc | apply pw_below_drewN | apply below_drew1) | exact HB.out)) hb); clear HO327; clear HB; have HO327 := n0_; have HO330 := n1_; have HB := n2_; clear n0_ n1_ n2_; (try clear hb); (try clear hb2); (try clear hk); (try clear hi); (try clear ho0); obtain ⟨Ao11, co11, eo11⟩ := Kd.V_slice HO330.out; subst eo11) | ((with_reducible refine gate_callee (f := 33) rfl ?_); refine goesL_ (some 21) rfl rfl Try.func33 (by kernel_rfl) rfl #[.slice A0 l0.length c0, .slice Ao11 t328.length co11] rfl (by (try simp only [List.map_toArray, List.map_cons, List.map_nil]); first | done | rfl | (simp only [List.length_drop, List.length_take]; rfl)) ?_; (with_reducible refine (swarfref38_way.calls k _ _ l0 _ _ t328 t331 _ ?side1 ?side2 ?side3 ?side4 A6.out).mono ?_); (case side1 => repeat (first | exact (Kd.C_below HR0.out HB.out) | (with_reducible refine Kd.C_alloc ?_ _) | (with_reducible refine Kd.C_drewN ?_ _) | (with_reducible refine Kd.C_drew ?_))); (case side2 => exact HC0.out); (case side3 => repeat (first | exact (Kd.V_reads' HO330.out).2.2 | (with_reducible refine Kd.C_alloc ?_ _) | (with_reducible refine Kd.C_drewN ?_ _) | (with_reducible refine Kd.C_drew ?_))); (case side4 => exact (Kd.V_reads' HO330.out).2.1); rintro e w12 ⟨rfl, hb⟩; refine ⟨_, rfl, ?_⟩; have n0_ := Aside0.mk (Kd.R_below (by (with_reducible repeat (first | apply Kd.R_alloc | apply Kd.R_drewN | apply Kd.R_drew)); exact HO327.out) hb); have n1_ := Aside0.mk (Kd.V_below (by (with_reducible repeat (first | apply Kd.V_alloc | apply Kd.V_drewN | apply Kd.V_drew)); exact HO330.out) hb); have n2_ := Aside0.mk (below_step (by repeat (first | (with_reducible first | exact HB.out | apply below_alloc | apply pw_below_drewN | apply below_drew1) | exact HB.out)) hb); clear HO327; clear HO330; clear HB; have HO327 := n0_; have HO330 := n1_; have HB := n2_; clear n0_ n1_ n2_; (try clear hb); (try clear hb2); (try clear hk); (try clear hi)))
      go_ret3
      exact ⟨_, by first | rfl | (simp [errW_none, errW_some] <;> rfl) | (simp [*, errW_none, errW_some] <;> rfl), by (with_reducible repeat (first | apply Kd.V_alloc | apply Kd.V_drewN | apply Kd.V_drew)); exact Kd.V_mono HO330.out (fun _ hk => hk.1), by repeat (first | (with_reducible first | exact HB.out | apply below_alloc | apply pw_below_drewN | apply below_drew1) | exact HB.out)⟩
  · rw [if_neg c3] at H
    have c3b0 : (t324 == 0) = false := beq_eq_false_iff_ne.mpr c3
    have c3b1 : (t324 != 0) = true := bne_iff_ne.mpr c3
    simp only [Option.some.injEq, Prod.mk.injEq] at H
    obtain ⟨rfl, rfl, rfl⟩ := H
    go_enter Try.func23, Try.ntmps23
    go_wp2_with (first | ((with_reducible refine gate_callee (f := 31) rfl ?_); refine goesL_ (some 8) rfl rfl Try.func31 (by kernel_rfl) rfl #[.slice A0 l0.length c0, .int .i64 10] rfl (by (try simp only [List.map_toArray, List.map_cons, List.map_nil]); first | done | rfl | (simp only [List.length_drop, List.length_take]; rfl)) ?_; (with_reducible refine (swarfref38_Valid.calls k _ _ l0 10 t324 _ ?side1 ?side2 A2.out).mono ?_); (case side1 => repeat (first | exact HR0.out | (with_reducible refine Kd.C_alloc ?_ _) | (with_reducible refine Kd.C_drewN ?_ _) | (with_reducible refine Kd.C_drew ?_))); (case side2 => exact HC0.out); rintro e w' ⟨rfl, ⟨nd, rfl⟩⟩; refine ⟨_, rfl, ?_⟩))
    go_ret3
    exact ⟨_, by first | rfl | (simp [errW_none, errW_some] <;> rfl) | (simp [*, errW_none, errW_some] <;> rfl), Kd.R_V (base := w.heap.size) (by first | exact Kd.R_nil _ _ _ _ _ | exact Kd.N_nil _ _ _ _ _ | exact Kd.V_nil _ _ _ _ _ | exact Kd.Q_nil _ _ _ _ _ | exact Kd.S_nil _ _ _ _ _), by repeat (first | (with_reducible first | exact HB.out | apply below_alloc | apply pw_below_drewN | apply below_drew1) | exact HB.out)⟩

end Go.Proofs.Ytohjocajaanhaaa.P

-- PRINTED by print.py (a twelfth state) out of the translation. Not trusted: Lean checks it.

namespace Go.Proofs.Ytohjocajaanhaaa.P
open Go.RowKit Go.Proofs.YtohjocajaanhaaaW.PrintWords Go.Proofs.YtohjocajaanhaaaW.PrintLast Go.Proofs.YtohjocajaanhaaaW.PrintMore
attribute [local go_sem] max2_int min2_int max_two min_two max_three min_three max_four min_four   -- for this text's walks alone
set_option linter.unusedVariables false
set_option linter.unusedSimpArgs false

/-! ### swarflaw38_TourExact: function 5 -/
def swarflaw38_TourExact.j0 : Nat → List (S31) → Bool → Option (Bool)
  | 0, _, _ => none
  | k + 1, x0, x25 => if x25 = true then ((swarflaw38_awake.f k).bind fun t409 => (some t409)) else ((tour_Exact.f k x0).bind fun bt410 => ((swarfref38_Exact.f k x0).bind fun bt415 => (if bt410.2.2 = bt415.2.2 then (if bt410.2.1 = bt415.2.1 then ((swarfref38_Same.f k bt410.1 bt415.1).bind fun t420 => (some t420)) else (some false)) else (some false))))
def swarflaw38_TourExact.f (k : Nat) (l0 : List (S31)) : Option (Bool) := (swarflaw38_awake.f k).bind fun t408 => (if t408 = true then (if (l0.length : Int) > 7 then (if (l0.length : Int) < 11 then (swarflaw38_TourExact.j0 k l0 true) else (swarflaw38_TourExact.j0 k l0 (decide ((l0.length : Int) > 12)))) else (swarflaw38_TourExact.j0 k l0 (decide ((l0.length : Int) > 12)))) else (swarflaw38_TourExact.j0 k l0 true))
theorem swarflaw38_TourExact.mono_l : ∀ k, (∀ y0 y1, LeO (swarflaw38_TourExact.j0 k y0 y1) (swarflaw38_TourExact.j0 (k + 1) y0 y1))
  | 0 => fun _ _ r h => by simp [swarflaw38_TourExact.j0] at h
  | k + 1 => by
    have ih0 := swarflaw38_TourExact.mono_l k
    · intro y0 y1
      unfold swarflaw38_TourExact.j0
      repeat' first
      | (with_reducible exact ih0 _ _)
      | (with_reducible exact swarflaw38_awake.mono _)
      | (with_reducible exact swarfref38_Exact.mono _ _)
      | (with_reducible exact swarfref38_Same.mono _ _ _)
      | (with_reducible exact tour_Exact.mono _ _)
      | (with_reducible exact LeO.refl _)
      | (with_reducible exact LeO.none _)
      | (with_reducible refine LeO.ite ?_ ?_)
      | (with_reducible refine LeO.bind ?_ (fun _ => ?_))
      | exact ih0 _ _
      | exact swarflaw38_awake.mono _
      | exact swarfref38_Exact.mono _ _
      | exact swarfref38_Same.mono _ _ _
      | exact tour_Exact.mono _ _
      | exact LeO.none _
      | refine LeO.ite ?_ ?_
      | refine LeO.bind ?_ (fun _ => ?_)
theorem swarflaw38_TourExact.mono : ∀ a0 k, LeO (swarflaw38_TourExact.f k a0) (swarflaw38_TourExact.f (k + 1) a0) := by
  intro a0 k
  have ih0 := swarflaw38_TourExact.mono_l k
  unfold swarflaw38_TourExact.f
  repeat' first
      | (with_reducible exact ih0 _ _)
      | (with_reducible exact swarflaw38_awake.mono _)
      | (with_reducible exact swarfref38_Exact.mono _ _)
      | (with_reducible exact swarfref38_Same.mono _ _ _)
      | (with_reducible exact tour_Exact.mono _ _)
      | (with_reducible exact LeO.refl _)
      | (with_reducible exact LeO.none _)
      | (with_reducible refine LeO.ite ?_ ?_)
      | (with_reducible refine LeO.bind ?_ (fun _ => ?_))
      | exact ih0 _ _
      | exact swarflaw38_awake.mono _
      | exact swarfref38_Exact.mono _ _
      | exact swarfref38_Same.mono _ _ _
      | exact tour_Exact.mono _ _
      | exact LeO.none _
      | refine LeO.ite ?_ ?_
      | refine LeO.bind ?_ (fun _ => ?_)
set_option maxHeartbeats 8000000 in
set_option maxRecDepth 100000 in
theorem swarflaw38_TourExact.calls (k : Nat) (A0 : Option Addr) (c0 : Nat) (l0 : List (S31)) (r : Bool) (w : World) (hr0 : Kd.C k31 w A0 l0.length l0) (hc0 : l0.length ≤ c0) (h : swarflaw38_TourExact.f k l0 = some r) (hr : r = true) :
    Calls Try.prog 5 #[.slice A0 l0.length c0] w fun e w' => e = .returned (.bool r) ∧ Below w.heap.size w w' := by
  have HRT := Aside0.mk hr
  clear hr
  have HR0 := Aside0.mk hr0
  have HC0 := Aside0.mk hc0
  clear hr0 hc0
  have HB := Aside0.mk (Below.refl w.heap.size w)
  have H : ((swarflaw38_awake.f k).bind fun t408 => (if t408 = true then (if (l0.length : Int) > 7 then (if (l0.length : Int) < 11 then (swarflaw38_TourExact.j0 k l0 true) else (swarflaw38_TourExact.j0 k l0 (decide ((l0.length : Int) > 12)))) else (swarflaw38_TourExact.j0 k l0 (decide ((l0.length : Int) > 12)))) else (swarflaw38_TourExact.j0 k l0 true))) = some r := h
  clear h
  have HC2 := Aside0.mk H
  clear H
  go_enter Try.func5, Try.ntmps5
  go_upto_region 1 with (fail)
  go_cut [25] (fun v25 wc => ∃ (kq : Nat) (x25_1 : Bool), v25 = .bool x25_1 ∧ Aside0 (swarflaw38_TourExact.j0 kq l0 x25_1 = some r) ∧ Aside0 (kq ≤ k) ∧ Aside0 (Below w.heap.size w wc))
  case first =>
    have H := HC2.out
    clear HC2
    replace H := Option.bind_eq_some_iff.mp H
    obtain ⟨t408, A30, H⟩ := H
    replace H : (if t408 = true then (if (l0.length : Int) > 7 then (if (l0.length : Int) < 11 then (swarflaw38_TourExact.j0 k l0 true) else (swarflaw38_TourExact.j0 k l0 (decide ((l0.length : Int) > 12)))) else (swarflaw38_TourExact.j0 k l0 (decide ((l0.length : Int) > 12)))) else (swarflaw38_TourExact.j0 k l0 true)) = some r := H
    have A3 := Aside0.mk A30
    clear A30
    by_cases c4 : t408 = true
    · subst c4
      have H1 : (if (l0.length : Int) > 7 then (if (l0.length : Int) < 11 then (swarflaw38_TourExact.j0 k l0 true) else (swarflaw38_TourExact.j0 k l0 (decide ((l0.length : Int) > 12)))) else (swarflaw38_TourExact.j0 k l0 (decide ((l0.length : Int) > 12)))) = some r := by rw [if_pos rfl] at H; exact H
      clear H
      have H := H1
      clear H1
      by_cases c5 : (l0.length : Int) > 7
      · rw [if_pos c5] at H
        have c5b0 : decide (7 < (l0.length : Int)) = true := decide_eq_true c5
        have c5b1 : decide (7 < l0.length) = true := decide_eq_true (by omega)
        clear c5
        (first | rw [c5b0] | (simp only [i64_w, i32_w]; rw [c5b0]) | skip)
        by_cases c6 : (l0.length : Int) < 11
        · rw [if_pos c6] at H
          have c6b0 : decide ((l0.length : Int) < 11) = true := decide_eq_true c6
          have c6b1 : decide (l0.length < 11) = true := decide_eq_true (by omega)
          clear c6
          have H' := Aside0.mk H
          clear H
          go_wp2_with (first | ((with_reducible refine gate_callee (f := 10) rfl ?_); refine goesL_ (some 9) rfl rfl Try.func10 (by kernel_rfl) rfl #[] rfl (by (try simp only [List.map_toArray, List.map_cons, List.map_nil]); first | done | rfl | (simp only [List.length_drop, List.length_take]; rfl)) ?_; (with_reducible refine (swarflaw38_awake.calls k  true _ A3.out).mono ?_); rintro e w7 ⟨rfl, hb⟩; refine ⟨_, rfl, ?_⟩; have n0_ := Aside0.mk (below_step (by repeat (first | (with_reducible first | exact HB.out | apply below_alloc | apply pw_below_drewN | apply below_drew1) | exact HB.out)) hb); clear HB; have HB := n0_; clear n0_; (try clear hb); (try clear hb2); (try clear hk); (try clear hi)))
          go_meet
          case rel => exact ⟨_, (true), (by first | rfl | (simp; done) | (simp [*]; done)), H', ⟨by first | omega | exact Nat.le_refl _⟩, ⟨by repeat (first | (with_reducible first | exact HB.out | apply below_alloc | apply pw_below_drewN | apply below_drew1) | exact HB.out)⟩⟩
        · rw [if_neg c6] at H
          have c6b0 : decide ((l0.length : Int) < 11) = false := decide_eq_false c6
          have c6b1 : decide (l0.length < 11) = false := decide_eq_false (by omega)
          clear c6
          have H' := Aside0.mk H
          clear H
          go_wp2_with (first | ((with_reducible refine gate_callee (f := 10) rfl ?_); refine goesL_ (some 9) rfl rfl Try.func10 (by kernel_rfl) rfl #[] rfl (by (try simp only [List.map_toArray, List.map_cons, List.map_nil]); first | done | rfl | (simp only [List.length_drop, List.length_take]; rfl)) ?_; (with_reducible refine (swarflaw38_awake.calls k  true _ A3.out).mono ?_); rintro e w8 ⟨rfl, hb⟩; refine ⟨_, rfl, ?_⟩; have n0_ := Aside0.mk (below_step (by repeat (first | (with_reducible first | exact HB.out | apply below_alloc | apply pw_below_drewN | apply below_drew1) | exact HB.out)) hb); clear HB; have HB := n0_; clear n0_; (try clear hb); (try clear hb2); (try clear hk); (try clear hi)))
          go_meet
          case rel => exact ⟨_, (decide ((l0.length : Int) > 12)), (by first | rfl | (simp; done) | (simp [*]; done)), H', ⟨by first | omega | exact Nat.le_refl _⟩, ⟨by repeat (first | (with_reducible first | exact HB.out | apply below_alloc | apply pw_below_drewN | apply below_drew1) | exact HB.out)⟩⟩
      · rw [if_neg c5] at H
        have c5b0 : decide (7 < (l0.length : Int)) = false := decide_eq_false c5
        have c5b1 : decide (7 < l0.length) = false := decide_eq_false (by omega)
        clear c5
        (first | rw [c5b0] | (simp only [i64_w, i32_w]; rw [c5b0]) | skip)
        have H' := Aside0.mk H
        clear H
        go_wp2_with (first | ((with_reducible refine gate_callee (f := 10) rfl ?_); refine goesL_ (some 9) rfl rfl Try.func10 (by kernel_rfl) rfl #[] rfl (by (try simp only [List.map_toArray, List.map_cons, List.map_nil]); first | done | rfl | (simp only [List.length_drop, List.length_take]; rfl)) ?_; (with_reducible refine (swarflaw38_awake.calls k  true _ A3.out).mono ?_); rintro e w9 ⟨rfl, hb⟩; refine ⟨_, rfl, ?_⟩; have n0_ := Aside0.mk (below_step (by repeat (first | (with_reducible first | exact HB.out | apply below_alloc | apply pw_below_drewN | apply below_drew1) | exact HB.out)) hb); clear HB; have HB := n0_; clear n0_; (try clear hb); (try clear hb2); (try clear hk); (try clear hi)))
        go_meet
        case rel => exact ⟨_, (decide ((l0.length : Int) > 12)), (by first | rfl | (simp; done) | (simp [*]; done)), H', ⟨by first | omega | exact Nat.le_refl _⟩, ⟨by repeat (first | (with_reducible first | exact HB.out | apply below_alloc | apply pw_below_drewN | apply below_drew1) | exact HB.out)⟩⟩
    · replace c4 := Bool.eq_false_iff.mpr c4
      subst c4
      have H1 : (swarflaw38_TourExact.j0 k l0 true) = some r := by rw [if_neg (show ¬ (false = true) by decide)] at H; exact H
      clear H
      have H := H1
      clear H1
      have H' := Aside0.mk H
      clear H
      go_wp2_with (first | ((with_reducible refine gate_callee (f := 10) rfl ?_); refine goesL_ (some 9) rfl rfl Try.func10 (by kernel_rfl) rfl #[] rfl (by (try simp only [List.map_toArray, List.map_cons, List.map_nil]); first | done | rfl | (simp only [List.length_drop, List.length_take]; rfl)) ?_; (with_reducible refine (swarflaw38_awake.calls k  false _ A3.out).mono ?_); rintro e w10 ⟨rfl, hb⟩; refine ⟨_, rfl, ?_⟩; have n0_ := Aside0.mk (below_step (by repeat (first | (with_reducible first | exact HB.out | apply below_alloc | apply pw_below_drewN | apply below_drew1) | exact HB.out)) hb); clear HB; have HB := n0_; clear n0_; (try clear hb); (try clear hb2); (try clear hk); (try clear hi)))
      go_meet
      case rel => exact ⟨_, (true), (by first | rfl | (simp; done) | (simp [*]; done)), H', ⟨by first | omega | exact Nat.le_refl _⟩, ⟨by repeat (first | (with_reducible first | exact HB.out | apply below_alloc | apply pw_below_drewN | apply below_drew1) | exact HB.out)⟩⟩
  case rest =>
    clear HC2
    try clear c1
    try clear p2
    try clear c4
    try clear c5
    try clear c5b0
    try clear c5b1
    try clear c6
    try clear c6b0
    try clear c6b1
    try clear c10
    obtain ⟨kq, x25_1, rfl, HA, HJ1, HB⟩ := hcut
    cases kq with
    | zero => exact absurd HA.out (by simp [swarflaw38_TourExact.j0])
    | succ kj1 =>
      have H := HA.out
      clear HA
      simp only [swarflaw38_TourExact.j0] at H
      by_cases c11 : x25_1 = true
      · subst c11
        have H1 : ((swarflaw38_awake.f kj1).bind fun t409 => (some t409)) = some r := by rw [if_pos rfl] at H; exact H
        clear H
        have H := H1
        clear H1
        replace H := Option.bind_eq_some_iff.mp H
        obtain ⟨t409, A120, H⟩ := H
        replace H : (some t409) = some r := H
        have A12 := Aside0.mk A120
        clear A120
        obtain rfl := Option.some.inj H
        go_wp2_with (first | ((with_reducible refine gate_callee (f := 10) rfl ?_); refine goesL_ (some 26) rfl rfl Try.func10 (by kernel_rfl) rfl #[] rfl (by (try simp only [List.map_toArray, List.map_cons, List.map_nil]); first | done | rfl | (simp only [List.length_drop, List.length_take]; rfl)) ?_; (with_reducible refine (swarflaw38_awake.calls kj1  t409 _ A12.out).mono ?_); rintro e w13 ⟨rfl, hb⟩; refine ⟨_, rfl, ?_⟩; have n0_ := Aside0.mk (below_step (by repeat (first | (with_reducible first | exact HB.out | apply below_alloc | apply pw_below_drewN | apply below_drew1) | exact HB.out)) hb); clear HB; have HB := n0_; clear n0_; (try clear hb); (try clear hb2); (try clear hk); (try clear hi)))
        go_ret
        exact ⟨by first | rfl | (simp [errW_none, errW_some] <;> rfl) | (simp [*, errW_none, errW_some] <;> rfl), by repeat (first | (with_reducible first | exact HB.out | apply below_alloc | apply pw_below_drewN | apply below_drew1) | exact HB.out)⟩
      · replace c11 := Bool.eq_false_iff.mpr c11
        subst c11
        have H1 : ((tour_Exact.f kj1 l0).bind fun bt410 => ((swarfref38_Exact.f kj1 l0).bind fun bt415 => (if bt410.2.2 = bt415.2.2 then (if bt410.2.1 = bt415.2.1 then ((swarfref38_Same.f kj1 bt410.1 bt415.1).bind fun t420 => (some t420)) else (some false)) else (some false)))) = some r := by rw [if_neg (show ¬ (false = true) by decide)] at H; exact H
        clear H
        have H := H1
        clear H1
        replace H := Option.bind_eq_some_iff.mp H
        obtain ⟨⟨t410, t411, t412⟩, A140, H⟩ := H
        replace H : ((swarfref38_Exact.f kj1 l0).bind fun bt415 => (if t412 = bt415.2.2 then (if t411 = bt415.2.1 then ((swarfref38_Same.f kj1 t410 bt415.1).bind fun t420 => (some t420)) else (some false)) else (some false))) = some r := H
        have A14 := Aside0.mk A140
        clear A140
        replace H := Option.bind_eq_some_iff.mp H
        obtain ⟨⟨t415, t418, t419⟩, A150, H⟩ := H
        replace H : (if t412 = t419 then (if t411 = t418 then ((swarfref38_Same.f kj1 t410 t415).bind fun t420 => (some t420)) else (some false)) else (some false)) = some r := H
        have A15 := Aside0.mk A150
        clear A150
        by_cases c16 : t412 = t419
        · rw [if_pos c16] at H
          have c16b0 : (t412 == t419) = true := beq_iff_eq.mpr c16
          have c16b1 : (t412 != t419) = false := bne_eq_false_iff_eq.mpr c16
          clear c16
          by_cases c17 : t411 = t418
          · rw [if_pos c17] at H
            have c17b0 : (t411 == t418) = true := beq_iff_eq.mpr c17
            have c17b1 : (t411 != t418) = false := bne_eq_false_iff_eq.mpr c17
            clear c17
            replace H := Option.bind_eq_some_iff.mp H
            obtain ⟨t420, A180, H⟩ := H
            replace H : (some t420) = some r := H
            have A18 := Aside0.mk A180
            clear A180
            obtain rfl := Option.some.inj H
            go_wp2_with (first | ((with_reducible refine gate_callee (f := 22) rfl ?_); refine goesL_ (some 29) rfl rfl Try.func22 (by kernel_rfl) rfl #[.slice A0 l0.length c0] rfl (by (try simp only [List.map_toArray, List.map_cons, List.map_nil]); first | done | rfl | (simp only [List.length_drop, List.length_take]; rfl)) ?_; (with_reducible refine (tour_Exact.calls kj1 _ _ l0 t410 t411 t412 _ ?side1 ?side2 A14.out).mono ?_); (case side1 => repeat (first | exact (Kd.C_below HR0.out HB.out) | (with_reducible refine Kd.C_alloc ?_ _) | (with_reducible refine Kd.C_drewN ?_ _) | (with_reducible refine Kd.C_drew ?_))); (case side2 => exact HC0.out); rintro e w19 ⟨v413, rfl, ho0, hb⟩; refine ⟨_, rfl, ?_⟩; have n0_ := Aside0.mk (Kd.R_lower ho0 (below_size (by repeat (first | (with_reducible first | exact HB.out | apply below_alloc | apply pw_below_drewN | apply below_drew1) | exact HB.out)))); have n1_ := Aside0.mk (below_step (by repeat (first | (with_reducible first | exact HB.out | apply below_alloc | apply pw_below_drewN | apply below_drew1) | exact HB.out)) hb); clear HB; have HO414 := n0_; have HB := n1_; clear n0_ n1_; (try clear hb); (try clear hb2); (try clear hk); (try clear hi); (try clear ho0)) | ((with_reducible refine gate_callee (f := 23) rfl ?_); refine goesL_ (some 35) rfl rfl Try.func23 (by kernel_rfl) rfl #[.slice A0 l0.length c0] rfl (by (try simp only [List.map_toArray, List.map_cons, List.map_nil]); first | done | rfl | (simp only [List.length_drop, List.length_take]; rfl)) ?_; (with_reducible refine (swarfref38_Exact.calls kj1 _ _ l0 t415 t418 t419 _ ?side1 ?side2 A15.out).mono ?_); (case side1 => repeat (first | exact (Kd.C_below HR0.out HB.out) | (with_reducible refine Kd.C_alloc ?_ _) | (with_reducible refine Kd.C_drewN ?_ _) | (with_reducible refine Kd.C_drew ?_))); (case side2 => exact HC0.out); rintro e w20 ⟨v416, rfl, ho0, hb⟩; refine ⟨_, rfl, ?_⟩; have n0_ := Aside0.mk (Kd.R_below (by (with_reducible repeat (first | apply Kd.R_alloc | apply Kd.R_drewN | apply Kd.R_drew)); exact HO414.out) hb); have n1_ := Aside0.mk (Kd.V_lower (Kd.V_mono (ok' := fun k_ => some k_ ≠ (v413 : Value).ownBlock) ho0 (fun k_ hk_ => (Kd.fresh' (Kd.R_lt (by (with_reducible repeat (first | apply Kd.R_alloc | apply Kd.R_drewN | apply Kd.R_drew)); exact HO414.out)) k_ hk_))) (below_size (by repeat (first | (with_reducible first | exact HB.out | apply below_alloc | apply pw_below_drewN | apply below_drew1) | exact HB.out)))); have n2_ := Aside0.mk (below_step (by repeat (first | (with_reducible first | exact HB.out | apply below_alloc | apply pw_below_drewN | apply below_drew1) | exact HB.out)) hb); clear HO414; clear HB; have HO414 := n0_; have HO417 := n1_; have HB := n2_; clear n0_ n1_ n2_; (try clear hb); (try clear hb2); (try clear hk); (try clear hi); (try clear ho0); obtain ⟨Ao21, co21, eo21⟩ := Kd.R_slice HO414.out; subst eo21; obtain ⟨Ao22, co22, eo22⟩ := Kd.V_slice HO417.out; subst eo22) | (go_at_call 18; (with_reducible refine (swarfref38_Same.calls kj1 _ _ t410 _ _ t415 t420 _ ?side1 ?side2 ?side3 ?side4 A18.out).mono ?_); (case side1 => repeat (first | exact (Kd.R_reads' HO414.out).2.2 | (with_reducible refine Kd.C_alloc ?_ _) | (with_reducible refine Kd.C_drewN ?_ _) | (with_reducible refine Kd.C_drew ?_))); (case side2 => exact (Kd.R_reads' HO414.out).2.1); (case side3 => repeat (first | exact (Kd.V_reads' HO417.out).2.2 | (with_reducible refine Kd.C_alloc ?_ _) | (with_reducible refine Kd.C_drewN ?_ _) | (with_reducible refine Kd.C_drew ?_))); (case side4 => exact (Kd.V_reads' HO417.out).2.1); rintro e w' ⟨rfl, ⟨nd, rfl⟩⟩))
            go_ret
            exact ⟨by first | rfl | (simp [errW_none, errW_some] <;> rfl) | (simp [*, errW_none, errW_some] <;> rfl), by repeat (first | (with_reducible first | exact HB.out | apply below_alloc | apply pw_below_drewN | apply below_drew1) | exact HB.out)⟩
          · rw [if_neg c17] at H
            have c17b0 : (t411 == t418) = false := beq_eq_false_iff_ne.mpr c17
            have c17b1 : (t411 != t418) = true := bne_iff_ne.mpr c17
            (rw [HRT.out] at H; exact absurd H (by decide))
        · rw [if_neg c16] at H
          have c16b0 : (t412 == t419) = false := beq_eq_false_iff_ne.mpr c16
          have c16b1 : (t412 != t419) = true := bne_iff_ne.mpr c16
          (rw [HRT.out] at H; exact absurd H (by decide))
end Go.Proofs.Ytohjocajaanhaaa.P

/- The examples of the chapter hold, told by the printed function. -/

namespace Go.Proofs.Ytohjocajaanhaaa.B
open Go.RowKit Go.Proofs.Ytohjocajaanhaaa.P Go.Proofs.YtohjocajaanhaaaW.PrintWords Go.Proofs.YtohjocajaanhaaaW.PrintLast
theorem awake_ev : Ev (fun k => swarflaw38_awake.f k) true := Ev.of swarflaw38_awake.mono swarflaw38_awake.small
end Go.Proofs.Ytohjocajaanhaaa.B

-- PRINTED by print.py (a twelfth state) out of the translation. Not trusted: Lean checks it.

namespace Go.Proofs.Ytohjocajaanhaaa.P
open Go.RowKit Go.Proofs.YtohjocajaanhaaaW.PrintWords Go.Proofs.YtohjocajaanhaaaW.PrintLast Go.Proofs.YtohjocajaanhaaaW.PrintMore
attribute [local go_sem] max2_int min2_int max_two min_two max_three min_three max_four min_four   -- for this text's walks alone
set_option linter.unusedVariables false
set_option linter.unusedSimpArgs false

/-! ### swarflaw38_few: function 11 -/
def swarflaw38_few.f (l0 : List (S31)) (a1 : Int) : Option (Bool) := if (l0.length : Int) ≤ a1 then (some true) else (if (l0.length : Int) > 199 then (some (decide ((l0.length : Int) < 203))) else (some false))
set_option maxHeartbeats 8000000 in
set_option maxRecDepth 100000 in
theorem swarflaw38_few.calls (A0 : Option Addr) (c0 : Nat) (l0 : List (S31)) (a1 : Int) (r : Bool) (w : World) (hr0 : Kd.C k31 w A0 l0.length l0) (hc0 : l0.length ≤ c0) (h : swarflaw38_few.f l0 a1 = some r) :
    Calls Try.prog 11 #[.slice A0 l0.length c0, .int .i64 a1] w fun e w' => e = .returned (.bool r) ∧ Drawn0 w w' := by
  have HR0 := Aside0.mk hr0
  have HC0 := Aside0.mk hc0
  clear hr0 hc0
  have H : (if (l0.length : Int) ≤ a1 then (some true) else (if (l0.length : Int) > 199 then (some (decide ((l0.length : Int) < 203))) else (some false))) = some r := h
  clear h
  by_cases c3 : (l0.length : Int) ≤ a1
  · rw [if_pos c3] at H
    have c3b0 : decide ((l0.length : Int) ≤ a1) = true := decide_eq_true c3
    clear c3
    obtain rfl := Option.some.inj H
    go_enter Try.func11, Try.ntmps11
    go_wp2
    go_ret
    exact ⟨by first | rfl | (simp; done) | (simp [*]; done), by repeat (first | exact Drawn0.refl _ | apply Drawn0.step)⟩
  · rw [if_neg c3] at H
    have c3b0 : decide ((l0.length : Int) ≤ a1) = false := decide_eq_false c3
    clear c3
    by_cases c4 : (l0.length : Int) > 199
    · rw [if_pos c4] at H
      have c4b0 : decide (199 < (l0.length : Int)) = true := decide_eq_true c4
      have c4b1 : decide (199 < l0.length) = true := decide_eq_true (by omega)
      clear c4
      obtain rfl := Option.some.inj H
      go_enter Try.func11, Try.ntmps11
      go_wp2
      go_ret
      exact ⟨by first | rfl | (simp; done) | (simp [*]; done), by repeat (first | exact Drawn0.refl _ | apply Drawn0.step)⟩
    · rw [if_neg c4] at H
      have c4b0 : decide (199 < (l0.length : Int)) = false := decide_eq_false c4
      have c4b1 : decide (199 < l0.length) = false := decide_eq_false (by omega)
      clear c4
      obtain rfl := Option.some.inj H
      go_enter Try.func11, Try.ntmps11
      go_wp2
      go_ret
      exact ⟨by first | rfl | (simp; done) | (simp [*]; done), by repeat (first | exact Drawn0.refl _ | apply Drawn0.step)⟩

end Go.Proofs.Ytohjocajaanhaaa.P

-- PRINTED by print.py (a twelfth state) out of the translation. Not trusted: Lean checks it.

namespace Go.Proofs.Ytohjocajaanhaaa.P
open Go.RowKit Go.Proofs.YtohjocajaanhaaaW.PrintWords Go.Proofs.YtohjocajaanhaaaW.PrintLast Go.Proofs.YtohjocajaanhaaaW.PrintMore
attribute [local go_sem] max2_int min2_int max_two min_two max_three min_three max_four min_four   -- for this text's walks alone
set_option linter.unusedVariables false
set_option linter.unusedSimpArgs false

/-! ### swarfref38_Order: function 32 -/
mutual
def swarfref38_Order.j0 : Nat → Int → List Int → Bool → Option (Bool)
  | 0, _, _, _ => none
  | k + 1, x0, x1, x20 => if x20 = true then (some false) else (if 0 ≤ x0 then (if (x0 : Int).toNat ≤ 281474976710656 then (swarfref38_Order.l0 k x0 x1 (List.replicate (x0 : Int).toNat false) 0) else (none)) else (none))
def swarfref38_Order.l0 : Nat → Int → List Int → List Bool → Int → Option (Bool)
  | 0, _, _, _, _ => none
  | k + 1, x0, x1, x5, x6 => if x6 < x0 then (if 0 ≤ x6 then (if x6 < (x1.length : Int) then (if (rd x1 x6) < 0 then (some false) else (if (rd x1 x6) ≥ x0 then (some false) else (if 0 ≤ (rd x1 x6) then (if (rd x1 x6) < (x5.length : Int) then (if rdOf false x5 (rd x1 x6) = true then (some false) else (swarfref38_Order.l0 k x0 x1 (x5.set ((rd x1 x6) : Int).toNat true) (wrap64 (x6 + 1)))) else (none)) else (none)))) else (none)) else (none)) else (some true)
end
def swarfref38_Order.f (k : Nat) (a0 : Int) (l1 : List Int) : Option (Bool) := if (l1.length : Int) = a0 then (if a0 > 0 then (if 0 < (l1.length : Int) then (swarfref38_Order.j0 k a0 l1 ((rd l1 0) != 0)) else (none)) else (swarfref38_Order.j0 k a0 l1 false)) else (swarfref38_Order.j0 k a0 l1 true)
theorem swarfref38_Order.mono_l : ∀ k, (∀ y0 y1 y2, LeO (swarfref38_Order.j0 k y0 y1 y2) (swarfref38_Order.j0 (k + 1) y0 y1 y2)) ∧ (∀ y0 y1 y2 y3, LeO (swarfref38_Order.l0 k y0 y1 y2 y3) (swarfref38_Order.l0 (k + 1) y0 y1 y2 y3))
  | 0 => ⟨fun _ _ _ r h => by simp [swarfref38_Order.j0] at h, fun _ _ _ _ r h => by simp [swarfref38_Order.l0] at h⟩
  | k + 1 => by
    obtain ⟨ih0, ih1⟩ := swarfref38_Order.mono_l k
    refine ⟨?_, ?_⟩
    · intro y0 y1 y2
      unfold swarfref38_Order.j0
      repeat' first
      | (with_reducible exact ih0 _ _ _)
      | (with_reducible exact ih1 _ _ _ _)
      | (with_reducible exact LeO.refl _)
      | (with_reducible exact LeO.none _)
      | (with_reducible refine LeO.ite ?_ ?_)
      | (with_reducible refine LeO.bind ?_ (fun _ => ?_))
      | exact ih0 _ _ _
      | exact ih1 _ _ _ _
      | exact LeO.none _
      | refine LeO.ite ?_ ?_
      | refine LeO.bind ?_ (fun _ => ?_)
    · intro y0 y1 y2 y3
      unfold swarfref38_Order.l0
      repeat' first
      | (with_reducible exact ih0 _ _ _)
      | (with_reducible exact ih1 _ _ _ _)
      | (with_reducible exact LeO.refl _)
      | (with_reducible exact LeO.none _)
      | (with_reducible refine LeO.ite ?_ ?_)
      | (with_reducible refine LeO.bind ?_ (fun _ => ?_))
      | exact ih0 _ _ _
      | exact ih1 _ _ _ _
      | exact LeO.none _
      | refine LeO.ite ?_ ?_
      | refine LeO.bind ?_ (fun _ => ?_)
theorem swarfref38_Order.mono : ∀ a0 a1 k, LeO (swarfref38_Order.f k a0 a1) (swarfref38_Order.f (k + 1) a0 a1) := by
  intro a0 a1 k
  obtain ⟨ih0, ih1⟩ := swarfref38_Order.mono_l k
  unfold swarfref38_Order.f
  repeat' first
      | (with_reducible exact ih0 _ _ _)
      | (with_reducible exact ih1 _ _ _ _)
      | (with_reducible exact LeO.refl _)
      | (with_reducible exact LeO.none _)
      | (with_reducible refine LeO.ite ?_ ?_)
      | (with_reducible refine LeO.bind ?_ (fun _ => ?_))
      | exact ih0 _ _ _
      | exact ih1 _ _ _ _
      | exact LeO.none _
      | refine LeO.ite ?_ ?_
      | refine LeO.bind ?_ (fun _ => ?_)
set_option maxHeartbeats 8000000 in
set_option maxRecDepth 100000 in
theorem swarfref38_Order.calls (k : Nat) (a0 : Int) (A1 : Option Addr) (c1 : Nat) (l1 : List Int) (r : Bool) (w : World) (hr1 : Kd.C (Kd.int .i64) w A1 l1.length l1) (hc1 : l1.length ≤ c1) (h : swarfref38_Order.f k a0 l1 = some r) :
    Calls Try.prog 32 #[.int .i64 a0, .slice A1 l1.length c1] w fun e w' => e = .returned (.bool r) ∧ Below w.heap.size w w' := by
  have HR1 := Aside0.mk hr1
  have HC1 := Aside0.mk hc1
  clear hr1 hc1
  have HB := Aside0.mk (Below.refl w.heap.size w)
  have H : (if (l1.length : Int) = a0 then (if a0 > 0 then (if 0 < (l1.length : Int) then (swarfref38_Order.j0 k a0 l1 ((rd l1 0) != 0)) else (none)) else (swarfref38_Order.j0 k a0 l1 false)) else (swarfref38_Order.j0 k a0 l1 true)) = some r := h
  clear h
  have HC3 := Aside0.mk H
  clear H
  go_enter Try.func32, Try.ntmps32
  go_upto_region 1 with (fail)
  go_cut [20] (fun v20 wc => ∃ (kq : Nat) (x20_2 : Bool), v20 = .bool x20_2 ∧ Aside0 (swarfref38_Order.j0 kq a0 l1 x20_2 = some r) ∧ Aside0 (kq ≤ k) ∧ Aside0 (Below w.heap.size w wc))
  case first =>
    have H := HC3.out
    clear HC3
    by_cases c4 : (l1.length : Int) = a0
    · rw [if_pos c4] at H
      have c4b0 : ((l1.length : Int) == a0) = true := beq_iff_eq.mpr c4
      have c4b1 : ((l1.length : Int) != a0) = false := bne_eq_false_iff_eq.mpr c4
      clear c4
      (first | rw [c4b0] | (simp only [i64_w, i32_w]; rw [c4b0]) | skip)
      by_cases c5 : a0 > 0
      · rw [if_pos c5] at H
        have c5b0 : decide (0 < a0) = true := decide_eq_true c5
        clear c5
        by_cases c6 : 0 < (l1.length : Int)
        · rw [if_pos c6] at H
          have c6b0 : decide (0 < (l1.length : Int)) = true := decide_eq_true c6
          have c6b1 : decide (0 < l1.length) = true := decide_eq_true (by omega)
          clear c6
          have H' := Aside0.mk H
          clear H
          have p236 : 0 ≤ (0 : Int) := (by omega)
          have q236 : 0 < (l1.length : Int) := of_decide_eq_true (by first | (with_reducible assumption) | assumption)
          obtain ⟨ad236, e236, hx236_0⟩ := Kd.at_int HR1.out 0 p236 q236
          cases e236
          have qi236 : (0 < l1.length) = True := eq_true (by omega)
          (try rw [show ((0 : Int)).toNat = 0 from rfl] at hx236_0)
          (try rw [Addr.add_zero'] at hx236_0)
          replace hx236_0 := (HB.out.cell (World.block_lt_of_cell? w _ hx236_0)).trans hx236_0
          replace p236 := eq_true p236
          replace q236 := eq_true q236
          go_wp2
          go_meet
          case rel => exact ⟨_, (((rd l1 0) != 0)), (by first | rfl | (simp; done) | (simp [*]; done)), H', ⟨by first | omega | exact Nat.le_refl _⟩, ⟨by repeat (first | (with_reducible first | exact HB.out | apply below_alloc | apply pw_below_drewN | apply below_drew1) | exact HB.out)⟩⟩
        · rw [if_neg c6] at H
          exact absurd H (by simp)
      · rw [if_neg c5] at H
        have c5b0 : decide (0 < a0) = false := decide_eq_false c5
        clear c5
        have H' := Aside0.mk H
        clear H
        go_wp2
        go_meet
        case rel => exact ⟨_, (false), (by first | rfl | (simp; done) | (simp [*]; done)), H', ⟨by first | omega | exact Nat.le_refl _⟩, ⟨by repeat (first | (with_reducible first | exact HB.out | apply below_alloc | apply pw_below_drewN | apply below_drew1) | exact HB.out)⟩⟩
    · rw [if_neg c4] at H
      have c4b0 : ((l1.length : Int) == a0) = false := beq_eq_false_iff_ne.mpr c4
      have c4b1 : ((l1.length : Int) != a0) = true := bne_iff_ne.mpr c4
      (first | rw [c4b0] | (simp only [i64_w, i32_w]; rw [c4b0]) | skip)
      have H' := Aside0.mk H
      clear H
      go_wp2
      go_meet
      case rel => exact ⟨_, (true), (by first | rfl | (simp; done) | (simp [*]; done)), H', ⟨by first | omega | exact Nat.le_refl _⟩, ⟨by repeat (first | (with_reducible first | exact HB.out | apply below_alloc | apply pw_below_drewN | apply below_drew1) | exact HB.out)⟩⟩
  case rest =>
    clear HC3
    try clear c1
    try clear p2
    try clear q2
    try clear hx2
    try clear qi2
    try clear c3
    try clear c4
    try clear c4b0
    try clear c4b1
    try clear c5
    try clear c5b0
    try clear c6
    try clear c6b0
    try clear c6b1
    try clear hx236_0
    try clear p236
    try clear q236
    obtain ⟨kq, x20_2, rfl, HA, HJ2, HB⟩ := hcut
    cases kq with
    | zero => exact absurd HA.out (by simp [swarfref38_Order.j0])
    | succ kj2 =>
      have H := HA.out
      clear HA
      simp only [swarfref38_Order.j0] at H
      by_cases c7 : x20_2 = true
      · subst c7
        have H1 : (some false) = some r := by rw [if_pos rfl] at H; exact H
        clear H
        have H := H1
        clear H1
        obtain rfl := Option.some.inj H
        go_wp2
        go_ret
        exact ⟨by first | rfl | (simp [errW_none, errW_some] <;> rfl) | (simp [*, errW_none, errW_some] <;> rfl), by repeat (first | (with_reducible first | exact HB.out | apply below_alloc | apply pw_below_drewN | apply below_drew1) | exact HB.out)⟩
      · replace c7 := Bool.eq_false_iff.mpr c7
        subst c7
        have H1 : (if 0 ≤ a0 then (if (a0 : Int).toNat ≤ 281474976710656 then (swarfref38_Order.l0 kj2 a0 l1 (List.replicate (a0 : Int).toNat false) 0) else (none)) else (none)) = some r := by rw [if_neg (show ¬ (false = true) by decide)] at H; exact H
        clear H
        have H := H1
        clear H1
        by_cases c8 : 0 ≤ a0
        · rw [if_pos c8] at H
          have c8b0 := eq_true c8
          have c8b1 : decide (0 ≤ a0) = true := decide_eq_true c8
          clear c8
          by_cases c9 : (a0 : Int).toNat ≤ 281474976710656
          · rw [if_pos c9] at H
            have c9b0 := eq_true c9
            have c9b1 : decide ((a0 : Int).toNat ≤ 281474976710656) = true := decide_eq_true c9
            clear c9
            obtain ⟨y237, hy237⟩ : ∃ y_ : List Bool, y_ = (List.replicate (a0 : Int).toNat false) := ⟨_, rfl⟩
            replace H : (swarfref38_Order.l0 kj2 a0 l1 y237 0) = some r := by first | (rw [hy237]; with_reducible exact H) | (have H2_ := (Option.bind_some _ _).symm.trans H; rw [hy237]; with_reducible exact H2_) | (have H2_ := (Option.bind_some _ _).symm.trans H; with_reducible exact H2_) | with_reducible exact H | (rw [hy237]; exact H) | exact H
            have Ny237 := Aside0.mk hy237
            clear hy237
            have H' := Aside0.mk H
            clear H
            go_wp2_with (first | ((with_reducible refine gate_dst (N := 22) rfl ?_); refine Kd.R_make Kd.bool _ 4 rfl (N := 22) rfl 49 _ _ rfl a0 rfl rfl Try.underlying49 (.bool false) 1 info4 rfl (by decide) (by omega) false (ok := fun _ => True) (okp := fun _ => True) rfl (fun _ hk => hk) trivial (of_decide_eq_true (by first | (with_reducible assumption) | assumption)) (Nat.le_trans (Nat.mul_le_mul_right _ (of_decide_eq_true (by first | (with_reducible assumption) | assumption) : a0.toNat ≤ 281474976710656)) (by omega)) (Below.refl _ _) (Nat.le_refl _) ?_; intro v238 w10 ho11 hb hg_ hnew_; clear hg_ hnew_; (first | rw [← Ny237.out] at ho11 | (simp only [Int.reduceToNat] at ho11; rw [← Ny237.out] at ho11)); have n0_ := Aside0.mk (Kd.R_lower ho11 (below_size (by repeat (first | (with_reducible first | exact HB.out | apply below_alloc | apply pw_below_drewN | apply below_drew1) | exact HB.out)))); have n1_ := Aside0.mk (below_step (by repeat (first | (with_reducible first | exact HB.out | apply below_alloc | apply pw_below_drewN | apply below_drew1) | exact HB.out)) hb); clear HB; have HO239 := n0_; have HB := n1_; clear n0_ n1_; clear hb ho11))
            go_loopg [6] kj2 (fun kq v6 w' => ∃ (x5_2 : List Bool) (x6_2 : Int), v6 = .int .i64 x6_2 ∧ Aside0 (swarfref38_Order.l0 kq a0 l1 x5_2 x6_2 = some r) ∧ Aside0 (kq ≤ kj2) ∧ Aside0 (Kd.R Kd.bool 4 w' w.heap.size (fun _ => True) v238 x5_2) ∧ Aside0 (Below w.heap.size w w'))
            case atStart => exact ⟨(y237), (0), (by first | rfl | (simp; done) | (simp [*]; done)), H', ⟨Nat.le_refl _⟩, ⟨by (with_reducible repeat (first | apply Kd.R_alloc | apply Kd.R_drewN | apply Kd.R_drew)); exact HO239.out⟩, ⟨by repeat (first | (with_reducible first | exact HB.out | apply below_alloc | apply pw_below_drewN | apply below_drew1) | exact HB.out)⟩⟩
            case round =>
              clear H'
              try clear c1
              try clear p2
              try clear q2
              try clear hx2
              try clear qi2
              try clear c3
              try clear c4
              try clear c4b0
              try clear c4b1
              try clear c5
              try clear c5b0
              try clear c6
              try clear c6b0
              try clear c6b1
              try clear c7
              try clear c8
              try clear c8b0
              try clear c8b1
              try clear c9
              try clear c9b0
              try clear c9b1
              try clear hx236_0
              try clear p2
              try clear p236
              try clear q2
              try clear q236
              obtain ⟨x5_2, x6_2, rfl, HA, HK2, HO_5, HB⟩ := hrel
              cases gk with
              | zero => exact absurd HA.out (by simp [swarfref38_Order.l0])
              | succ k2 =>
                have H := HA.out
                clear HA
                simp only [swarfref38_Order.l0] at H
                by_cases c12 : x6_2 < a0
                · rw [if_pos c12] at H
                  have c12b0 : decide (x6_2 < a0) = true := decide_eq_true c12
                  clear c12
                  by_cases c13 : 0 ≤ x6_2
                  · rw [if_pos c13] at H
                    have c13b0 : decide (0 ≤ x6_2) = true := decide_eq_true c13
                    clear c13
                    by_cases c14 : x6_2 < (l1.length : Int)
                    · rw [if_pos c14] at H
                      have c14b0 : decide (x6_2 < (l1.length : Int)) = true := decide_eq_true c14
                      clear c14
                      by_cases c15 : (rd l1 x6_2) < 0
                      · rw [if_pos c15] at H
                        have c15b0 : decide ((rd l1 x6_2) < 0) = true := decide_eq_true c15
                        clear c15
                        obtain rfl := Option.some.inj H
                        have p240 : 0 ≤ (x6_2 : Int) := of_decide_eq_true (by first | (with_reducible assumption) | assumption)
                        have q240 : x6_2 < (l1.length : Int) := of_decide_eq_true (by first | (with_reducible assumption) | assumption)
                        obtain ⟨ad240, e240, hx240_0⟩ := Kd.at_int HR1.out x6_2 p240 q240
                        cases e240
                        replace hx240_0 := (HB.out.cell (World.block_lt_of_cell? w _ hx240_0)).trans hx240_0
                        replace p240 := eq_true p240
                        replace q240 := eq_true q240
                        go_wp2
                        go_ret
                        exact ⟨by first | rfl | (simp [errW_none, errW_some] <;> rfl) | (simp [*, errW_none, errW_some] <;> rfl), by repeat (first | (with_reducible first | exact HB.out | apply below_alloc | apply pw_below_drewN | apply below_drew1) | exact HB.out)⟩
                      · rw [if_neg c15] at H
                        have c15b0 : decide ((rd l1 x6_2) < 0) = false := decide_eq_false c15
                        clear c15
                        by_cases c16 : (rd l1 x6_2) ≥ a0
                        · rw [if_pos c16] at H
                          have c16b0 : decide (a0 ≤ (rd l1 x6_2)) = true := decide_eq_true c16
                          clear c16
                          obtain rfl := Option.some.inj H
                          have p240 : 0 ≤ (x6_2 : Int) := of_decide_eq_true (by first | (with_reducible assumption) | assumption)
                          have q240 : x6_2 < (l1.length : Int) := of_decide_eq_true (by first | (with_reducible assumption) | assumption)
                          obtain ⟨ad240, e240, hx240_0⟩ := Kd.at_int HR1.out x6_2 p240 q240
                          cases e240
                          replace hx240_0 := (HB.out.cell (World.block_lt_of_cell? w _ hx240_0)).trans hx240_0
                          replace p240 := eq_true p240
                          replace q240 := eq_true q240
                          have p241 : 0 ≤ (x6_2 : Int) := of_decide_eq_true (by first | (with_reducible assumption) | assumption)
                          have q241 : x6_2 < (l1.length : Int) := of_decide_eq_true (by first | (with_reducible assumption) | assumption)
                          obtain ⟨ad241, e241, hx241_0⟩ := Kd.at_int HR1.out x6_2 p241 q241
                          obtain rfl : ad240 = ad241 := (by injection e241)
                          replace hx241_0 := (HB.out.cell (World.block_lt_of_cell? w _ hx241_0)).trans hx241_0
                          replace p241 := eq_true p241
                          replace q241 := eq_true q241
                          go_wp2
                          go_ret
                          exact ⟨by first | rfl | (simp [errW_none, errW_some] <;> rfl) | (simp [*, errW_none, errW_some] <;> rfl), by repeat (first | (with_reducible first | exact HB.out | apply below_alloc | apply pw_below_drewN | apply below_drew1) | exact HB.out)⟩
                        · rw [if_neg c16] at H
                          have c16b0 : decide (a0 ≤ (rd l1 x6_2)) = false := decide_eq_false c16
                          clear c16
                          by_cases c17 : 0 ≤ (rd l1 x6_2)
                          · rw [if_pos c17] at H
                            have c17b0 : decide (0 ≤ (rd l1 x6_2)) = true := decide_eq_true c17
                            clear c17
                            by_cases c18 : (rd l1 x6_2) < (x5_2.length : Int)
                            · rw [if_pos c18] at H
                              have c18b0 : decide ((rd l1 x6_2) < (x5_2.length : Int)) = true := decide_eq_true c18
                              clear c18
                              obtain ⟨bq19, hbq19⟩ : ∃ b_ : Bool, b_ = (rdOf false x5_2 (rd l1 x6_2)) := ⟨_, rfl⟩
                              replace H : (if bq19 = true then (some false) else (swarfref38_Order.l0 k2 a0 l1 (x5_2.set ((rd l1 x6_2) : Int).toNat true) (wrap64 (x6_2 + 1)))) = some r := by rw [← hbq19] at H; exact H
                              have Nbq19 := Aside0.mk hbq19
                              clear hbq19
                              by_cases c20 : bq19 = true
                              · subst c20
                                have H1 : (some false) = some r := by rw [if_pos rfl] at H; exact H
                                clear H
                                have H := H1
                                clear H1
                                obtain rfl := Option.some.inj H
                                have p240 : 0 ≤ (x6_2 : Int) := of_decide_eq_true (by first | (with_reducible assumption) | assumption)
                                have q240 : x6_2 < (l1.length : Int) := of_decide_eq_true (by first | (with_reducible assumption) | assumption)
                                obtain ⟨ad240, e240, hx240_0⟩ := Kd.at_int HR1.out x6_2 p240 q240
                                cases e240
                                replace hx240_0 := (HB.out.cell (World.block_lt_of_cell? w _ hx240_0)).trans hx240_0
                                replace p240 := eq_true p240
                                replace q240 := eq_true q240
                                have p241 : 0 ≤ (x6_2 : Int) := of_decide_eq_true (by first | (with_reducible assumption) | assumption)
                                have q241 : x6_2 < (l1.length : Int) := of_decide_eq_true (by first | (with_reducible assumption) | assumption)
                                obtain ⟨ad241, e241, hx241_0⟩ := Kd.at_int HR1.out x6_2 p241 q241
                                obtain rfl : ad240 = ad241 := (by injection e241)
                                replace hx241_0 := (HB.out.cell (World.block_lt_of_cell? w _ hx241_0)).trans hx241_0
                                replace p241 := eq_true p241
                                replace q241 := eq_true q241
                                have p242 : 0 ≤ (x6_2 : Int) := of_decide_eq_true (by first | (with_reducible assumption) | assumption)
                                have q242 : x6_2 < (l1.length : Int) := of_decide_eq_true (by first | (with_reducible assumption) | assumption)
                                obtain ⟨ad242, e242, hx242_0⟩ := Kd.at_int HR1.out x6_2 p242 q242
                                obtain rfl : ad240 = ad242 := (by injection e242)
                                replace hx242_0 := (HB.out.cell (World.block_lt_of_cell? w _ hx242_0)).trans hx242_0
                                replace p242 := eq_true p242
                                replace q242 := eq_true q242
                                obtain ⟨Ao21, co21, eo21⟩ := Kd.R_slice HO_5.out
                                subst eo21
                                have p243 : 0 ≤ ((rd l1 x6_2) : Int) := of_decide_eq_true (by first | (with_reducible assumption) | assumption)
                                have q243 : (rd l1 x6_2) < (x5_2.length : Int) := of_decide_eq_true (by first | (with_reducible assumption) | assumption)
                                obtain ⟨ad243, e243, hx243_0⟩ := Kd.at_bool (Kd.R_reads' HO_5.out).2.2 (rd l1 x6_2) p243 q243
                                (try rw [← Nbq19.out] at hx243_0)
                                cases e243
                                replace p243 := eq_true p243
                                replace q243 := eq_true q243
                                go_wp2
                                go_ret
                                exact ⟨by first | rfl | (simp [errW_none, errW_some] <;> rfl) | (simp [*, errW_none, errW_some] <;> rfl), by repeat (first | (with_reducible first | exact HB.out | apply below_alloc | apply pw_below_drewN | apply below_drew1) | exact HB.out)⟩
                              · replace c20 := Bool.eq_false_iff.mpr c20
                                subst c20
                                have H1 : (swarfref38_Order.l0 k2 a0 l1 (x5_2.set ((rd l1 x6_2) : Int).toNat true) (wrap64 (x6_2 + 1))) = some r := by rw [if_neg (show ¬ (false = true) by decide)] at H; exact H
                                clear H
                                have H := H1
                                clear H1
                                obtain ⟨y245, hy245⟩ : ∃ y_ : List Bool, y_ = (x5_2.set ((rd l1 x6_2) : Int).toNat true) := ⟨_, rfl⟩
                                replace H : (swarfref38_Order.l0 k2 a0 l1 y245 (wrap64 (x6_2 + 1))) = some r := by first | (rw [hy245]; with_reducible exact H) | (have H2_ := (Option.bind_some _ _).symm.trans H; rw [hy245]; with_reducible exact H2_) | (have H2_ := (Option.bind_some _ _).symm.trans H; with_reducible exact H2_) | with_reducible exact H | (rw [hy245]; exact H) | exact H
                                have Ny245 := Aside0.mk hy245
                                clear hy245
                                have H' := Aside0.mk H
                                clear H
                                have p240 : 0 ≤ (x6_2 : Int) := of_decide_eq_true (by first | (with_reducible assumption) | assumption)
                                have q240 : x6_2 < (l1.length : Int) := of_decide_eq_true (by first | (with_reducible assumption) | assumption)
                                obtain ⟨ad240, e240, hx240_0⟩ := Kd.at_int HR1.out x6_2 p240 q240
                                cases e240
                                replace hx240_0 := (HB.out.cell (World.block_lt_of_cell? w _ hx240_0)).trans hx240_0
                                replace p240 := eq_true p240
                                replace q240 := eq_true q240
                                have p241 : 0 ≤ (x6_2 : Int) := of_decide_eq_true (by first | (with_reducible assumption) | assumption)
                                have q241 : x6_2 < (l1.length : Int) := of_decide_eq_true (by first | (with_reducible assumption) | assumption)
                                obtain ⟨ad241, e241, hx241_0⟩ := Kd.at_int HR1.out x6_2 p241 q241
                                obtain rfl : ad240 = ad241 := (by injection e241)
                                replace hx241_0 := (HB.out.cell (World.block_lt_of_cell? w _ hx241_0)).trans hx241_0
                                replace p241 := eq_true p241
                                replace q241 := eq_true q241
                                have p242 : 0 ≤ (x6_2 : Int) := of_decide_eq_true (by first | (with_reducible assumption) | assumption)
                                have q242 : x6_2 < (l1.length : Int) := of_decide_eq_true (by first | (with_reducible assumption) | assumption)
                                obtain ⟨ad242, e242, hx242_0⟩ := Kd.at_int HR1.out x6_2 p242 q242
                                obtain rfl : ad240 = ad242 := (by injection e242)
                                replace hx242_0 := (HB.out.cell (World.block_lt_of_cell? w _ hx242_0)).trans hx242_0
                                replace p242 := eq_true p242
                                replace q242 := eq_true q242
                                obtain ⟨Ao23, co23, eo23⟩ := Kd.R_slice HO_5.out
                                subst eo23
                                have p243 : 0 ≤ ((rd l1 x6_2) : Int) := of_decide_eq_true (by first | (with_reducible assumption) | assumption)
                                have q243 : (rd l1 x6_2) < (x5_2.length : Int) := of_decide_eq_true (by first | (with_reducible assumption) | assumption)
                                obtain ⟨ad243, e243, hx243_0⟩ := Kd.at_bool (Kd.R_reads' HO_5.out).2.2 (rd l1 x6_2) p243 q243
                                (try rw [← Nbq19.out] at hx243_0)
                                cases e243
                                replace p243 := eq_true p243
                                replace q243 := eq_true q243
                                have p244 : 0 ≤ (x6_2 : Int) := of_decide_eq_true (by first | (with_reducible assumption) | assumption)
                                have q244 : x6_2 < (l1.length : Int) := of_decide_eq_true (by first | (with_reducible assumption) | assumption)
                                obtain ⟨ad244, e244, hx244_0⟩ := Kd.at_int HR1.out x6_2 p244 q244
                                obtain rfl : ad240 = ad244 := (by injection e244)
                                replace hx244_0 := (HB.out.cell (World.block_lt_of_cell? w _ hx244_0)).trans hx244_0
                                replace p244 := eq_true p244
                                replace q244 := eq_true q244
                                have p22 : 0 ≤ ((rd l1 x6_2) : Int) := of_decide_eq_true (by first | (with_reducible assumption) | assumption)
                                have q22 : ((rd l1 x6_2) : Int) < ((x5_2.length : Int) : Int) := of_decide_eq_true (by first | (with_reducible assumption) | assumption)
                                obtain ⟨go22, co22, eo22, gb22, gl22, cl22, HG22⟩ := Kd.R_form HO_5.out (by omega)
                                (first | cases eo22 | (injection eo22 with ea_ en_ ec_; (first | subst ea_ | (injection ea_ with ea_; subst ea_)); subst ec_; clear en_))
                                have GB22 := Aside0.mk gb22
                                have GG22 := Aside0.mk HG22
                                clear gb22 gl22 HG22
                                (first | simp only [add_plain] at hx243_0 | skip)
                                obtain ⟨hx22_0, hf22_0⟩ := Kd.R_celln false HO_5.out ((rd l1 x6_2) : Int) p22 q22
                                replace p22 := eq_true p22
                                replace q22 := eq_true q22
                                have HP24 := Kd.R_putg HO_5.out ((rd l1 x6_2) : Int) true
                                go_wp2_with (first | ((with_reducible refine gate_store (t := 4) (p := 55) rfl ?_); refine store_event (t := 4) (p := 55) (v := ?vo_w25) (w1 := (wr.setCell ⟨go22, ((rd l1 x6_2) : Int).toNat, none⟩ (.bool true))) ?hg ?ho ?hn ?hr ?_; (case ho => rfl); (case hg => rfl); (case hn => rfl); (case hr => first | (go_simp; done) | (go_simp; rfl)); intro w25 hw; have hg : wr.grownBy w25 (some go22) := (by rw [hw]; exact HP24.2); have hp_ : Kd.R Kd.bool 4 w25 w.heap.size (fun _ => True) (.slice (some ⟨go22, 0, none⟩) x5_2.length co23) y245 := (by rw [hw, Ny245.out]; exact HP24.1); clear HP24; have n0_ := Aside0.mk (hp_); have n1_ := Aside0.mk ((by rw [hw]; exact below_set (HB.out) GB22.out : Below w.heap.size w w25)); clear HO_5; clear HB; have HO_5 := n0_; have HB := n1_; clear n0_ n1_; clear hg hw hp_))
                                go_roundg k2
                                case measure => have := HJ2.out; have := HK2.out; omega
                                case rel => exact ⟨(y245), (wrap64 (x6_2 + 1)), (by first | rfl | (simp; done) | (simp [*]; done)), H', ⟨by have := HJ2.out; have := HK2.out; omega⟩, ⟨by (with_reducible repeat (first | apply Kd.R_alloc | apply Kd.R_drewN | apply Kd.R_drew)); exact HO_5.out⟩, ⟨by repeat (first | (with_reducible first | exact HB.out | apply below_alloc | apply pw_below_drewN | apply below_drew1) | exact HB.out)⟩⟩
                            · rw [if_neg c18] at H
                              exact absurd H (by simp)
                          · rw [if_neg c17] at H
                            exact absurd H (by simp)
                    · rw [if_neg c14] at H
                      exact absurd H (by simp)
                  · rw [if_neg c13] at H
                    exact absurd H (by simp)
                · rw [if_neg c12] at H
                  have c12b0 : decide (x6_2 < a0) = false := decide_eq_false c12
                  clear c12
                  obtain rfl := Option.some.inj H
                  go_wp2
                  go_ret
                  exact ⟨by first | rfl | (simp [errW_none, errW_some] <;> rfl) | (simp [*, errW_none, errW_some] <;> rfl), by repeat (first | (with_reducible first | exact HB.out | apply below_alloc | apply pw_below_drewN | apply below_drew1) | exact HB.out)⟩
          · rw [if_neg c9] at H
            exact absurd H (by simp)
        · rw [if_neg c8] at H
          exact absurd H (by simp)

end Go.Proofs.Ytohjocajaanhaaa.P

-- PRINTED by print.py (a twelfth state) out of the translation. Not trusted: Lean checks it.

namespace Go.Proofs.Ytohjocajaanhaaa.P
open Go.RowKit Go.Proofs.YtohjocajaanhaaaW.PrintWords Go.Proofs.YtohjocajaanhaaaW.PrintLast Go.Proofs.YtohjocajaanhaaaW.PrintMore
attribute [local go_sem] max2_int min2_int max_two min_two max_three min_three max_four min_four   -- for this text's walks alone
set_option linter.unusedVariables false
set_option linter.unusedSimpArgs false

/-! ### swarfref38_Length: function 13 -/
def swarfref38_Length.f (k : Nat) (l0 : List (S31)) (l1 : List Int) : Option (Int × Int) := (swarfref38_Valid.f k l0 200).bind fun t255 => (if t255 = 0 then ((swarfref38_Order.f k (l0.length : Int) l1).bind fun t256 => (if t256 = true then ((swarfref38_way.f k l0 l1).bind fun t257 => (some (t257, 0))) else (some (0, 1)))) else (some (0, t255)))
theorem swarfref38_Length.mono : ∀ a0 a1 k, LeO (swarfref38_Length.f k a0 a1) (swarfref38_Length.f (k + 1) a0 a1) := by
  intro a0 a1 k
  unfold swarfref38_Length.f
  repeat' first
      | (with_reducible exact swarfref38_Order.mono _ _ _)
      | (with_reducible exact swarfref38_Valid.mono _ _ _)
      | (with_reducible exact swarfref38_way.mono _ _ _)
      | (with_reducible exact LeO.refl _)
      | (with_reducible exact LeO.none _)
      | (with_reducible refine LeO.ite ?_ ?_)
      | (with_reducible refine LeO.bind ?_ (fun _ => ?_))
      | exact swarfref38_Order.mono _ _ _
      | exact swarfref38_Valid.mono _ _ _
      | exact swarfref38_way.mono _ _ _
      | exact LeO.none _
      | refine LeO.ite ?_ ?_
      | refine LeO.bind ?_ (fun _ => ?_)
set_option maxHeartbeats 8000000 in
set_option maxRecDepth 100000 in
theorem swarfref38_Length.calls (k : Nat) (A0 : Option Addr) (c0 : Nat) (l0 : List (S31)) (A1 : Option Addr) (c1 : Nat) (l1 : List Int) (r1 : Int) (r2 : Int) (w : World) (hr0 : Kd.C k31 w A0 l0.length l0) (hc0 : l0.length ≤ c0) (hr1 : Kd.C (Kd.int .i64) w A1 l1.length l1) (hc1 : l1.length ≤ c1) (h : swarfref38_Length.f k l0 l1 = some (r1, r2)) :
    Calls Try.prog 13 #[.slice A0 l0.length c0, .slice A1 l1.length c1] w fun e w' => e = .returned (.tuple #[.int .i64 r1, .int .i64 r2]) ∧ Below w.heap.size w w' := by
  have HR0 := Aside0.mk hr0
  have HC0 := Aside0.mk hc0
  clear hr0 hc0
  have HR1 := Aside0.mk hr1
  have HC1 := Aside0.mk hc1
  clear hr1 hc1
  have HB := Aside0.mk (Below.refl w.heap.size w)
  have H : ((swarfref38_Valid.f k l0 200).bind fun t255 => (if t255 = 0 then ((swarfref38_Order.f k (l0.length : Int) l1).bind fun t256 => (if t256 = true then ((swarfref38_way.f k l0 l1).bind fun t257 => (some (t257, 0))) else (some (0, 1)))) else (some (0, t255)))) = some (r1, r2) := h
  clear h
  replace H := Option.bind_eq_some_iff.mp H
  obtain ⟨t255, A30, H⟩ := H
  replace H : (if t255 = 0 then ((swarfref38_Order.f k (l0.length : Int) l1).bind fun t256 => (if t256 = true then ((swarfref38_way.f k l0 l1).bind fun t257 => (some (t257, 0))) else (some (0, 1)))) else (some (0, t255))) = some (r1, r2) := H
  have A3 := Aside0.mk A30
  clear A30
  by_cases c4 : t255 = 0
  · rw [if_pos c4] at H
    have c4b0 : (t255 == 0) = true := beq_iff_eq.mpr c4
    have c4b1 : (t255 != 0) = false := bne_eq_false_iff_eq.mpr c4
    clear c4
    replace H := Option.bind_eq_some_iff.mp H
    obtain ⟨t256, A50, H⟩ := H
    replace H : (if t256 = true then ((swarfref38_way.f k l0 l1).bind fun t257 => (some (t257, 0))) else (some (0, 1))) = some (r1, r2) := H
    have A5 := Aside0.mk A50
    clear A50
    by_cases c6 : t256 = true
    · subst c6
      have H1 : ((swarfref38_way.f k l0 l1).bind fun t257 => (some (t257, 0))) = some (r1, r2) := by rw [if_pos rfl] at H; exact H
      clear H
      have H := H1
      clear H1
      replace H := Option.bind_eq_some_iff.mp H
      obtain ⟨t257, A70, H⟩ := H
      replace H : (some (t257, 0)) = some (r1, r2) := H
      have A7 := Aside0.mk A70
      clear A70
      simp only [Option.some.injEq, Prod.mk.injEq] at H
      obtain ⟨rfl, rfl⟩ := H
      go_enter Try.func13, Try.ntmps13
      go_wp2_with (first | ((with_reducible refine gate_callee (f := 31) rfl ?_); refine goesL_ (some 8) rfl rfl Try.func31 (by kernel_rfl) rfl #[.slice A0 l0.length c0, .int .i64 200] rfl (by (try simp only [List.map_toArray, List.map_cons, List.map_nil]); first | done | rfl | (simp only [List.length_drop, List.length_take]; rfl)) ?_; (with_reducible refine (swarfref38_Valid.calls k _ _ l0 200 t255 _ ?side1 ?side2 A3.out).mono ?_); (case side1 => repeat (first | exact HR0.out | (with_reducible refine Kd.C_alloc ?_ _) | (with_reducible refine Kd.C_drewN ?_ _) | (with_reducible refine Kd.C_drew ?_))); (case side2 => exact HC0.out); rintro e w' ⟨rfl, ⟨nd, rfl⟩⟩; refine ⟨_, rfl, ?_⟩) | ((with_reducible refine gate_callee (f := 32) rfl ?_); refine goesL_ (some 15) rfl rfl Try.func32 (by kernel_rfl) rfl #[.int .i64 (l0.length : Int), .slice A1 l1.length c1] rfl (by (try simp only [List.map_toArray, List.map_cons, List.map_nil]); first | done | rfl | (simp only [List.length_drop, List.length_take]; rfl)) ?_; (with_reducible refine (swarfref38_Order.calls k (l0.length : Int) _ _ l1 true _ ?side1 ?side2 A5.out).mono ?_); (case side1 => repeat (first | exact HR1.out | (with_reducible refine Kd.C_alloc ?_ _) | (with_reducible refine Kd.C_drewN ?_ _) | (with_reducible refine Kd.C_drew ?_))); (case side2 => exact HC1.out); rintro e w8 ⟨rfl, hb⟩; refine ⟨_, rfl, ?_⟩; have n0_ := Aside0.mk (below_step (by repeat (first | (with_reducible first | exact HB.out | apply below_alloc | apply pw_below_drewN | apply below_drew1) | exact HB.out)) hb); clear HB; have HB := n0_; clear n0_; (try clear hb); (try clear hb2); (try clear hk); (try clear hi)) | ((with_reducible refine gate_callee (f := 33) rfl ?_); refine goesL_ (some 19) rfl rfl Try.func33 (by kernel_rfl) rfl #[.slice A0 l0.length c0, .slice A1 l1.length c1] rfl (by (try simp only [List.map_toArray, List.map_cons, List.map_nil]); first | done | rfl | (simp only [List.length_drop, List.length_take]; rfl)) ?_; (with_reducible refine (swarfref38_way.calls k _ _ l0 _ _ l1 t257 _ ?side1 ?side2 ?side3 ?side4 A7.out).mono ?_); (case side1 => repeat (first | exact (Kd.C_below HR0.out HB.out) | (with_reducible refine Kd.C_alloc ?_ _) | (with_reducible refine Kd.C_drewN ?_ _) | (with_reducible refine Kd.C_drew ?_))); (case side2 => exact HC0.out); (case side3 => repeat (first | exact (Kd.C_below HR1.out HB.out) | (with_reducible refine Kd.C_alloc ?_ _) | (with_reducible refine Kd.C_drewN ?_ _) | (with_reducible refine Kd.C_drew ?_))); (case side4 => exact HC1.out); rintro e w9 ⟨rfl, hb⟩; refine ⟨_, rfl, ?_⟩; have n0_ := Aside0.mk (below_step (by repeat (first | (with_reducible first | exact HB.out | apply below_alloc | apply pw_below_drewN | apply below_drew1) | exact HB.out)) hb); clear HB; have HB := n0_; clear n0_; (try clear hb); (try clear hb2); (try clear hk); (try clear hi)))
      go_ret2
      exact ⟨by first | rfl | (simp [errW_none, errW_some] <;> rfl) | (simp [*, errW_none, errW_some] <;> rfl), by repeat (first | (with_reducible first | exact HB.out | apply below_alloc | apply pw_below_drewN | apply below_drew1) | exact HB.out)⟩
    · replace c6 := Bool.eq_false_iff.mpr c6
      subst c6
      have H1 : (some (0, 1)) = some (r1, r2) := by rw [if_neg (show ¬ (false = true) by decide)] at H; exact H
      clear H
      have H := H1
      clear H1
      simp only [Option.some.injEq, Prod.mk.injEq] at H
      obtain ⟨rfl, rfl⟩ := H
      go_enter Try.func13, Try.ntmps13
      go_wp2_with (first | ((with_reducible refine gate_callee (f := 31) rfl ?_); refine goesL_ (some 8) rfl rfl Try.func31 (by kernel_rfl) rfl #[.slice A0 l0.length c0, .int .i64 200] rfl (by (try simp only [List.map_toArray, List.map_cons, List.map_nil]); first | done | rfl | (simp only [List.length_drop, List.length_take]; rfl)) ?_; (with_reducible refine (swarfref38_Valid.calls k _ _ l0 200 t255 _ ?side1 ?side2 A3.out).mono ?_); (case side1 => repeat (first | exact HR0.out | (with_reducible refine Kd.C_alloc ?_ _) | (with_reducible refine Kd.C_drewN ?_ _) | (with_reducible refine Kd.C_drew ?_))); (case side2 => exact HC0.out); rintro e w' ⟨rfl, ⟨nd, rfl⟩⟩; refine ⟨_, rfl, ?_⟩) | ((with_reducible refine gate_callee (f := 32) rfl ?_); refine goesL_ (some 15) rfl rfl Try.func32 (by kernel_rfl) rfl #[.int .i64 (l0.length : Int), .slice A1 l1.length c1] rfl (by (try simp only [List.map_toArray, List.map_cons, List.map_nil]); first | done | rfl | (simp only [List.length_drop, List.length_take]; rfl)) ?_; (with_reducible refine (swarfref38_Order.calls k (l0.length : Int) _ _ l1 false _ ?side1 ?side2 A5.out).mono ?_); (case side1 => repeat (first | exact HR1.out | (with_reducible refine Kd.C_alloc ?_ _) | (with_reducible refine Kd.C_drewN ?_ _) | (with_reducible refine Kd.C_drew ?_))); (case side2 => exact HC1.out); rintro e w10 ⟨rfl, hb⟩; refine ⟨_, rfl, ?_⟩; have n0_ := Aside0.mk (below_step (by repeat (first | (with_reducible first | exact HB.out | apply below_alloc | apply pw_below_drewN | apply below_drew1) | exact HB.out)) hb); clear HB; have HB := n0_; clear n0_; (try clear hb); (try clear hb2); (try clear hk); (try clear hi)))
      go_ret2
      exact ⟨by first | rfl | (simp [errW_none, errW_some] <;> rfl) | (simp [*, errW_none, errW_some] <;> rfl), by repeat (first | (with_reducible first | exact HB.out | apply below_alloc | apply pw_below_drewN | apply below_drew1) | exact HB.out)⟩
  · rw [if_neg c4] at H
    have c4b0 : (t255 == 0) = false := beq_eq_false_iff_ne.mpr c4
    have c4b1 : (t255 != 0) = true := bne_iff_ne.mpr c4
    simp only [Option.some.injEq, Prod.mk.injEq] at H
    obtain ⟨rfl, rfl⟩ := H
    go_enter Try.func13, Try.ntmps13
    go_wp2_with (first | ((with_reducible refine gate_callee (f := 31) rfl ?_); refine goesL_ (some 8) rfl rfl Try.func31 (by kernel_rfl) rfl #[.slice A0 l0.length c0, .int .i64 200] rfl (by (try simp only [List.map_toArray, List.map_cons, List.map_nil]); first | done | rfl | (simp only [List.length_drop, List.length_take]; rfl)) ?_; (with_reducible refine (swarfref38_Valid.calls k _ _ l0 200 t255 _ ?side1 ?side2 A3.out).mono ?_); (case side1 => repeat (first | exact HR0.out | (with_reducible refine Kd.C_alloc ?_ _) | (with_reducible refine Kd.C_drewN ?_ _) | (with_reducible refine Kd.C_drew ?_))); (case side2 => exact HC0.out); rintro e w' ⟨rfl, ⟨nd, rfl⟩⟩; refine ⟨_, rfl, ?_⟩))
    go_ret2
    exact ⟨by first | rfl | (simp [errW_none, errW_some] <;> rfl) | (simp [*, errW_none, errW_some] <;> rfl), by repeat (first | (with_reducible first | exact HB.out | apply below_alloc | apply pw_below_drewN | apply below_drew1) | exact HB.out)⟩

end Go.Proofs.Ytohjocajaanhaaa.P

-- PRINTED by print.py (a twelfth state) out of the translation. Not trusted: Lean checks it.

namespace Go.Proofs.Ytohjocajaanhaaa.P
open Go.RowKit Go.Proofs.YtohjocajaanhaaaW.PrintWords Go.Proofs.YtohjocajaanhaaaW.PrintLast Go.Proofs.YtohjocajaanhaaaW.PrintMore
attribute [local go_sem] max2_int min2_int max_two min_two max_three min_three max_four min_four   -- for this text's walks alone
set_option linter.unusedVariables false
set_option linter.unusedSimpArgs false

/-! ### swarflaw38_right: function 14 -/
def swarflaw38_right.f (k : Nat) (l0 : List (S31)) (a1 : Int) : Option (Bool) := (swarfref38_Valid.f k l0 a1).bind fun t258 => (some (t258 == 0))
theorem swarflaw38_right.mono : ∀ a0 a1 k, LeO (swarflaw38_right.f k a0 a1) (swarflaw38_right.f (k + 1) a0 a1) := by
  intro a0 a1 k
  unfold swarflaw38_right.f
  repeat' first
      | (with_reducible exact swarfref38_Valid.mono _ _ _)
      | (with_reducible exact LeO.refl _)
      | (with_reducible exact LeO.none _)
      | (with_reducible refine LeO.ite ?_ ?_)
      | (with_reducible refine LeO.bind ?_ (fun _ => ?_))
      | exact swarfref38_Valid.mono _ _ _
      | exact LeO.none _
      | refine LeO.ite ?_ ?_
      | refine LeO.bind ?_ (fun _ => ?_)
set_option maxHeartbeats 8000000 in
set_option maxRecDepth 100000 in
theorem swarflaw38_right.calls (k : Nat) (A0 : Option Addr) (c0 : Nat) (l0 : List (S31)) (a1 : Int) (r : Bool) (w : World) (hr0 : Kd.C k31 w A0 l0.length l0) (hc0 : l0.length ≤ c0) (h : swarflaw38_right.f k l0 a1 = some r) :
    Calls Try.prog 14 #[.slice A0 l0.length c0, .int .i64 a1] w fun e w' => e = .returned (.bool r) ∧ Drawn0 w w' := by
  have HR0 := Aside0.mk hr0
  have HC0 := Aside0.mk hc0
  clear hr0 hc0
  have H : ((swarfref38_Valid.f k l0 a1).bind fun t258 => (some (t258 == 0))) = some r := h
  clear h
  replace H := Option.bind_eq_some_iff.mp H
  obtain ⟨t258, A30, H⟩ := H
  replace H : (some (t258 == 0)) = some r := H
  have A3 := Aside0.mk A30
  clear A30
  obtain rfl := Option.some.inj H
  go_enter Try.func14, Try.ntmps14
  go_wp2_with (first | ((with_reducible refine gate_callee (f := 31) rfl ?_); refine goesL_ (some 7) rfl rfl Try.func31 (by kernel_rfl) rfl #[.slice A0 l0.length c0, .int .i64 a1] rfl (by (try simp only [List.map_toArray, List.map_cons, List.map_nil]); first | done | rfl | (simp only [List.length_drop, List.length_take]; rfl)) ?_; (with_reducible refine (swarfref38_Valid.calls k _ _ l0 a1 t258 _ ?side1 ?side2 A3.out).mono ?_); (case side1 => repeat (first | exact HR0.out | (with_reducible refine Kd.C_alloc ?_ _) | (with_reducible refine Kd.C_drewN ?_ _) | (with_reducible refine Kd.C_drew ?_))); (case side2 => exact HC0.out); rintro e w' ⟨rfl, ⟨nd, rfl⟩⟩; refine ⟨_, rfl, ?_⟩))
  go_ret
  exact ⟨by first | rfl | (simp; done) | (simp [*]; done), by repeat (first | exact Drawn0.refl _ | apply Drawn0.step)⟩

end Go.Proofs.Ytohjocajaanhaaa.P

/- What the printed functions of tours come to: the error of positions, orders, lengths. Plain numbers and lists. -/

namespace Go.Proofs.Ytohjocajaanhaaa.B
open Go.RowKit Go.Proofs.Ytohjocajaanhaaa.P Go.Proofs.YtohjocajaanhaaaW.PrintWords Go.Proofs.YtohjocajaanhaaaW.PrintLast Go.Proofs.YtohjocajaanhaaaW.PrintMore
set_option linter.unusedVariables false
set_option linter.unusedSimpArgs false

theorem wrap_mid (x : Int) (h0 : -4000000000000000 ≤ x) (h1 : x ≤ 4000000000000000) : wrap64 x = x := by unfold wrap64; omega
theorem ev_end {α : Type} {g : Nat → Option α} {r : α} (h : ∀ k, g (k + 1) = some r) : Ev g r := Ev.step (f := fun _ => some r) h (Ev.now r)
def okp (p : S31) : Bool := decide (-10000000 ≤ p.f0) && decide (p.f0 ≤ 10000000) && (decide (-10000000 ≤ p.f1) && decide (p.f1 ≤ 10000000))
theorem okp_iff (p : S31) : okp p = true ↔ (-10000000 ≤ p.f0 ∧ p.f0 ≤ 10000000) ∧ (-10000000 ≤ p.f1 ∧ p.f1 ≤ 10000000) := by simp [okp]
def gapZ (a b : Int) : Int := if a < b then b - a else a - b
/-- The distance of two positions. -/
def dst (p q : S31) : Int := mx (gapZ p.f0 q.f0) (gapZ p.f1 q.f1)
theorem dst_nonneg (p q : S31) : 0 ≤ dst p q := by unfold dst mx gapZ; repeat' split <;> omega
theorem dst_le {p q : S31} (hp : okp p = true) (hq : okp q = true) : dst p q ≤ 20000000 := by
  rw [okp_iff] at hp hq
  unfold dst mx gapZ; repeat' split <;> omega
theorem dist_eq {p q : S31} (hp : okp p = true) (hq : okp q = true) : tour_Distance.f p.f0 p.f1 q.f0 q.f1 = some (dst p q) := by
  rw [okp_iff] at hp hq
  unfold tour_Distance.f
  rw [wrap_mid _ (by omega) (by omega), wrap_mid _ (by omega) (by omega), wrap_mid _ (by omega) (by omega), wrap_mid _ (by omega) (by omega)]
  congr 1
  unfold dst mx gapZ; repeat' split <;> omega
theorem ref_dist_eq {p q : S31} (hp : okp p = true) (hq : okp q = true) : swarfref38_Distance.f p.f0 p.f1 q.f0 q.f1 = some (dst p q) := by
  rw [okp_iff] at hp hq
  unfold swarfref38_Distance.f swarfref38_gap.f
  rw [wrap_mid _ (by omega) (by omega), wrap_mid _ (by omega) (by omega), wrap_mid _ (by omega) (by omega), wrap_mid _ (by omega) (by omega)]
  unfold dst gapZ
  by_cases h1 : p.f0 < q.f0 <;> by_cases h2 : p.f1 < q.f1 <;> simp [h1, h2]
theorem drop_T31 (l : List S31) (j : Nat) (h : j < l.length) : l.drop j = rd_T31 l (j : Int) :: l.drop (j + 1) := by
  rw [List.drop_eq_getElem_cons h]
  congr 1
  unfold rd_T31
  simp [List.getD, h]
theorem drop_rd (l : List Int) (j : Nat) (h : j < l.length) : l.drop j = rd l (j : Int) :: l.drop (j + 1) := by
  rw [List.drop_eq_getElem_cons h]
  congr 1
  unfold rd
  simp [List.getD, h]
theorem ok_at {l : List S31} (h : l.all okp = true) (i : Int) (h0 : 0 ≤ i) (h1 : i < (l.length : Int)) : okp (rd_T31 l i) = true := by
  rw [List.all_eq_true] at h
  have : i.toNat < l.length := by omega
  have e : rd_T31 l i = l[i.toNat] := by unfold rd_T31; simp [List.getD, this]
  rw [e]
  exact h _ (List.getElem_mem this)

/-! ### The error of positions -/
theorem check_l0 (l : List S31) (hn : l.length ≤ 1000) (d : Nat) : ∀ j : Nat, j + d = l.length → Ev (fun k => tour_check.l0 k l (l.length : Int) (j : Int)) (if (l.drop j).all okp = true then 0 else 11) := by
  induction d with
  | zero =>
    intro j hj
    rw [List.drop_eq_nil_of_le (by omega)]
    exact ev_end (fun k => by simp only [tour_check.l0]; rw [if_neg (by omega)]; rfl)
  | succ d ih =>
    intro j hj
    have hw : wrap64 ((j : Int) + 1) = ((j + 1 : Nat) : Int) := by rw [wrap_mid _ (by omega) (by omega)]; omega
    rw [drop_T31 l j (by omega)]
    generalize hp : rd_T31 l (j : Int) = p
    by_cases ho : okp p = true
    · have hi := ih (j + 1) (by omega)
      rw [List.all_cons, ho, Bool.true_and]
      refine Ev.step (fun k => ?_) hi
      rw [okp_iff] at ho
      simp only [tour_check.l0]
      rw [if_pos (by omega), if_pos (by omega), if_pos (by omega), hp, if_neg (by unfold mx; split <;> omega), if_neg (by unfold mn; split <;> omega), hw]
    · rw [List.all_cons, show okp p = false by simpa using ho, Bool.false_and]
      refine ev_end (fun k => ?_)
      rw [okp_iff] at ho
      simp only [tour_check.l0]
      rw [if_pos (by omega), if_pos (by omega), if_pos (by omega), hp]
      by_cases h1 : mx p.f0 p.f1 > 10000000
      · rw [if_pos h1]; rfl
      · rw [if_neg h1, if_pos (by unfold mx at h1; unfold mn; split at h1 <;> split <;> omega)]; rfl
theorem rvalid_l0 (l : List S31) (hn : l.length ≤ 1000) (d : Nat) : ∀ j : Nat, j + d = l.length → Ev (fun k => swarfref38_Valid.l0 k l (j : Int)) (if (l.drop j).all okp = true then 0 else 11) := by
  induction d with
  | zero =>
    intro j hj
    rw [List.drop_eq_nil_of_le (by omega)]
    exact ev_end (fun k => by simp only [swarfref38_Valid.l0]; rw [if_neg (by omega)]; rfl)
  | succ d ih =>
    intro j hj
    have hw : wrap64 ((j : Int) + 1) = ((j + 1 : Nat) : Int) := by rw [wrap_mid _ (by omega) (by omega)]; omega
    rw [drop_T31 l j (by omega)]
    generalize hp : rd_T31 l (j : Int) = p
    by_cases ho : okp p = true
    · have hi := ih (j + 1) (by omega)
      rw [List.all_cons, ho, Bool.true_and]
      refine Ev.step (fun k => ?_) hi
      rw [okp_iff] at ho
      simp only [swarfref38_Valid.l0]
      rw [if_pos (by omega), if_pos (by omega), hp, if_neg (by omega), if_neg (by omega), if_neg (by omega), if_neg (by omega), hw]
    · rw [List.all_cons, show okp p = false by simpa using ho, Bool.false_and]
      refine ev_end (fun k => ?_)
      rw [okp_iff] at ho
      simp only [swarfref38_Valid.l0]
      rw [if_pos (by omega), if_pos (by omega), hp]
      by_cases h1 : p.f0 > 10000000
      · rw [if_pos h1]; rfl
      · rw [if_neg h1]
        by_cases h2 : p.f0 < -10000000
        · rw [if_pos h2]; rfl
        · rw [if_neg h2]
          by_cases h3 : p.f1 > 10000000
          · rw [if_pos h3]; rfl
          · rw [if_neg h3, if_pos (by omega)]; rfl
/-- The error of positions. -/
def chkE (l : List S31) (m : Int) : Int := if (l.length : Int) > m then 3 else if l.all okp = true then 0 else 11
theorem chkE_zero {l : List S31} {m : Int} (h : chkE l m = 0) : (l.length : Int) ≤ m ∧ l.all okp = true := by
  unfold chkE at h
  split at h
  · cases h
  · split at h
    · rename_i h1 h2; exact ⟨by omega, h2⟩
    · cases h
theorem check_ev (l : List S31) (m : Int) (hn : l.length ≤ 1000) : Ev (fun k => tour_check.f k l m) (chkE l m) := by
  unfold tour_check.f chkE
  by_cases h : (l.length : Int) > m
  · simp only [if_pos h]; exact Ev.now _
  · simp only [if_neg h]
    exact check_l0 l hn l.length 0 (by omega)
theorem rvalid_ev (l : List S31) (m : Int) (hn : l.length ≤ 1000) : Ev (fun k => swarfref38_Valid.f k l m) (chkE l m) := by
  unfold swarfref38_Valid.f chkE
  by_cases h : (l.length : Int) > m
  · simp only [if_pos h]; exact Ev.now _
  · simp only [if_neg h]
    exact rvalid_l0 l hn l.length 0 (by omega)
/-! ### Orders -/
/-! ### Lengths -/
def wy (l : List S31) : List Int → Int
  | [] => 0
  | [_] => 0
  | a :: b :: t => dst (rd_T31 l a) (rd_T31 l b) + wy l (b :: t)
theorem wy_nonneg (l : List S31) : ∀ o : List Int, 0 ≤ wy l o
  | [] => Int.le_refl _
  | [_] => Int.le_refl _
  | a :: b :: t => by
    have := wy_nonneg l (b :: t)
    have := dst_nonneg (rd_T31 l a) (rd_T31 l b)
    simp only [wy]; omega
theorem rd_mem {o : List Int} {i : Int} (h0 : 0 ≤ i) (h1 : i < (o.length : Int)) : rd o i ∈ o := by
  have : i.toNat < o.length := by omega
  have e : rd o i = o[i.toNat] := by unfold rd; simp [List.getD, this]
  rw [e]; exact List.getElem_mem this
theorem length_l0 (l : List S31) (hv : l.all okp = true) (o : List Int) (hl : o.length ≤ 1000) (hr : ∀ x ∈ o, 0 ≤ x ∧ x < (l.length : Int)) (d : Nat) : ∀ (j : Nat) (acc : Int), 0 ≤ acc → acc ≤ 20000000 * j → j + 1 + d = o.length →
    Ev (fun k => tour_length.l0 k l o acc ((j + 1 : Nat) : Int)) (acc + wy l (o.drop j)) ∧ Ev (fun k => swarfref38_way.l0 k l o acc ((j + 1 : Nat) : Int)) (acc + wy l (o.drop j)) := by
  induction d with
  | zero =>
    intro j acc ha0 ha1 hj
    rw [drop_rd o j (by omega), List.drop_eq_nil_of_le (by omega)]
    have e : acc + wy l [rd o (j : Int)] = acc := by simp [wy]
    rw [e]
    exact ⟨ev_end (fun k => by simp only [tour_length.l0]; rw [if_neg (by omega)]), ev_end (fun k => by simp only [swarfref38_way.l0]; rw [if_neg (by omega)])⟩
  | succ d ih =>
    intro j acc ha0 ha1 hj
    have m1 := hr _ (rd_mem (o := o) (i := (j : Int)) (by omega) (by omega))
    have m2 := hr _ (rd_mem (o := o) (i := ((j + 1 : Nat) : Int)) (by omega) (by omega))
    have k1 := ok_at hv _ m1.1 m1.2
    have k2 := ok_at hv _ m2.1 m2.2
    have dn := dst_nonneg (rd_T31 l (rd o (j : Int))) (rd_T31 l (rd o ((j + 1 : Nat) : Int)))
    have dl := dst_le k1 k2
    have hw1 : wrap64 (((j + 1 : Nat) : Int) - 1) = (j : Int) := by rw [wrap_mid _ (by omega) (by omega)]; omega
    have hw2 : wrap64 (((j + 1 : Nat) : Int) + 1) = ((j + 1 + 1 : Nat) : Int) := by rw [wrap_mid _ (by omega) (by omega)]; omega
    have hw3 : wrap64 (acc + dst (rd_T31 l (rd o (j : Int))) (rd_T31 l (rd o ((j + 1 : Nat) : Int)))) = acc + dst (rd_T31 l (rd o (j : Int))) (rd_T31 l (rd o ((j + 1 : Nat) : Int))) := wrap_mid _ (by omega) (by omega)
    have hi := ih (j + 1) (acc + dst (rd_T31 l (rd o (j : Int))) (rd_T31 l (rd o ((j + 1 : Nat) : Int)))) (by omega) (by omega) (by omega)
    have e : acc + wy l (o.drop j) = acc + dst (rd_T31 l (rd o (j : Int))) (rd_T31 l (rd o ((j + 1 : Nat) : Int))) + wy l (o.drop (j + 1)) := by
      rw [drop_rd o j (by omega), drop_rd o (j + 1) (by omega)]
      simp only [wy]; omega
    rw [e]
    constructor
    · refine Ev.step (fun k => ?_) hi.1
      simp only [tour_length.l0]
      rw [if_pos (by omega), hw1, if_pos (by omega), if_pos (by omega), if_pos m1.1, if_pos m1.2, if_pos (by omega), if_pos m2.1, if_pos m2.2, dist_eq k1 k2]
      simp only [Option.bind_some]
      rw [hw2, hw3]
    · refine Ev.step (fun k => ?_) hi.2
      simp only [swarfref38_way.l0]
      rw [if_pos (by omega), hw1, if_pos (by omega), if_pos (by omega), if_pos m1.1, if_pos m1.2, if_pos (by omega), if_pos m2.1, if_pos m2.2, ref_dist_eq k1 k2]
      simp only [Option.bind_some]
      rw [hw2, hw3]
theorem length_ev (l : List S31) (hv : l.all okp = true) (o : List Int) (hl : o.length ≤ 1000) (hr : ∀ x ∈ o, 0 ≤ x ∧ x < (l.length : Int)) : Ev (fun k => tour_length.f k l o) (wy l o) ∧ Ev (fun k => swarfref38_way.f k l o) (wy l o) := by
  unfold tour_length.f swarfref38_way.f
  cases o with
  | nil => exact ⟨ev_end (fun k => by simp only [tour_length.l0]; rfl), ev_end (fun k => by simp only [swarfref38_way.l0]; rfl)⟩
  | cons a t =>
    have := length_l0 l hv (a :: t) hl hr t.length 0 0 (by omega) (by omega) (by simp only [List.length_cons]; omega)
    rw [List.drop_zero, Int.zero_add] at this
    exact this
end Go.Proofs.Ytohjocajaanhaaa.B

/- Least spanning trees: two runs that always add the cheapest edge come to the same sum, and no spanning tree is lighter. Plain numbers and lists. -/
namespace Go.Proofs.Ytohjocajaanhaaa.Mst
set_option linter.unusedVariables false
def wt (c : Nat → Nat → Int) : List (Nat × Nat) → Int
  | [] => 0
  | e :: E => c e.1 e.2 + wt c E
theorem wt_erase (c : Nat → Nat → Int) (e : Nat × Nat) (E : List (Nat × Nat)) (h : e ∈ E) : wt c E = c e.1 e.2 + wt c (E.erase e) := by
  induction E with
  | nil => cases h
  | cons f E ih =>
    rw [List.erase_cons]
    by_cases hf : f = e
    · subst hf; simp [wt]
    · rw [if_neg (by simpa using hf)]
      have := ih ((List.mem_cons.1 h).resolve_left (fun h => hf h.symm))
      simp only [wt]; omega
inductive Conn (E : List (Nat × Nat)) (S : Nat → Prop) : Nat → Prop
  | base {x : Nat} : S x → Conn E S x
  | step {a b : Nat} : Conn E S a → ((a, b) ∈ E ∨ (b, a) ∈ E) → Conn E S b
inductive Out (E : List (Nat × Nat)) (S : Nat → Prop) (b : Nat) : Nat → Prop
  | base : ¬ S b → Out E S b b
  | step {x y : Nat} : Out E S b x → ((x, y) ∈ E ∨ (y, x) ∈ E) → ¬ S y → Out E S b y
theorem Out.not {E : List (Nat × Nat)} {S : Nat → Prop} {b x : Nat} (h : Out E S b x) : ¬ S x := by
  cases h with
  | base h => exact h
  | step _ _ h => exact h
theorem exit {E : List (Nat × Nat)} {S : Nat → Prop} {x : Nat} (h : Conn E S x) : ¬ S x → ∃ a b, S a ∧ ¬ S b ∧ ((a, b) ∈ E ∨ (b, a) ∈ E) ∧ Out E S b x := by
  induction h with
  | base h => intro hn; exact absurd h hn
  | @step a b hc he ih =>
    intro hn
    by_cases ha : S a
    · exact ⟨a, b, ha, hn, he, .base hn⟩
    · obtain ⟨p, q, h1, h2, h3, h4⟩ := ih ha
      exact ⟨p, q, h1, h2, h3, .step h4 he hn⟩
theorem Out.back {E : List (Nat × Nat)} {S : Nat → Prop} {b x : Nat} (h : Out E S b x) (e : Nat × Nat) (he : S e.1 ∨ S e.2) (T : Nat → Prop) : Conn (E.erase e) T x → Conn (E.erase e) T b := by
  induction h with
  | base _ => exact id
  | @step x y hx hxy hy ih =>
    intro hc
    refine ih (.step hc ?_)
    have hnx := hx.not
    rcases hxy with h | h
    · refine .inr ((List.mem_erase_of_ne ?_).2 h)
      rintro rfl
      exact he.elim hnx hy
    · refine .inl ((List.mem_erase_of_ne ?_).2 h)
      rintro rfl
      exact he.elim hy hnx
/-- A run that always adds a cheapest edge out of S: its number of steps and its sum. -/
inductive Run (c : Nat → Nat → Int) (n : Nat) : (Nat → Prop) → Nat → Int → Prop
  | nil {S : Nat → Prop} : (∀ x, x < n → S x) → Run c n S 0 0
  | cons {S : Nat → Prop} {u v k : Nat} {t : Int} : S u → u < n → ¬ S v → v < n → (∀ a b, S a → a < n → ¬ S b → b < n → c u v ≤ c a b) → Run c n (fun x => S x ∨ x = v) k t → Run c n S (k + 1) (c u v + t)
/-- Edges that are added one after the other, each to a new number. -/
inductive Grow (n : Nat) : (Nat → Prop) → List (Nat × Nat) → Prop
  | nil {S : Nat → Prop} : (∀ x, x < n → S x) → Grow n S []
  | cons {S : Nat → Prop} {u v : Nat} {E : List (Nat × Nat)} : S u → u < n → ¬ S v → v < n → Grow n (fun x => S x ∨ x = v) E → Grow n S ((u, v) :: E)
theorem conn_cons {n : Nat} {E : List (Nat × Nat)} {S : Nat → Prop} {u v x : Nat} (hu : S u) (h : Conn E (fun x => S x ∨ x = v) x) : Conn ((u, v) :: E) S x := by
  induction h with
  | base h =>
    rcases h with h | rfl
    · exact .base h
    · exact .step (.base hu) (.inl List.mem_cons_self)
  | step _ he ih => exact .step ih (he.elim (fun h => .inl (List.mem_cons_of_mem _ h)) (fun h => .inr (List.mem_cons_of_mem _ h)))
theorem Grow.conn {n : Nat} {S : Nat → Prop} {E : List (Nat × Nat)} (h : Grow n S E) : ∀ x, x < n → Conn E S x := by
  induction h with
  | nil h => intro x hx; exact .base (h x hx)
  | cons hu _ _ _ _ ih => intro x hx; exact conn_cons (n := n) hu (ih x hx)
theorem Grow.lt {n : Nat} {S : Nat → Prop} {E : List (Nat × Nat)} (h : Grow n S E) : ∀ e ∈ E, e.1 < n ∧ e.2 < n := by
  induction h with
  | nil h => intro e he; cases he
  | cons hu hun _ hv _ ih =>
    intro e he
    rcases List.mem_cons.1 he with rfl | he
    · exact ⟨hun, hv⟩
    · exact ih e he
theorem Run.grow {c : Nat → Nat → Int} {n : Nat} {S : Nat → Prop} {k : Nat} {t : Int} (h : Run c n S k t) : ∃ E, Grow n S E ∧ E.length = k ∧ wt c E = t := by
  induction h with
  | nil h => exact ⟨[], .nil h, rfl, rfl⟩
  | @cons S u v k t hu hun hv hvn hm _ ih =>
    obtain ⟨E, h1, h2, h3⟩ := ih
    exact ⟨(u, v) :: E, .cons hu hun hv hvn h1, by simp [h2], by simp [wt, h3]⟩
theorem Run.least {c : Nat → Nat → Int} (sym : ∀ a b, c a b = c b a) {n : Nat} {S : Nat → Prop} {k : Nat} {t : Int} (h : Run c n S k t) :
    ∀ E, (∀ e ∈ E, e.1 < n ∧ e.2 < n) → (∀ x, x < n → Conn E S x) → E.length = k → t ≤ wt c E := by
  induction h with
  | nil h => intro E _ _ hl; rw [List.eq_nil_of_length_eq_zero hl]; exact Int.le_refl _
  | @cons S u v k t hu hun hv hvn hm _ ih =>
    intro E hlt hc hl
    obtain ⟨a, b, ha, hb, hab, ho⟩ := exit (hc v hvn) hv
    have main : ∀ e : Nat × Nat, e ∈ E → (e = (a, b) ∨ e = (b, a)) → c u v + t ≤ wt c E := by
      intro e he hor
      have hS : S e.1 ∨ S e.2 := by rcases hor with rfl | rfl; exact .inl ha; exact .inr ha
      have hcost : c u v ≤ c e.1 e.2 := by
        rcases hor with rfl | rfl
        · exact hm a b ha (hlt _ he).1 hb (hlt _ he).2
        · have := hm a b ha (hlt _ he).2 hb (hlt _ he).1
          rw [sym a b] at this; exact this
      rw [wt_erase c e E he]
      have hob := ho.back e hS (fun x => S x ∨ x = v) (.base (.inr rfl))
      have : t ≤ wt c (E.erase e) := by
        refine ih (E.erase e) (fun f hf => hlt f (List.mem_of_mem_erase hf)) (fun x hx => ?_) (by rw [List.length_erase_of_mem he]; omega)
        have := hc x hx
        clear hx
        induction this with
        | base h => exact .base (.inl h)
        | @step p q hp hpq ihp =>
          by_cases h1 : (p, q) = e ∨ (q, p) = e
          · have hq : q = a ∨ q = b := by
              rcases h1 with h1 | h1 <;> rcases hor with h2 | h2 <;> rw [h2] at h1 <;> injection h1 with h3 h4 <;> first | exact .inl h3 | exact .inl h4 | exact .inr h3 | exact .inr h4
            rcases hq with rfl | rfl
            · exact .base (.inl ha)
            · exact hob
          · have h2 := not_or.1 h1
            exact .step ihp (hpq.elim (fun h => .inl ((List.mem_erase_of_ne h2.1).2 h)) (fun h => .inr ((List.mem_erase_of_ne h2.2).2 h)))
      omega
    rcases hab with h | h
    · exact main _ h (.inl rfl)
    · exact main _ h (.inr rfl)
/-- No growth is lighter than a run. -/
theorem Run.le {c : Nat → Nat → Int} (sym : ∀ a b, c a b = c b a) {n : Nat} {S : Nat → Prop} {k : Nat} {t : Int} (h : Run c n S k t) {E : List (Nat × Nat)} (hg : Grow n S E) (hl : E.length = k) : t ≤ wt c E :=
  h.least sym E hg.lt hg.conn hl
/-- Two runs come to one sum. -/
theorem Run.same {c : Nat → Nat → Int} (sym : ∀ a b, c a b = c b a) {n : Nat} {S : Nat → Prop} {k : Nat} {t u : Int} (h : Run c n S k t) (g : Run c n S k u) : t = u := by
  obtain ⟨E, h1, h2, h3⟩ := h.grow
  obtain ⟨F, g1, g2, g3⟩ := g.grow
  have a := h.le sym g1 g2
  have b := g.le sym h1 h2
  omega
end Go.Proofs.Ytohjocajaanhaaa.Mst
