import Derived.Test.YtohjocajaanhaaaT6M21
-- PRINTED by print.py (a twelfth state) out of the translation. Not trusted: Lean checks it.

namespace Go.Proofs.Ytohjocajaanhaaa.P
open Go.RowKit Go.Proofs.YtohjocajaanhaaaW.PrintWords Go.Proofs.YtohjocajaanhaaaW.PrintLast Go.Proofs.YtohjocajaanhaaaW.PrintMore
attribute [local go_sem] max2_int min2_int max_two min_two max_three min_three max_four min_four   -- for this text's walks alone
set_option linter.unusedVariables false
set_option linter.unusedSimpArgs false

/-! ### tour_span: function 36 -/
mutual
def tour_span.l0 : Nat → List (S31) → List Int → List Int → List Bool → List Int → List Int → Int → Int → Option (Int × List Int)
  | 0, _, _, _, _, _, _, _, _ => none
  | k + 1, x0, x1, x6, x7, x8, x9, x35, x36 => if x36 < x35 then (if 0 < (x0.length : Int) then (if 0 ≤ x36 then (if x36 < (x0.length : Int) then ((tour_Distance.f ((rd_T31 x0 0).f0) ((rd_T31 x0 0).f1) ((rd_T31 x0 x36).f0) ((rd_T31 x0 x36).f1)).bind fun t152 => (if 0 < (x1.length : Int) then (if x36 < (x1.length : Int) then (if x36 < (x8.length : Int) then (tour_span.l0 k x0 x1 x6 x7 (x8.set (x36 : Int).toNat (wrap64 ((wrap64 (t152 + (rd x1 0))) + (rd x1 x36)))) x9 x35 (wrap64 (x36 + 1))) else (none)) else (none)) else (none))) else (none)) else (none)) else (none)) else (tour_span.l1 k x0 x1 x6 x7 x8 x9 0 (wrap64 ((x0.length : Int) - 1)) 0)
def tour_span.l1 : Nat → List (S31) → List Int → List Int → List Bool → List Int → List Int → Int → Int → Int → Option (Int × List Int)
  | 0, _, _, _, _, _, _, _, _, _ => none
  | k + 1, x0, x1, x6, x7, x8, x9, x11, x62, x63 => if x63 < x62 then (tour_span.l2 k x0 x1 x6 x7 x8 x9 x11 (-1) x62 x63 (x0.length : Int) 0) else (some (x11, x6))
def tour_span.l2 : Nat → List (S31) → List Int → List Int → List Bool → List Int → List Int → Int → Int → Int → Int → Int → Int → Option (Int × List Int)
  | 0, _, _, _, _, _, _, _, _, _, _, _, _ => none
  | k + 1, x0, x1, x6, x7, x8, x9, x11, x12, x62, x63, x66, x67 => if x67 < x66 then (if 0 ≤ x67 then (if x67 < (x7.length : Int) then (if rdOf false x7 x67 = true then (tour_span.l2 k x0 x1 x6 x7 x8 x9 x11 x12 x62 x63 x66 (wrap64 (x67 + 1))) else (if x12 < 0 then (tour_span.l2 k x0 x1 x6 x7 x8 x9 x11 x67 x62 x63 x66 (wrap64 (x67 + 1))) else (if x67 < (x8.length : Int) then (if 0 ≤ x12 then (if x12 < (x8.length : Int) then (if (rd x8 x67) < (rd x8 x12) then (tour_span.l2 k x0 x1 x6 x7 x8 x9 x11 x67 x62 x63 x66 (wrap64 (x67 + 1))) else (tour_span.l2 k x0 x1 x6 x7 x8 x9 x11 x12 x62 x63 x66 (wrap64 (x67 + 1)))) else (none)) else (none)) else (none)))) else (none)) else (none)) else (if 0 ≤ x12 then (if x12 < (x7.length : Int) then (if x12 < (x8.length : Int) then (if x12 < (x6.length : Int) then ((some (x6.set (x12 : Int).toNat (wrap64 ((rd x6 x12) + 1)) : List Int)).bind fun y162 => (if x12 < (x9.length : Int) then (if 0 ≤ (rd x9 x12) then (if (rd x9 x12) < (x6.length : Int) then (tour_span.l3 k x0 x1 (y162.set ((rd x9 x12) : Int).toNat (wrap64 ((rd y162 (rd x9 x12)) + 1))) (x7.set (x12 : Int).toNat true) x8 x9 (wrap64 (x11 + (rd x8 x12))) x12 x62 x63 (x0.length : Int) 0) else (none)) else (none)) else (none))) else (none)) else (none)) else (none)) else (none))
def tour_span.l3 : Nat → List (S31) → List Int → List Int → List Bool → List Int → List Int → Int → Int → Int → Int → Int → Int → Option (Int × List Int)
  | 0, _, _, _, _, _, _, _, _, _, _, _, _ => none
  | k + 1, x0, x1, x6, x7, x8, x9, x11, x12, x62, x63, x117, x118 => if x118 < x117 then (if 0 ≤ x12 then (if x12 < (x0.length : Int) then (if 0 ≤ x118 then (if x118 < (x0.length : Int) then ((tour_Distance.f ((rd_T31 x0 x12).f0) ((rd_T31 x0 x12).f1) ((rd_T31 x0 x118).f0) ((rd_T31 x0 x118).f1)).bind fun t168 => (if x12 < (x1.length : Int) then (if x118 < (x1.length : Int) then (if x118 < (x7.length : Int) then (if rdOf false x7 x118 = true then (tour_span.l3 k x0 x1 x6 x7 x8 x9 x11 x12 x62 x63 x117 (wrap64 (x118 + 1))) else (if x118 < (x8.length : Int) then (if (wrap64 ((wrap64 (t168 + (rd x1 x12))) + (rd x1 x118))) < (rd x8 x118) then (if x118 < (x9.length : Int) then (tour_span.l3 k x0 x1 x6 x7 (x8.set (x118 : Int).toNat (wrap64 ((wrap64 (t168 + (rd x1 x12))) + (rd x1 x118)))) (x9.set (x118 : Int).toNat x12) x11 x12 x62 x63 x117 (wrap64 (x118 + 1))) else (none)) else (tour_span.l3 k x0 x1 x6 x7 x8 x9 x11 x12 x62 x63 x117 (wrap64 (x118 + 1)))) else (none))) else (none)) else (none)) else (none))) else (none)) else (none)) else (none)) else (none)) else (tour_span.l1 k x0 x1 x6 x7 x8 x9 x11 x62 (wrap64 (x63 + 1)))
end
def tour_span.f (k : Nat) (l0 : List (S31)) (l1 : List Int) : Option (Int × List Int) := if 0 ≤ (l0.length : Int) then (if ((l0.length : Int) : Int).toNat ≤ 35184372088832 then ((some (List.replicate ((l0.length : Int) : Int).toNat 0 : List Int)).bind fun y137 => (if (l0.length : Int) = 0 then (some (0, y137)) else (if ((l0.length : Int) : Int).toNat ≤ 281474976710656 then ((some (List.replicate ((l0.length : Int) : Int).toNat false : List Bool)).bind fun y140 => (if 0 < (y140.length : Int) then (tour_span.l0 k l0 l1 y137 (y140.set (0 : Int).toNat true) (List.replicate ((l0.length : Int) : Int).toNat 0) (List.replicate ((l0.length : Int) : Int).toNat 0) (l0.length : Int) 0) else (none))) else (none)))) else (none)) else (none)
theorem tour_span.mono_l : ∀ k, (∀ y0 y1 y2 y3 y4 y5 y6 y7, LeO (tour_span.l0 k y0 y1 y2 y3 y4 y5 y6 y7) (tour_span.l0 (k + 1) y0 y1 y2 y3 y4 y5 y6 y7)) ∧ (∀ y0 y1 y2 y3 y4 y5 y6 y7 y8, LeO (tour_span.l1 k y0 y1 y2 y3 y4 y5 y6 y7 y8) (tour_span.l1 (k + 1) y0 y1 y2 y3 y4 y5 y6 y7 y8)) ∧ (∀ y0 y1 y2 y3 y4 y5 y6 y7 y8 y9 y10 y11, LeO (tour_span.l2 k y0 y1 y2 y3 y4 y5 y6 y7 y8 y9 y10 y11) (tour_span.l2 (k + 1) y0 y1 y2 y3 y4 y5 y6 y7 y8 y9 y10 y11)) ∧ (∀ y0 y1 y2 y3 y4 y5 y6 y7 y8 y9 y10 y11, LeO (tour_span.l3 k y0 y1 y2 y3 y4 y5 y6 y7 y8 y9 y10 y11) (tour_span.l3 (k + 1) y0 y1 y2 y3 y4 y5 y6 y7 y8 y9 y10 y11))
  | 0 => ⟨fun _ _ _ _ _ _ _ _ r h => by simp [tour_span.l0] at h, fun _ _ _ _ _ _ _ _ _ r h => by simp [tour_span.l1] at h, fun _ _ _ _ _ _ _ _ _ _ _ _ r h => by simp [tour_span.l2] at h, fun _ _ _ _ _ _ _ _ _ _ _ _ r h => by simp [tour_span.l3] at h⟩
  | k + 1 => by
    obtain ⟨ih0, ih1, ih2, ih3⟩ := tour_span.mono_l k
    refine ⟨?_, ?_, ?_, ?_⟩
    · intro y0 y1 y2 y3 y4 y5 y6 y7
      unfold tour_span.l0
      repeat' first
      | (with_reducible exact ih0 _ _ _ _ _ _ _ _)
      | (with_reducible exact ih1 _ _ _ _ _ _ _ _ _)
      | (with_reducible exact ih2 _ _ _ _ _ _ _ _ _ _ _ _)
      | (with_reducible exact ih3 _ _ _ _ _ _ _ _ _ _ _ _)
      | (with_reducible exact LeO.refl _)
      | (with_reducible exact LeO.none _)
      | (with_reducible refine LeO.ite ?_ ?_)
      | (with_reducible refine LeO.bind ?_ (fun _ => ?_))
      | exact ih0 _ _ _ _ _ _ _ _
      | exact ih1 _ _ _ _ _ _ _ _ _
      | exact ih2 _ _ _ _ _ _ _ _ _ _ _ _
      | exact ih3 _ _ _ _ _ _ _ _ _ _ _ _
      | exact LeO.none _
      | refine LeO.ite ?_ ?_
      | refine LeO.bind ?_ (fun _ => ?_)
    · intro y0 y1 y2 y3 y4 y5 y6 y7 y8
      unfold tour_span.l1
      repeat' first
      | (with_reducible exact ih0 _ _ _ _ _ _ _ _)
      | (with_reducible exact ih1 _ _ _ _ _ _ _ _ _)
      | (with_reducible exact ih2 _ _ _ _ _ _ _ _ _ _ _ _)
      | (with_reducible exact ih3 _ _ _ _ _ _ _ _ _ _ _ _)
      | (with_reducible exact LeO.refl _)
      | (with_reducible exact LeO.none _)
      | (with_reducible refine LeO.ite ?_ ?_)
      | (with_reducible refine LeO.bind ?_ (fun _ => ?_))
      | exact ih0 _ _ _ _ _ _ _ _
      | exact ih1 _ _ _ _ _ _ _ _ _
      | exact ih2 _ _ _ _ _ _ _ _ _ _ _ _
      | exact ih3 _ _ _ _ _ _ _ _ _ _ _ _
      | exact LeO.none _
      | refine LeO.ite ?_ ?_
      | refine LeO.bind ?_ (fun _ => ?_)
    · intro y0 y1 y2 y3 y4 y5 y6 y7 y8 y9 y10 y11
      unfold tour_span.l2
      repeat' first
      | (with_reducible exact ih0 _ _ _ _ _ _ _ _)
      | (with_reducible exact ih1 _ _ _ _ _ _ _ _ _)
      | (with_reducible exact ih2 _ _ _ _ _ _ _ _ _ _ _ _)
      | (with_reducible exact ih3 _ _ _ _ _ _ _ _ _ _ _ _)
      | (with_reducible exact LeO.refl _)
      | (with_reducible exact LeO.none _)
      | (with_reducible refine LeO.ite ?_ ?_)
      | (with_reducible refine LeO.bind ?_ (fun _ => ?_))
      | exact ih0 _ _ _ _ _ _ _ _
      | exact ih1 _ _ _ _ _ _ _ _ _
      | exact ih2 _ _ _ _ _ _ _ _ _ _ _ _
      | exact ih3 _ _ _ _ _ _ _ _ _ _ _ _
      | exact LeO.none _
      | refine LeO.ite ?_ ?_
      | refine LeO.bind ?_ (fun _ => ?_)
    · intro y0 y1 y2 y3 y4 y5 y6 y7 y8 y9 y10 y11
      unfold tour_span.l3
      repeat' first
      | (with_reducible exact ih0 _ _ _ _ _ _ _ _)
      | (with_reducible exact ih1 _ _ _ _ _ _ _ _ _)
      | (with_reducible exact ih2 _ _ _ _ _ _ _ _ _ _ _ _)
      | (with_reducible exact ih3 _ _ _ _ _ _ _ _ _ _ _ _)
      | (with_reducible exact LeO.refl _)
      | (with_reducible exact LeO.none _)
      | (with_reducible refine LeO.ite ?_ ?_)
      | (with_reducible refine LeO.bind ?_ (fun _ => ?_))
      | exact ih0 _ _ _ _ _ _ _ _
      | exact ih1 _ _ _ _ _ _ _ _ _
      | exact ih2 _ _ _ _ _ _ _ _ _ _ _ _
      | exact ih3 _ _ _ _ _ _ _ _ _ _ _ _
      | exact LeO.none _
      | refine LeO.ite ?_ ?_
      | refine LeO.bind ?_ (fun _ => ?_)
theorem tour_span.mono : ∀ a0 a1 k, LeO (tour_span.f k a0 a1) (tour_span.f (k + 1) a0 a1) := by
  intro a0 a1 k
  obtain ⟨ih0, ih1, ih2, ih3⟩ := tour_span.mono_l k
  unfold tour_span.f
  repeat' first
      | (with_reducible exact ih0 _ _ _ _ _ _ _ _)
      | (with_reducible exact ih1 _ _ _ _ _ _ _ _ _)
      | (with_reducible exact ih2 _ _ _ _ _ _ _ _ _ _ _ _)
      | (with_reducible exact ih3 _ _ _ _ _ _ _ _ _ _ _ _)
      | (with_reducible exact LeO.refl _)
      | (with_reducible exact LeO.none _)
      | (with_reducible refine LeO.ite ?_ ?_)
      | (with_reducible refine LeO.bind ?_ (fun _ => ?_))
      | exact ih0 _ _ _ _ _ _ _ _
      | exact ih1 _ _ _ _ _ _ _ _ _
      | exact ih2 _ _ _ _ _ _ _ _ _ _ _ _
      | exact ih3 _ _ _ _ _ _ _ _ _ _ _ _
      | exact LeO.none _
      | refine LeO.ite ?_ ?_
      | refine LeO.bind ?_ (fun _ => ?_)
def tour_span.T11 : Bool × List (List Nat × List Nat) := (true, [([], []), ([], []), ([], []), ([2], [2]), ([3], [3]), ([], []), ([], []), ([5, 6], [5, 6]), ([7], [7]), ([4, 8], [4, 8]), ([], []), ([10], [10]), ([11], [11]), ([9, 12], [9, 12]), ([], []), ([], []), ([14, 15], [14, 15]), ([16], [16]), ([13, 17], [13, 17]), ([0, 1, 0, 1, 2, 3, 4, 5, 6, 7, 8, 9, 10, 11, 12, 13, 14, 15, 16, 17, 18], [0, 1]), ([19, 18, 9, 0, 1, 2, 3, 4, 5, 6, 7, 8, 9, 10, 11, 12, 13, 14, 15, 16, 17, 18], [18, 19])])
def tour_span.B11 : List Nat := [0, 0, 0, 4, 12, 0, 0, 96, 224, 508, 0, 1024, 3072, 8188, 0, 0, 49152, 114688, 262140, 524287, 1048575]
theorem tour_span.tab11 : rtab .any (opsOf Try.f36 11) = tour_span.T11 := by kernel_rfl
theorem tour_span.bits11 : waitsOk tour_span.T11.2 tour_span.B11 = true := by kernel_rfl
def tour_span.T20 : Bool × List (List Nat × List Nat) := (true, [([], []), ([], []), ([0, 1], [0, 1]), ([2], [2]), ([3], [3]), ([4], [4]), ([5], [5]), ([6, 5], [5, 6]), ([7, 5, 5], [5, 7]), ([8], [8]), ([8], [8]), ([9, 10, 8], [8, 9, 10]), ([11, 8], [8, 11]), ([8], [8]), ([8], [8]), ([13, 14, 8], [8, 13, 14]), ([15, 8], [8, 15]), ([12, 16, 8], [8, 12, 16]), ([8, 17, 5], [5, 8, 17]), ([5, 18], [5, 18])])
def tour_span.B20 : List Nat := [0, 0, 3, 7, 15, 31, 63, 127, 255, 511, 511, 2047, 4095, 511, 511, 25087, 57855, 131071, 262143, 524287]
theorem tour_span.tab20 : rtab .any (opsOf Try.f36 20) = tour_span.T20 := by kernel_rfl
theorem tour_span.bits20 : waitsOk tour_span.T20.2 tour_span.B20 = true := by kernel_rfl
def tour_span.T30 : Bool × List (List Nat × List Nat) := (true, [([], []), ([], []), ([0, 1], [0, 1]), ([2], [2]), ([], []), ([], []), ([4, 5], [4, 5]), ([6], [6]), ([3, 7], [3, 7]), ([], []), ([], []), ([9, 10], [9, 10]), ([11], [11]), ([8, 12], [8, 12]), ([], []), ([], []), ([14, 15], [14, 15]), ([16], [16]), ([13, 17], [13, 17]), ([18, 8, 0, 1, 2, 3, 4, 5, 6, 7, 8, 9, 10, 11, 12, 13, 14, 15, 16, 17, 18], [18])])
def tour_span.B30 : List Nat := [0, 0, 3, 7, 0, 0, 48, 112, 255, 0, 0, 1536, 3584, 8191, 0, 0, 49152, 114688, 262143, 524287]
theorem tour_span.tab30 : rtab .any (opsOf Try.f36 30) = tour_span.T30 := by kernel_rfl
theorem tour_span.bits30 : waitsOk tour_span.T30.2 tour_span.B30 = true := by kernel_rfl
set_option maxHeartbeats 8000000 in
set_option maxRecDepth 100000 in
theorem tour_span.calls (k : Nat) (A0 : Option Addr) (c0 : Nat) (l0 : List (S31)) (A1 : Option Addr) (c1 : Nat) (l1 : List Int) (r1 : Int) (r2 : List Int) (w : World) (hr0 : Kd.C k31 w A0 l0.length l0) (hc0 : l0.length ≤ c0) (hr1 : Kd.C (Kd.int .i64) w A1 l1.length l1) (hc1 : l1.length ≤ c1) (h : tour_span.f k l0 l1 = some (r1, r2)) :
  Calls Try.prog 36 #[.slice A0 l0.length c0, .slice A1 l1.length c1] w fun e w' => ∃ v1_ : Value, e = .returned (.tuple #[.int .i64 r1, v1_]) ∧ Kd.R (Kd.int .i64) 3 w' w.heap.size (fun _ => True) v1_ r2 ∧ Below w.heap.size w w' := by
 have hu31 := Try.underlying31
 have HR0 := Aside0.mk hr0
 have HC0 := Aside0.mk hc0
 clear hr0 hc0
 have HR1 := Aside0.mk hr1
 have HC1 := Aside0.mk hc1
 clear hr1 hc1
 have HB := Aside0.mk (Below.refl w.heap.size w)
 have H : (if 0 ≤ (l0.length : Int) then (if ((l0.length : Int) : Int).toNat ≤ 35184372088832 then ((some (List.replicate ((l0.length : Int) : Int).toNat 0 : List Int)).bind fun y137 => (if (l0.length : Int) = 0 then (some (0, y137)) else (if ((l0.length : Int) : Int).toNat ≤ 281474976710656 then ((some (List.replicate ((l0.length : Int) : Int).toNat false : List Bool)).bind fun y140 => (if 0 < (y140.length : Int) then (tour_span.l0 k l0 l1 y137 (y140.set (0 : Int).toNat true) (List.replicate ((l0.length : Int) : Int).toNat 0) (List.replicate ((l0.length : Int) : Int).toNat 0) (l0.length : Int) 0) else (none))) else (none)))) else (none)) else (none)) = some (r1, r2) := h
 clear h
 by_cases c3 : 0 ≤ (l0.length : Int)
 ·rw [if_pos c3] at H
  have c3b0 := eq_true c3
  have c3b1 : decide (0 ≤ (l0.length : Int)) = true := decide_eq_true c3
  clear c3
  by_cases c4 : ((l0.length : Int) : Int).toNat ≤ 35184372088832
  ·rw [if_pos c4] at H
   have c4b0 := eq_true c4
   have c4b1 : decide (((l0.length : Int) : Int).toNat ≤ 35184372088832) = true := decide_eq_true c4
   clear c4
   obtain ⟨y137, hy137⟩ : ∃ y_ : List Int, y_ = (List.replicate ((l0.length : Int) : Int).toNat 0) := ⟨_, rfl⟩
   replace H : (if (l0.length : Int) = 0 then (some (0, y137)) else (if ((l0.length : Int) : Int).toNat ≤ 281474976710656 then ((some (List.replicate ((l0.length : Int) : Int).toNat false : List Bool)).bind fun y140 => (if 0 < (y140.length : Int) then (tour_span.l0 k l0 l1 y137 (y140.set (0 : Int).toNat true) (List.replicate ((l0.length : Int) : Int).toNat 0) (List.replicate ((l0.length : Int) : Int).toNat 0) (l0.length : Int) 0) else (none))) else (none))) = some (r1, r2) := by first | (rw [hy137]; with_reducible exact H) | (have H2_ := (Option.bind_some _ _).symm.trans H; rw [hy137]; with_reducible exact H2_) | (have H2_ := (Option.bind_some _ _).symm.trans H; with_reducible exact H2_) | with_reducible exact H | (rw [hy137]; exact H) | exact H
   have Ny137 := Aside0.mk hy137; clear hy137
   by_cases c5 : (l0.length : Int) = 0
   ·rw [if_pos c5] at H
    have c5b0 : ((l0.length : Int) == 0) = true := beq_iff_eq.mpr c5
    have c5b1 : ((l0.length : Int) != 0) = false := bne_eq_false_iff_eq.mpr c5
    clear c5
    simp only [Option.some.injEq, Prod.mk.injEq] at H
    obtain ⟨rfl, rfl⟩ := H
    go_enter Try.func36, Try.ntmps36
    go_wp2_with (first | ((with_reducible refine gate_dst (N := 18) rfl ?_); refine Kd.R_make (Kd.int .i64) _ 3 rfl (N := 18) rfl 23 _ _ rfl (l0.length : Int) rfl rfl Try.underlying23 (.int .i64 0) 8 info3 rfl (by decide) (by omega) 0 (ok := fun _ => True) (okp := fun _ => True) rfl (fun _ hk => hk) trivial (of_decide_eq_true (by first | (with_reducible assumption) | assumption)) (Nat.le_trans (Nat.mul_le_mul_right _ (of_decide_eq_true (by first | (with_reducible assumption) | assumption) : (l0.length : Int).toNat ≤ 35184372088832)) (by omega)) (Below.refl _ _) (Nat.le_refl _) ?_; intro v138 w6 ho7 hb hg_ hnew_; clear hg_ hnew_; (first | rw [← Ny137.out] at ho7 | (simp only [Int.reduceToNat] at ho7; rw [← Ny137.out] at ho7)); have n0_ := Aside0.mk (Kd.R_lower ho7 (below_size (by repeat (first | (with_reducible first | exact HB.out | apply below_alloc | apply pw_below_drewN | apply below_drew1) | exact HB.out)))); have n1_ := Aside0.mk (below_step (by repeat (first | (with_reducible first | exact HB.out | apply below_alloc | apply pw_below_drewN | apply below_drew1) | exact HB.out)) hb); clear HB; have HO139 := n0_; have HB := n1_; clear n0_ n1_; clear hb ho7))
    go_ret2
    exact ⟨_, by first | rfl | (simp [errW_none, errW_some] <;> rfl) | (simp [*, errW_none, errW_some] <;> rfl), by (with_reducible repeat (first | apply Kd.R_alloc | apply Kd.R_drewN | apply Kd.R_drew)); exact HO139.out, by repeat (first | (with_reducible first | exact HB.out | apply below_alloc | apply pw_below_drewN | apply below_drew1) | exact HB.out)⟩
   ·rw [if_neg c5] at H
    have c5b0 : ((l0.length : Int) == 0) = false := beq_eq_false_iff_ne.mpr c5
    have c5b1 : ((l0.length : Int) != 0) = true := bne_iff_ne.mpr c5
    have c5b2 : ¬ (l0 = []) := fun h_ => c5 (by rw [h_]; rfl)
    by_cases c8 : ((l0.length : Int) : Int).toNat ≤ 281474976710656
    ·rw [if_pos c8] at H
     have c8b0 := eq_true c8
     have c8b1 : decide (((l0.length : Int) : Int).toNat ≤ 281474976710656) = true := decide_eq_true c8
     clear c8
     obtain ⟨y140, hy140⟩ : ∃ y_ : List Bool, y_ = (List.replicate ((l0.length : Int) : Int).toNat false) := ⟨_, rfl⟩
     replace H : (if 0 < (y140.length : Int) then (tour_span.l0 k l0 l1 y137 (y140.set (0 : Int).toNat true) (List.replicate ((l0.length : Int) : Int).toNat 0) (List.replicate ((l0.length : Int) : Int).toNat 0) (l0.length : Int) 0) else (none)) = some (r1, r2) := by first | (rw [hy140]; with_reducible exact H) | (have H2_ := (Option.bind_some _ _).symm.trans H; rw [hy140]; with_reducible exact H2_) | (have H2_ := (Option.bind_some _ _).symm.trans H; with_reducible exact H2_) | with_reducible exact H | (rw [hy140]; exact H) | exact H
     have Ny140 := Aside0.mk hy140; clear hy140
     obtain ⟨y143, hy143⟩ : ∃ y_ : List Int, y_ = (List.replicate ((l0.length : Int) : Int).toNat 0) := ⟨_, rfl⟩
     replace H : (if 0 < (y140.length : Int) then (tour_span.l0 k l0 l1 y137 (y140.set (0 : Int).toNat true) y143 (List.replicate ((l0.length : Int) : Int).toNat 0) (l0.length : Int) 0) else (none)) = some (r1, r2) := by first | (rw [hy143]; with_reducible exact H) | (have H2_ := (Option.bind_some _ _).symm.trans H; rw [hy143]; with_reducible exact H2_) | (have H2_ := (Option.bind_some _ _).symm.trans H; with_reducible exact H2_) | with_reducible exact H | (rw [hy143]; exact H) | exact H
     have Ny143 := Aside0.mk hy143; clear hy143
     obtain ⟨y146, hy146⟩ : ∃ y_ : List Int, y_ = (List.replicate ((l0.length : Int) : Int).toNat 0) := ⟨_, rfl⟩
     replace H : (if 0 < (y140.length : Int) then (tour_span.l0 k l0 l1 y137 (y140.set (0 : Int).toNat true) y143 y146 (l0.length : Int) 0) else (none)) = some (r1, r2) := by first | (rw [hy146]; with_reducible exact H) | (have H2_ := (Option.bind_some _ _).symm.trans H; rw [hy146]; with_reducible exact H2_) | (have H2_ := (Option.bind_some _ _).symm.trans H; with_reducible exact H2_) | with_reducible exact H | (rw [hy146]; exact H) | exact H
     have Ny146 := Aside0.mk hy146; clear hy146
     by_cases c9 : 0 < (y140.length : Int)
     ·rw [if_pos c9] at H
      have c9b0 : decide (0 < (y140.length : Int)) = true := decide_eq_true c9
      have c9b1 : decide (0 < y140.length) = true := decide_eq_true (by omega)
      clear c9
      obtain ⟨y149, hy149⟩ : ∃ y_ : List Bool, y_ = (y140.set (0 : Int).toNat true) := ⟨_, rfl⟩
      replace H : (tour_span.l0 k l0 l1 y137 y149 y143 y146 (l0.length : Int) 0) = some (r1, r2) := by first | (rw [hy149]; with_reducible exact H) | (have H2_ := (Option.bind_some _ _).symm.trans H; rw [hy149]; with_reducible exact H2_) | (have H2_ := (Option.bind_some _ _).symm.trans H; with_reducible exact H2_) | with_reducible exact H | (rw [hy149]; exact H) | exact H
      have Ny149 := Aside0.mk hy149; clear hy149; have H' := Aside0.mk H; clear H
      go_enter Try.func36, Try.ntmps36
      go_wp2_with (first | ((with_reducible refine gate_dst (N := 18) rfl ?_); refine Kd.R_make (Kd.int .i64) _ 3 rfl (N := 18) rfl 23 _ _ rfl (l0.length : Int) rfl rfl Try.underlying23 (.int .i64 0) 8 info3 rfl (by decide) (by omega) 0 (ok := fun _ => True) (okp := fun _ => True) rfl (fun _ hk => hk) trivial (of_decide_eq_true (by first | (with_reducible assumption) | assumption)) (Nat.le_trans (Nat.mul_le_mul_right _ (of_decide_eq_true (by first | (with_reducible assumption) | assumption) : (l0.length : Int).toNat ≤ 35184372088832)) (by omega)) (Below.refl _ _) (Nat.le_refl _) ?_; intro v138 w11 ho12 hb hg_ hnew_; clear hg_ hnew_; (first | rw [← Ny137.out] at ho12 | (simp only [Int.reduceToNat] at ho12; rw [← Ny137.out] at ho12)); have n0_ := Aside0.mk (Kd.R_lower ho12 (below_size (by repeat (first | (with_reducible first | exact HB.out | apply below_alloc | apply pw_below_drewN | apply below_drew1) | exact HB.out)))); have n1_ := Aside0.mk (below_step (by repeat (first | (with_reducible first | exact HB.out | apply below_alloc | apply pw_below_drewN | apply below_drew1) | exact HB.out)) hb); clear HB; have HO139 := n0_; have HB := n1_; clear n0_ n1_; clear hb ho12) | ((with_reducible refine gate_dst (N := 25) rfl ?_); refine Kd.R_make Kd.bool _ 4 rfl (N := 25) rfl 49 _ _ rfl (l0.length : Int) rfl rfl Try.underlying49 (.bool false) 1 info4 rfl (by decide) (by omega) false (ok := fun _ => True) (okp := fun _ => True) rfl (fun _ hk => hk) trivial (of_decide_eq_true (by first | (with_reducible assumption) | assumption)) (Nat.le_trans (Nat.mul_le_mul_right _ (of_decide_eq_true (by first | (with_reducible assumption) | assumption) : (l0.length : Int).toNat ≤ 281474976710656)) (by omega)) (Below.refl _ _) (Nat.le_refl _) ?_; intro v141 w13 ho14 hb hg_ hnew_; clear hg_ hnew_; (first | rw [← Ny140.out] at ho14 | (simp only [Int.reduceToNat] at ho14; rw [← Ny140.out] at ho14)); have n0_ := Aside0.mk (Kd.R_below (by (with_reducible repeat (first | apply Kd.R_alloc | apply Kd.R_drewN | apply Kd.R_drew)); exact HO139.out) hb); have n1_ := Aside0.mk (Kd.R_lower ho14 (below_size (by repeat (first | (with_reducible first | exact HB.out | apply below_alloc | apply pw_below_drewN | apply below_drew1) | exact HB.out)))); have n2_ := Aside0.mk (below_step (by repeat (first | (with_reducible first | exact HB.out | apply below_alloc | apply pw_below_drewN | apply below_drew1) | exact HB.out)) hb); clear HO139; clear HB; have HO139 := n0_; have HO142 := n1_; have HB := n2_; clear n0_ n1_ n2_; clear hb ho14) | ((with_reducible refine gate_dst (N := 28) rfl ?_); refine Kd.R_make (Kd.int .i64) _ 2 rfl (N := 28) rfl 39 _ _ rfl (l0.length : Int) rfl rfl Try.underlying39 (.int .i64 0) 8 info2 rfl (by decide) (by omega) 0 (ok := fun _ => True) (okp := fun _ => True) rfl (fun _ hk => hk) trivial (of_decide_eq_true (by first | (with_reducible assumption) | assumption)) (Nat.le_trans (Nat.mul_le_mul_right _ (of_decide_eq_true (by first | (with_reducible assumption) | assumption) : (l0.length : Int).toNat ≤ 35184372088832)) (by omega)) (Below.refl _ _) (Nat.le_refl _) ?_; intro v144 w15 ho16 hb hg_ hnew_; clear hg_ hnew_; (first | rw [← Ny143.out] at ho16 | (simp only [Int.reduceToNat] at ho16; rw [← Ny143.out] at ho16)); have n0_ := Aside0.mk (Kd.R_below (by (with_reducible repeat (first | apply Kd.R_alloc | apply Kd.R_drewN | apply Kd.R_drew)); exact HO139.out) hb); have n1_ := Aside0.mk (Kd.R_below (by (with_reducible repeat (first | apply Kd.R_alloc | apply Kd.R_drewN | apply Kd.R_drew)); exact HO142.out) hb); have n2_ := Aside0.mk (Kd.R_lower ho16 (below_size (by repeat (first | (with_reducible first | exact HB.out | apply below_alloc | apply pw_below_drewN | apply below_drew1) | exact HB.out)))); have n3_ := Aside0.mk (below_step (by repeat (first | (with_reducible first | exact HB.out | apply below_alloc | apply pw_below_drewN | apply below_drew1) | exact HB.out)) hb); clear HO139; clear HO142; clear HB; have HO139 := n0_; have HO142 := n1_; have HO145 := n2_; have HB := n3_; clear n0_ n1_ n2_ n3_; clear hb ho16) | ((with_reducible refine gate_dst (N := 31) rfl ?_); refine Kd.R_make (Kd.int .i64) _ 3 rfl (N := 31) rfl 23 _ _ rfl (l0.length : Int) rfl rfl Try.underlying23 (.int .i64 0) 8 info3 rfl (by decide) (by omega) 0 (ok := fun _ => True) (okp := fun _ => True) rfl (fun _ hk => hk) trivial (of_decide_eq_true (by first | (with_reducible assumption) | assumption)) (Nat.le_trans (Nat.mul_le_mul_right _ (of_decide_eq_true (by first | (with_reducible assumption) | assumption) : (l0.length : Int).toNat ≤ 35184372088832)) (by omega)) (Below.refl _ _) (Nat.le_refl _) ?_; intro v147 w17 ho18 hb hg_ hnew_; clear hg_ hnew_; (first | rw [← Ny146.out] at ho18 | (simp only [Int.reduceToNat] at ho18; rw [← Ny146.out] at ho18)); have n0_ := Aside0.mk (Kd.R_elder' (by (with_reducible repeat (first | apply Kd.R_alloc | apply Kd.R_drewN | apply Kd.R_drew)); exact HO139.out) (Kd.R_base ho18) hb); have n1_ := Aside0.mk (Kd.R_below (by (with_reducible repeat (first | apply Kd.R_alloc | apply Kd.R_drewN | apply Kd.R_drew)); exact HO142.out) hb); have n2_ := Aside0.mk (Kd.R_below (by (with_reducible repeat (first | apply Kd.R_alloc | apply Kd.R_drewN | apply Kd.R_drew)); exact HO145.out) hb); have n3_ := Aside0.mk (Kd.R_lower (Kd.R_new' ho18 (Kd.R_lt (by (with_reducible repeat (first | apply Kd.R_alloc | apply Kd.R_drewN | apply Kd.R_drew)); exact HO139.out))) (below_size (by repeat (first | (with_reducible first | exact HB.out | apply below_alloc | apply pw_below_drewN | apply below_drew1) | exact HB.out)))); have n4_ := Aside0.mk (below_step (by repeat (first | (with_reducible first | exact HB.out | apply below_alloc | apply pw_below_drewN | apply below_drew1) | exact HB.out)) hb); clear HO139; clear HO142; clear HO145; clear HB; have HO139 := n0_; have HO142 := n1_; have HO145 := n2_; have HO148 := n3_; have HB := n4_; clear n0_ n1_ n2_ n3_ n4_; clear hb ho18; have p10 : 0 ≤ (0 : Int) := (by omega); have q10 : (0 : Int) < ((y140.length : Int) : Int) := of_decide_eq_true (by first | (with_reducible assumption) | assumption); have qi10 : (0 < y140.length) = True := eq_true (by omega); obtain ⟨go10, co10, eo10, gb10, gl10, cl10, HG10⟩ := Kd.R_form HO142.out (by omega); (first | cases eo10 | (injection eo10 with ea_ en_ ec_; (first | subst ea_ | (injection ea_ with ea_; subst ea_)); subst ec_; clear en_)); have GB10 := Aside0.mk gb10; have GG10 := Aside0.mk HG10; clear gb10 gl10 HG10; obtain ⟨hx10_0, hf10_0⟩ := Kd.R_celln false HO142.out (0 : Int) p10 q10; (try rw [show ((0 : Int)).toNat = 0 from rfl] at hx10_0); (try simp only [Nat.reduceMul, Nat.zero_mul, Nat.zero_add, Nat.reduceAdd] at hx10_0); (try rw [show ((0 : Int)).toNat = 0 from rfl] at hf10_0); (try simp only [Nat.reduceMul, Nat.zero_mul, Nat.zero_add, Nat.reduceAdd] at hf10_0); replace p10 := eq_true p10; replace q10 := eq_true q10; obtain ⟨hy19_, hz19_⟩ := Kd.R_celln false HO142.out (0 : Int) (by omega) (of_decide_eq_true (by first | (with_reducible assumption) | assumption)); (try simp only [Int.reduceToNat, Int.toNat_zero, Int.toNat_ofNat, Nat.reduceMul, Nat.zero_mul, Nat.zero_add] at hy19_ hz19_); (try rw [show ((0 : Int)).toNat = 0 from rfl] at hy19_); (try rw [show ((0 : Int)).toNat = 0 from rfl] at hz19_); have HP19 := Kd.R_putg HO142.out (0 : Int) true) | ((with_reducible refine gate_store (t := 4) (p := 33) rfl ?_); refine store_event (t := 4) (p := 33) (v := ?vo_w20) (w1 := (w17.setCell ⟨go10, (0 : Int).toNat, none⟩ (.bool true))) ?hg ?ho ?hn ?hr ?_; (case ho => rfl); (case hg => rfl); (case hn => rfl); (case hr => first | (go_simp; done) | (go_simp; rfl)); intro w20 hw; have hg : w17.grownBy w20 (some go10) := (by rw [hw]; exact HP19.2); have hp_ : Kd.R Kd.bool 4 w20 w.heap.size (fun _ => True) (.slice (some ⟨go10, 0, none⟩) y140.length co10) y149 := (by rw [hw, Ny149.out]; exact HP19.1); clear HP19; have n0_ := Aside0.mk (Kd.R_over' (v := (.slice (some ⟨go10, 0, none⟩) y140.length co10)) (by (with_reducible repeat (first | apply Kd.R_alloc | apply Kd.R_drewN | apply Kd.R_drew)); exact HO139.out) (Kd.R_typed HO142.out) (by decide) hg); have n1_ := Aside0.mk (hp_); have n2_ := Aside0.mk (Kd.R_over' (v := (.slice (some ⟨go10, 0, none⟩) y140.length co10)) (by (with_reducible repeat (first | apply Kd.R_alloc | apply Kd.R_drewN | apply Kd.R_drew)); exact HO145.out) (Kd.R_typed HO142.out) (by decide) hg); have n3_ := Aside0.mk (Kd.R_over' (v := (.slice (some ⟨go10, 0, none⟩) y140.length co10)) (by (with_reducible repeat (first | apply Kd.R_alloc | apply Kd.R_drewN | apply Kd.R_drew)); exact HO148.out) (Kd.R_typed HO142.out) (by decide) hg); have n4_ := Aside0.mk ((by rw [hw]; exact below_set (HB.out) GB10.out : Below w.heap.size w w20)); clear HO139; clear HO142; clear HO145; clear HO148; clear HB; have HO139 := n0_; have HO142 := n1_; have HO145 := n2_; have HO148 := n3_; have HB := n4_; clear n0_ n1_ n2_ n3_ n4_; clear hg hw hp_))
      go_loopg [36] k (fun kq v36 w' => ∃ (x8_1 : List Int) (x36_1 : Int), v36 = .int .i64 x36_1 ∧ Aside0 (tour_span.l0 kq l0 l1 y137 y149 x8_1 y146 (l0.length : Int) x36_1 = some (r1, r2)) ∧ Aside0 (kq ≤ k) ∧ Aside0 (Kd.R (Kd.int .i64) 3 w' w.heap.size (fun k_ => some k_ ≠ (v147 : Value).ownBlock) v138 y137) ∧ Aside0 (Kd.R Kd.bool 4 w' w.heap.size (fun _ => True) (.slice (some ⟨go10, 0, none⟩) y140.length co10) y149) ∧ Aside0 (Kd.R (Kd.int .i64) 2 w' w.heap.size (fun _ => True) v144 x8_1) ∧ Aside0 (Kd.R (Kd.int .i64) 3 w' w.heap.size (fun k_ => some k_ ≠ (v138 : Value).ownBlock) v147 y146) ∧ Aside0 (Below w.heap.size w w'))
      case atStart => exact ⟨(y143), (0), (by first | rfl | (simp; done) | (simp [*]; done)), H', ⟨Nat.le_refl _⟩, ⟨by (with_reducible repeat (first | apply Kd.R_alloc | apply Kd.R_drewN | apply Kd.R_drew)); exact Kd.R_mono HO139.out (fun _ hk => hk.2)⟩, ⟨by (with_reducible repeat (first | apply Kd.R_alloc | apply Kd.R_drewN | apply Kd.R_drew)); exact HO142.out⟩, ⟨by (with_reducible repeat (first | apply Kd.R_alloc | apply Kd.R_drewN | apply Kd.R_drew)); exact HO145.out⟩, ⟨by (with_reducible repeat (first | apply Kd.R_alloc | apply Kd.R_drewN | apply Kd.R_drew)); exact Kd.R_mono HO148.out (fun _ hk => hk.2)⟩, ⟨by repeat (first | (with_reducible first | exact HB.out | apply below_alloc | apply pw_below_drewN | apply below_drew1) | exact HB.out)⟩⟩
      case round =>
       clear H'; try clear c1; try clear p1; try clear q1; try clear hx1; try clear qi1; try clear p2; try clear c3; try clear c3b0; try clear c3b1; try clear c4; try clear c4b0; try clear c4b1; try clear c5; try clear c5b0; try clear c5b1; try clear c5b2; try clear c8; try clear c8b0; try clear c8b1; try clear c9; try clear c9b0; try clear c9b1; try clear p10; try clear q10; try clear hx10; try clear qi10
       try clear hf10; try clear hx10_0; try clear p10; try clear q10
       obtain ⟨x8_1, x36_1, rfl, HA, HK1, HO_6, HO_7, HO_8, HO_9, HB⟩ := hrel
       have hl7_1 := (Kd.R_reads' HO_7.out).1
       rw [hl7_1] at HO_7
       (try simp only [hl7_1])
       (try simp only [hl7_1] at HO_6)
       (try simp only [hl7_1] at HO_8)
       (try simp only [hl7_1] at HO_9)
       cases gk with
       | zero => exact absurd HA.out (by simp [tour_span.l0])
       | succ k1 =>
        have H := HA.out
        clear HA
        simp only [tour_span.l0] at H
        by_cases c21 : x36_1 < (l0.length : Int)
        ·rw [if_pos c21] at H
         have c21b0 : decide (x36_1 < (l0.length : Int)) = true := decide_eq_true c21
         clear c21
         by_cases c22 : 0 < (l0.length : Int)
         ·rw [if_pos c22] at H
          have c22b0 : decide (0 < (l0.length : Int)) = true := decide_eq_true c22
          have c22b1 : decide (0 < l0.length) = true := decide_eq_true (by omega)
          clear c22
          by_cases c23 : 0 ≤ x36_1
          ·rw [if_pos c23] at H
           have c23b0 : decide (0 ≤ x36_1) = true := decide_eq_true c23
           clear c23
           by_cases c24 : x36_1 < (l0.length : Int)
           ·rw [if_pos c24] at H
            have c24b0 : decide (x36_1 < (l0.length : Int)) = true := decide_eq_true c24
            clear c24; replace H := Option.bind_eq_some_iff.mp H
            obtain ⟨t152, A250, H⟩ := H
            replace H : (if 0 < (l1.length : Int) then (if x36_1 < (l1.length : Int) then (if x36_1 < (x8_1.length : Int) then (tour_span.l0 k1 l0 l1 y137 y149 (x8_1.set (x36_1 : Int).toNat (wrap64 ((wrap64 (t152 + (rd l1 0))) + (rd l1 x36_1)))) y146 (l0.length : Int) (wrap64 (x36_1 + 1))) else (none)) else (none)) else (none)) = some (r1, r2) := H
            have A25 := Aside0.mk A250; clear A250
            by_cases c26 : 0 < (l1.length : Int)
            ·rw [if_pos c26] at H
             have c26b0 : decide (0 < (l1.length : Int)) = true := decide_eq_true c26
             have c26b1 : decide (0 < l1.length) = true := decide_eq_true (by omega)
             clear c26
             by_cases c27 : x36_1 < (l1.length : Int)
             ·rw [if_pos c27] at H
              have c27b0 : decide (x36_1 < (l1.length : Int)) = true := decide_eq_true c27
              clear c27
              by_cases c28 : x36_1 < (x8_1.length : Int)
              ·rw [if_pos c28] at H
               have c28b0 : decide (x36_1 < (x8_1.length : Int)) = true := decide_eq_true c28
               clear c28
               obtain ⟨y155, hy155⟩ : ∃ y_ : List Int, y_ = (x8_1.set (x36_1 : Int).toNat (wrap64 ((wrap64 (t152 + (rd l1 0))) + (rd l1 x36_1)))) := ⟨_, rfl⟩
               replace H : (tour_span.l0 k1 l0 l1 y137 y149 y155 y146 (l0.length : Int) (wrap64 (x36_1 + 1))) = some (r1, r2) := by first | (rw [hy155]; with_reducible exact H) | (have H2_ := (Option.bind_some _ _).symm.trans H; rw [hy155]; with_reducible exact H2_) | (have H2_ := (Option.bind_some _ _).symm.trans H; with_reducible exact H2_) | with_reducible exact H | (rw [hy155]; exact H) | exact H
               have Ny155 := Aside0.mk hy155; clear hy155; have H' := Aside0.mk H; clear H
               try go_wp2
               have n0_ := Aside0.mk (Kd.R_drew HO_6.out)
               have n1_ := Aside0.mk (Kd.R_drew HO_7.out)
               have n2_ := Aside0.mk (Kd.R_drew HO_8.out)
               have n3_ := Aside0.mk (Kd.R_drew HO_9.out)
               have n4_ := Aside0.mk (below_drew1 HB.out)
               clear HO_6; clear HO_7; clear HO_8; clear HO_9; clear HB; have HO_6 := n0_; have HO_7 := n1_; have HO_8 := n2_; have HO_9 := n3_; have HB := n4_; clear n0_ n1_ n2_ n3_ n4_
               have p150 : 0 ≤ (0 : Int) := (by omega)
               have q150 : 0 < (l0.length : Int) := of_decide_eq_true (by first | (with_reducible assumption) | assumption)
               obtain ⟨ad150, e150, hx150_0, hx150_1⟩ := at_T31 HR0.out 0 p150 q150
               have hw150_1 := hx150_1
               (try rw [show ((0 : Int)).toNat = 0 from rfl] at hw150_1)
               (try rw [show 0 * 2 = 0 from rfl] at hw150_1)
               (try rw [Addr.add_zero'] at hw150_1)
               have hw150_0 := hx150_0
               (try rw [show ((0 : Int)).toNat = 0 from rfl] at hw150_0)
               (try rw [show 0 * 2 = 0 from rfl] at hw150_0)
               (try rw [Addr.add_zero'] at hw150_0)
               cases e150
               have qi150 : (0 < l0.length) = True := eq_true (by omega)
               (try rw [show ((0 : Int)).toNat = 0 from rfl] at hx150_0)
               (try rw [show 0 * 2 = 0 from rfl] at hx150_0)
               (try rw [Addr.add_zero'] at hx150_0)
               (try rw [show ((0 : Int)).toNat = 0 from rfl] at hx150_1)
               (try rw [show 0 * 2 = 0 from rfl] at hx150_1)
               (try rw [Addr.add_zero'] at hx150_1)
               replace hx150_0 := (HB.out.cell (World.block_lt_of_cell? w _ hx150_0)).trans hx150_0
               replace hx150_1 := (HB.out.cell (World.block_lt_of_cell? w _ hx150_1)).trans hx150_1
               replace p150 := eq_true p150; replace q150 := eq_true q150
               have p151 : 0 ≤ (x36_1 : Int) := of_decide_eq_true (by first | (with_reducible assumption) | assumption)
               have q151 : x36_1 < (l0.length : Int) := of_decide_eq_true (by first | (with_reducible assumption) | assumption)
               obtain ⟨ad151, e151, hx151_0, hx151_1⟩ := at_T31 HR0.out x36_1 p151 q151
               have hw151_1 := hx151_1; have hw151_0 := hx151_0
               obtain rfl : ad150 = ad151 := (by injection e151)
               replace hx151_0 := (HB.out.cell (World.block_lt_of_cell? w _ hx151_0)).trans hx151_0
               replace hx151_1 := (HB.out.cell (World.block_lt_of_cell? w _ hx151_1)).trans hx151_1
               replace p151 := eq_true p151; replace q151 := eq_true q151
               have p153 : 0 ≤ (0 : Int) := (by omega)
               have q153 : 0 < (l1.length : Int) := of_decide_eq_true (by first | (with_reducible assumption) | assumption)
               obtain ⟨ad153, e153, hx153_0⟩ := Kd.at_int HR1.out 0 p153 q153
               have hw153_0 := hx153_0
               (try rw [show ((0 : Int)).toNat = 0 from rfl] at hw153_0)
               (try rw [show 0 * 1 = 0 from rfl] at hw153_0)
               (try rw [Addr.add_zero'] at hw153_0)
               cases e153
               have qi153 : (0 < l1.length) = True := eq_true (by omega)
               (try rw [show ((0 : Int)).toNat = 0 from rfl] at hx153_0)
               (try rw [Addr.add_zero'] at hx153_0)
               replace hx153_0 := (HB.out.cell (World.block_lt_of_cell? w _ hx153_0)).trans hx153_0
               replace p153 := eq_true p153; replace q153 := eq_true q153
               have p154 : 0 ≤ (x36_1 : Int) := of_decide_eq_true (by first | (with_reducible assumption) | assumption)
               have q154 : x36_1 < (l1.length : Int) := of_decide_eq_true (by first | (with_reducible assumption) | assumption)
               obtain ⟨ad154, e154, hx154_0⟩ := Kd.at_int HR1.out x36_1 p154 q154
               have hw154_0 := hx154_0
               obtain rfl : ad153 = ad154 := (by injection e154)
               replace hx154_0 := (HB.out.cell (World.block_lt_of_cell? w _ hx154_0)).trans hx154_0
               replace p154 := eq_true p154; replace q154 := eq_true q154
               refine start_ (n := 21) (S := fun w' => w'.cell? ad150 = some (.int .i64 ((rd_T31 l0 0).f0)) ∧ w'.cell? ⟨ad150.block, ad150.off + 1, none⟩ = some (.int .i64 ((rd_T31 l0 0).f1)) ∧ w'.cell? (ad150.add ((x36_1).toNat * 2)) = some (.int .i64 ((rd_T31 l0 x36_1).f0)) ∧ w'.cell? ⟨(ad150.add ((x36_1).toNat * 2)).block, (ad150.add ((x36_1).toNat * 2)).off + 1, none⟩ = some (.int .i64 ((rd_T31 l0 x36_1).f1)) ∧ w'.cell? ad153 = some (.int .i64 (rd l1 0)) ∧ w'.cell? (ad153.add (x36_1).toNat) = some (.int .i64 (rd l1 x36_1))) (ds := [20]) #[false, false, false, false, false, false, false, false, false, false, false, false, false, false, false, false, false, false, false, false, false] (by kernel_rfl) rfl rfl ⟨((HB.out.cell (World.block_lt_of_cell? w _ hw150_0)).trans hw150_0), ((HB.out.cell (World.block_lt_of_cell? w _ hw150_1)).trans hw150_1), ((HB.out.cell (World.block_lt_of_cell? w _ hw151_0)).trans hw151_0), ((HB.out.cell (World.block_lt_of_cell? w _ hw151_1)).trans hw151_1), ((HB.out.cell (World.block_lt_of_cell? w _ hw153_0)).trans hw153_0), ((HB.out.cell (World.block_lt_of_cell? w _ hw154_0)).trans hw154_0)⟩ (fun hHeld => ?_); refine with_tabW tour_span.tab11 tour_span.bits11 (fun HT_ HW_ => ?_)
               generalize wr.drew = w30 at HO_6 HO_7 HO_8 HO_9 HB hx150_0 hx150_1 hx151_0 hx151_1 hx153_0 hx154_0 hHeld ⊢
               refine pure_ (i := 0) (N := some 39) (v := ?_) (a' := ?_) #[true, false, false, false, false, false, false, false, false, false, false, false, false, false, false, false, false, false, false, false, false] rfl rfl (any_of HT_.out (by kernel_rfl)) (fun _ _ _ h => h) (Or.inl ⟨by rfl, ?_⟩) ?_ ?_
               rotate_left; ·intro w'; go_simp; with_reducible rfl
               rotate_left; ·simp only [Act.put, sA_, sZ_, sS_, i64_w, i32_w]; rfl
               refine pure_ (i := 1) (N := some 40) (v := ?_) (a' := ?_) #[true, true, false, false, false, false, false, false, false, false, false, false, false, false, false, false, false, false, false, false, false] rfl rfl (any_of HT_.out (by kernel_rfl)) (fun _ _ _ h => h) (Or.inl ⟨by rfl, ?_⟩) ?_ ?_
               rotate_left; ·intro w'; go_simp; with_reducible rfl
               rotate_left; ·simp only [Act.put, sA_, sZ_, sS_, i64_w, i32_w]; rfl
               refine pure_ (i := 2) (N := some 41) (v := ?_) (a' := ?_) #[true, true, true, false, false, false, false, false, false, false, false, false, false, false, false, false, false, false, false, false, false] rfl rfl (any_of HT_.out (by kernel_rfl)) (fun _ _ _ h => h) (Or.inl ⟨by rfl, ?_⟩) ?_ ?_
               rotate_left; ·intro w'; go_simp; with_reducible rfl
               rotate_left; ·simp only [Act.put, sA_, sZ_, sS_, i64_w, i32_w]; rfl
               refine pure_ (i := 3) (N := some 42) (v := ?_) (a' := ?_) #[true, true, true, true, false, false, false, false, false, false, false, false, false, false, false, false, false, false, false, false, false] rfl rfl (any_of HT_.out (by kernel_rfl)) (fun _ _ _ h => h) (Or.inl ⟨by rfl, ?_⟩) ?_ ?_
               rotate_left; ·intro w'; go_simp; with_reducible rfl
               rotate_left; ·simp only [Act.put, sA_, sZ_, sS_, i64_w, i32_w]; rfl
               refine pure_ (i := 5) (N := some 44) (v := ?_) (a' := ?_) #[true, true, true, true, false, true, false, false, false, false, false, false, false, false, false, false, false, false, false, false, false] rfl rfl (any_of HT_.out (by kernel_rfl)) (fun _ _ _ h => h) (Or.inl ⟨by rfl, ?_⟩) ?_ ?_
               rotate_left; ·intro w'; go_simp; with_reducible rfl
               rotate_left; ·simp only [Act.put, sA_, sZ_, sS_, i64_w, i32_w]; rfl
               refine pure_ (i := 6) (N := some 45) (v := ?_) (a' := ?_) #[true, true, true, true, false, true, true, false, false, false, false, false, false, false, false, false, false, false, false, false, false] rfl rfl (any_of HT_.out (by kernel_rfl)) (fun _ _ _ h => h) (Or.inl ⟨by rfl, ?_⟩) ?_ ?_
               rotate_left; ·intro w'; go_simp; with_reducible rfl
               rotate_left; ·simp only [Act.put, sA_, sZ_, sS_, i64_w, i32_w]; rfl
               refine pure_ (i := 7) (N := some 46) (v := ?_) (a' := ?_) #[true, true, true, true, false, true, true, true, false, false, false, false, false, false, false, false, false, false, false, false, false] rfl rfl (any_of HT_.out (by kernel_rfl)) (fun _ _ _ h => h) (Or.inl ⟨by rfl, ?_⟩) ?_ ?_
               rotate_left; ·intro w'; go_simp; with_reducible rfl
               rotate_left; ·simp only [Act.put, sA_, sZ_, sS_, i64_w, i32_w]; rfl
               refine pure_ (i := 10) (N := some 49) (v := ?_) (a' := ?_) #[true, true, true, true, false, true, true, true, false, false, true, false, false, false, false, false, false, false, false, false, false] rfl rfl (any_of HT_.out (by kernel_rfl)) (fun _ _ _ h => h) (Or.inl ⟨by rfl, ?_⟩) ?_ ?_
               rotate_left; ·intro w'; go_simp; with_reducible rfl
               rotate_left; ·simp only [Act.put, sA_, sZ_, sS_, i64_w, i32_w]; rfl
               refine pure_ (i := 11) (N := some 50) (v := ?_) (a' := ?_) #[true, true, true, true, false, true, true, true, false, false, true, true, false, false, false, false, false, false, false, false, false] rfl rfl (any_of HT_.out (by kernel_rfl)) (fun _ _ _ h => h) (Or.inl ⟨by rfl, ?_⟩) ?_ ?_
               rotate_left; ·intro w'; go_simp; with_reducible rfl
               rotate_left; ·simp only [Act.put, sA_, sZ_, sS_, i64_w, i32_w]; rfl
               refine pure_ (i := 14) (N := some 53) (v := ?_) (a' := ?_) #[true, true, true, true, false, true, true, true, false, false, true, true, false, false, true, false, false, false, false, false, false] rfl rfl (any_of HT_.out (by kernel_rfl)) (fun _ _ _ h => h) (Or.inl ⟨by rfl, ?_⟩) ?_ ?_
               rotate_left; ·intro w'; go_simp; with_reducible rfl
               rotate_left; ·simp only [Act.put, sA_, sZ_, sS_, i64_w, i32_w]; rfl
               refine pure_ (i := 15) (N := some 54) (v := ?_) (a' := ?_) #[true, true, true, true, false, true, true, true, false, false, true, true, false, false, true, true, false, false, false, false, false] rfl rfl (any_of HT_.out (by kernel_rfl)) (fun _ _ _ h => h) (Or.inl ⟨by rfl, ?_⟩) ?_ ?_
               rotate_left; ·intro w'; go_simp; with_reducible rfl
               rotate_left; ·simp only [Act.put, sA_, sZ_, sS_, i64_w, i32_w]; rfl
               refine pure_ (i := 16) (N := some 55) (v := ?_) (a' := ?_) #[true, true, true, true, false, true, true, true, false, false, true, true, false, false, true, true, true, false, false, false, false] rfl rfl (any_of HT_.out (by kernel_rfl)) (fun _ _ _ h => h) (Or.inl ⟨by rfl, ?_⟩) ?_ ?_
               rotate_left; ·intro w'; go_simp; with_reducible rfl
               rotate_left; ·simp only [Act.put, sA_, sZ_, sS_, i64_w, i32_w]; rfl
               refine take_ (i := 4) (N := some 43) (v := ?_) (a' := ?_) #[true, true, true, true, true, true, true, true, false, false, true, true, false, false, true, true, true, false, false, false, false] rfl rfl (take_ofW HT_.out HW_.out (by kernel_rfl)) (fun _ _ _ h => h) (Or.inl ⟨by rfl, ?_⟩) hHeld ?_ ?_
               rotate_left
               ·rintro w' ⟨s0, s1, s2, s3, s4, s5⟩; go_simp; with_reducible rfl
               rotate_left; ·simp only [Act.put, sA_, sZ_, sS_, i64_w, i32_w]; rfl
               refine take_ (i := 8) (N := some 47) (v := ?_) (a' := ?_) #[true, true, true, true, true, true, true, true, true, false, true, true, false, false, true, true, true, false, false, false, false] rfl rfl (take_ofW HT_.out HW_.out (by kernel_rfl)) (fun _ _ _ h => h) (Or.inl ⟨by rfl, ?_⟩) hHeld ?_ ?_
               rotate_left
               ·rintro w' ⟨s0, s1, s2, s3, s4, s5⟩; go_simp; with_reducible rfl
               rotate_left; ·simp only [Act.put, sA_, sZ_, sS_, i64_w, i32_w]; rfl
               refine take_ (i := 12) (N := some 51) (v := ?_) (a' := ?_) #[true, true, true, true, true, true, true, true, true, false, true, true, true, false, true, true, true, false, false, false, false] rfl rfl (take_ofW HT_.out HW_.out (by kernel_rfl)) (fun _ _ _ h => h) (Or.inl ⟨by rfl, ?_⟩) hHeld ?_ ?_
               rotate_left
               ·rintro w' ⟨s0, s1, s2, s3, s4, s5⟩; go_simp; with_reducible rfl
               rotate_left; ·simp only [Act.put, sA_, sZ_, sS_, i64_w, i32_w]; rfl
               refine take_ (i := 17) (N := some 56) (v := ?_) (a' := ?_) #[true, true, true, true, true, true, true, true, true, false, true, true, true, false, true, true, true, true, false, false, false] rfl rfl (take_ofW HT_.out HW_.out (by kernel_rfl)) (fun _ _ _ h => h) (Or.inl ⟨by rfl, ?_⟩) hHeld ?_ ?_
               rotate_left
               ·rintro w' ⟨s0, s1, s2, s3, s4, s5⟩; go_simp; with_reducible rfl
               rotate_left; ·simp only [Act.put, sA_, sZ_, sS_, i64_w, i32_w]; rfl
               refine one_ (i := 9) (N := some 48) #[true, true, true, true, true, true, true, true, true, true, true, true, true, false, true, true, true, true, false, false, false] rfl rfl (one_of HT_.out (by kernel_rfl)) (by decide) (fun K hK => ?_)
               refine goes_ Try.func15 (by kernel_rfl) rfl #[.agg #[.int .i64 ((rd_T31 l0 0).f0), .int .i64 ((rd_T31 l0 0).f1)], .agg #[.int .i64 ((rd_T31 l0 x36_1).f0), .int .i64 ((rd_T31 l0 x36_1).f1)]] (by rfl) rfl rfl (by (try simp only [List.map_toArray, List.map_cons, List.map_nil]); first | done | rfl | (simp only [List.length_drop, List.length_take]; rfl)) ?_
               with_reducible refine (tour_Distance.calls ((rd_T31 l0 0).f0) ((rd_T31 l0 0).f1) ((rd_T31 l0 x36_1).f0) ((rd_T31 l0 x36_1).f1) t152 _ A25.out).mono ?_
               rintro e w31 ⟨rfl, hb⟩
               refine ⟨_, rfl, ?_⟩
               have n0_ := Aside0.mk (Kd.R_below (by (with_reducible repeat (first | apply Kd.R_alloc | apply Kd.R_drewN | apply Kd.R_drew)); exact HO_6.out) hb)
               have n1_ := Aside0.mk (Kd.R_below (by (with_reducible repeat (first | apply Kd.R_alloc | apply Kd.R_drewN | apply Kd.R_drew)); exact HO_7.out) hb)
               have n2_ := Aside0.mk (Kd.R_below (by (with_reducible repeat (first | apply Kd.R_alloc | apply Kd.R_drewN | apply Kd.R_drew)); exact HO_8.out) hb)
               have n3_ := Aside0.mk (Kd.R_below (by (with_reducible repeat (first | apply Kd.R_alloc | apply Kd.R_drewN | apply Kd.R_drew)); exact HO_9.out) hb)
               have n4_ := Aside0.mk (below_step (by repeat (first | (with_reducible first | exact HB.out | apply below_alloc | apply pw_below_drewN | apply below_drew1) | exact HB.out)) hb)
               clear HO_6; clear HO_7; clear HO_8; clear HO_9; clear HB; have HO_6 := n0_; have HO_7 := n1_; have HO_8 := n2_; have HO_9 := n3_; have HB := n4_; clear n0_ n1_ n2_ n3_ n4_; (try clear hb); (try clear hb2); (try clear hk); (try clear hi)
               have p29 : 0 ≤ (x36_1 : Int) := of_decide_eq_true (by first | (with_reducible assumption) | assumption)
               have q29 : (x36_1 : Int) < ((x8_1.length : Int) : Int) := of_decide_eq_true (by first | (with_reducible assumption) | assumption)
               obtain ⟨go29, co29, eo29, gb29, gl29, cl29, HG29⟩ := Kd.R_form HO_8.out (by omega)
               (first | cases eo29 | (injection eo29 with ea_ en_ ec_; (first | subst ea_ | (injection ea_ with ea_; subst ea_)); subst ec_; clear en_))
               have GB29 := Aside0.mk gb29; have GG29 := Aside0.mk HG29; clear gb29 gl29 HG29
               obtain ⟨hx29_0, hf29_0⟩ := Kd.R_celln 0 HO_8.out (x36_1 : Int) p29 q29
               replace p29 := eq_true p29; replace q29 := eq_true q29
               have HP32 := Kd.R_putn HO_8.out (x36_1 : Int) (wrap64 ((wrap64 (t152 + (rd l1 0))) + (rd l1 x36_1)))
               rw [← Ny155.out] at HP32; have HQ32 := Aside0.mk HP32; clear HP32
               refine hK.out _ _ ⟨((HB.out.cell (World.block_lt_of_cell? w _ hw150_0)).trans hw150_0), ((HB.out.cell (World.block_lt_of_cell? w _ hw150_1)).trans hw150_1), ((HB.out.cell (World.block_lt_of_cell? w _ hw151_0)).trans hw151_0), ((HB.out.cell (World.block_lt_of_cell? w _ hw151_1)).trans hw151_1), ((HB.out.cell (World.block_lt_of_cell? w _ hw153_0)).trans hw153_0), ((HB.out.cell (World.block_lt_of_cell? w _ hw154_0)).trans hw154_0)⟩ (fun hHeld => ?_)
               clear hK K
               refine norm_ (a' := ?_) ?_ ?_
               rotate_left
               ·show Act.put _ (some 48) _ = _
                simp only [Act.put, sA_, sZ_, sS_, i64_w, i32_w]; rfl
               refine pure_ (i := 13) (N := some 52) (v := ?_) (a' := ?_) #[true, true, true, true, true, true, true, true, true, true, true, true, true, true, true, true, true, true, false, false, false] rfl rfl (any_of HT_.out (by kernel_rfl)) (fun _ _ _ h => h) (Or.inl ⟨by rfl, ?_⟩) ?_ ?_
               rotate_left; ·intro w'; go_simp; with_reducible rfl
               rotate_left; ·simp only [Act.put, sA_, sZ_, sS_, i64_w, i32_w]; rfl
               refine pure_ (i := 18) (N := some 57) (v := ?_) (a' := ?_) #[true, true, true, true, true, true, true, true, true, true, true, true, true, true, true, true, true, true, true, false, false] rfl rfl (any_of HT_.out (by kernel_rfl)) (fun _ _ _ h => h) (Or.inl ⟨by rfl, ?_⟩) ?_ ?_
               rotate_left; ·intro w'; go_simp; with_reducible rfl
               rotate_left; ·simp only [Act.put, sA_, sZ_, sS_, i64_w, i32_w]; rfl
               refine pure_ (i := 19) (N := some 58) (v := ?_) (a' := ?_) #[true, true, true, true, true, true, true, true, true, true, true, true, true, true, true, true, true, true, true, true, false] rfl rfl (any_of HT_.out (by kernel_rfl)) (fun _ _ _ h => h) (Or.inl ⟨by rfl, ?_⟩) ?_ ?_
               rotate_left; ·intro w'; go_simp; with_reducible rfl
               rotate_left; ·simp only [Act.put, sA_, sZ_, sS_, i64_w, i32_w]; rfl
               refine last_ (i := 20) (N := none) #[true, true, true, true, true, true, true, true, true, true, true, true, true, true, true, true, true, true, true, true, true] rfl rfl (one_of HT_.out (by kernel_rfl)) (by decide) (fun K hK => ?_)
               refine skip_ (w1 := ?_) (by rfl) rfl ?_ ?_
               rotate_left; ·go_simp; rfl
               refine hK.out _ _ ?_
               clear hK K
               refine done_ (done_of HT_.out (by kernel_rfl)) ?_
               try go_wp2
               (try simp only [← hl7_1])
               go_roundg k1
               case measure => have := HK1.out; omega
               case rel => exact ⟨(y155), (wrap64 (x36_1 + 1)), (by first | rfl | (simp; done) | (simp [*]; done)), H', ⟨by have := HK1.out; omega⟩, ⟨by (try simp only [hl7_1]); (with_reducible repeat (first | apply Kd.R_alloc | apply Kd.R_drewN | apply Kd.R_drew)); exact Kd.R_mono (Kd.R_far (p := ⟨go29, (x36_1 : Int).toNat, none⟩) (Kd.R_types HO_6.out GG29.out (by decide)) (fun _ hk => hk.2) (.int .i64 (wrap64 ((wrap64 (t152 + (rd l1 0))) + (rd l1 x36_1))))) (fun _ hk => hk.1)⟩, ⟨by (try simp only [hl7_1]); (with_reducible repeat (first | apply Kd.R_alloc | apply Kd.R_drewN | apply Kd.R_drew)); exact Kd.R_mono (Kd.R_far (p := ⟨go29, (x36_1 : Int).toNat, none⟩) (Kd.R_types HO_7.out GG29.out (by decide)) (fun _ hk => hk.2) (.int .i64 (wrap64 ((wrap64 (t152 + (rd l1 0))) + (rd l1 x36_1))))) (fun _ hk => trivial)⟩, ⟨by (try simp only [hl7_1]); (with_reducible repeat (first | apply Kd.R_alloc | apply Kd.R_drewN | apply Kd.R_drew)); exact HQ32.out⟩, ⟨by (try simp only [hl7_1]); (with_reducible repeat (first | apply Kd.R_alloc | apply Kd.R_drewN | apply Kd.R_drew)); exact Kd.R_mono (Kd.R_far (p := ⟨go29, (x36_1 : Int).toNat, none⟩) (Kd.R_types HO_9.out GG29.out (by decide)) (fun _ hk => hk.2) (.int .i64 (wrap64 ((wrap64 (t152 + (rd l1 0))) + (rd l1 x36_1))))) (fun _ hk => hk.1)⟩, ⟨by repeat (first | (with_reducible first | exact HB.out | apply below_alloc | apply pw_below_drewN | apply below_drew1 | refine below_set ?_ GB29.out) | exact HB.out)⟩⟩
              ·rw [if_neg c28] at H
               exact absurd H (by simp)
             ·rw [if_neg c27] at H
              exact absurd H (by simp)
            ·rw [if_neg c26] at H
             exact absurd H (by simp)
           ·rw [if_neg c24] at H
            exact absurd H (by simp)
          ·rw [if_neg c23] at H
           exact absurd H (by simp)
         ·rw [if_neg c22] at H
          exact absurd H (by simp)
        ·rw [if_neg c21] at H
         have c21b0 : decide (x36_1 < (l0.length : Int)) = false := decide_eq_false c21
         clear c21; have H' := Aside0.mk H; clear H; go_wp2
         go_loopg [11, 63] k1 (fun kq v11 v63 w' => ∃ (x6_2 : List Int) (x7_2 : List Bool) (x8_2 : List Int) (x9_2 : List Int) (x11_2 : Int) (x63_2 : Int), v11 = .int .i64 x11_2 ∧ v63 = .int .i64 x63_2 ∧ Aside0 (tour_span.l1 kq l0 l1 x6_2 x7_2 x8_2 x9_2 x11_2 (wrap64 ((l0.length : Int) - 1)) x63_2 = some (r1, r2)) ∧ Aside0 (kq ≤ k1) ∧ Aside0 (Kd.R (Kd.int .i64) 3 w' w.heap.size (fun k_ => some k_ ≠ (v147 : Value).ownBlock) v138 x6_2) ∧ Aside0 (Kd.R Kd.bool 4 w' w.heap.size (fun _ => True) (.slice (some ⟨go10, 0, none⟩) y149.length co10) x7_2) ∧ Aside0 (Kd.R (Kd.int .i64) 2 w' w.heap.size (fun _ => True) v144 x8_2) ∧ Aside0 (Kd.R (Kd.int .i64) 3 w' w.heap.size (fun k_ => some k_ ≠ (v138 : Value).ownBlock) v147 x9_2) ∧ Aside0 (Below w.heap.size w w'))
         case atStart => exact ⟨(y137), (y149), (x8_1), (y146), (0), (0), (by first | rfl | (simp; done) | (simp [*]; done)), (by first | rfl | (simp; done) | (simp [*]; done)), H', ⟨Nat.le_refl _⟩, ⟨by (try simp only [hl7_1]); (with_reducible repeat (first | apply Kd.R_alloc | apply Kd.R_drewN | apply Kd.R_drew)); exact HO_6.out⟩, ⟨by (try simp only [hl7_1]); (with_reducible repeat (first | apply Kd.R_alloc | apply Kd.R_drewN | apply Kd.R_drew)); exact HO_7.out⟩, ⟨by (try simp only [hl7_1]); (with_reducible repeat (first | apply Kd.R_alloc | apply Kd.R_drewN | apply Kd.R_drew)); exact HO_8.out⟩, ⟨by (try simp only [hl7_1]); (with_reducible repeat (first | apply Kd.R_alloc | apply Kd.R_drewN | apply Kd.R_drew)); exact HO_9.out⟩, ⟨by repeat (first | (with_reducible first | exact HB.out | apply below_alloc | apply pw_below_drewN | apply below_drew1) | exact HB.out)⟩⟩
         case round =>
          clear H'; try clear c1; try clear p1; try clear q1; try clear hx1; try clear qi1; try clear c2; try clear p2; try clear q2; try clear hx2; try clear hf2; try clear c3; try clear c3b0; try clear c3b1; try clear c4; try clear c4b0; try clear c4b1; try clear c5; try clear c5b0; try clear c5b1; try clear c5b2; try clear p6; try clear c8; try clear c8b0; try clear c8b1; try clear c9; try clear c9b0
          try clear c9b1; try clear p10; try clear q10; try clear hx10; try clear qi10; try clear hf10; try clear c15; try clear p15; try clear q15; try clear hx15; try clear qi15; try clear c21; try clear c21b0; try clear c22; try clear c22b0; try clear c22b1; try clear c23; try clear c23b0; try clear c24; try clear c24b0; try clear c26; try clear c26b0; try clear c26b1; try clear c27; try clear c27b0
          try clear c28; try clear c28b0; try clear p29; try clear q29; try clear hx29; try clear hf29; try clear hx10_0; try clear hx150_0; try clear hx150_1; try clear hx151_0; try clear hx151_1; try clear hx153_0; try clear hx154_0; try clear hx29_0; try clear p1; try clear p10; try clear p150; try clear p151; try clear p153; try clear p154; try clear p2; try clear p29; try clear q1; try clear q10
          try clear q150; try clear q151; try clear q153; try clear q154; try clear q29
          obtain ⟨x6_2, x7_2, x8_2, x9_2, x11_2, x63_2, rfl, rfl, HA, HK2, HO_6, HO_7, HO_8, HO_9, HB⟩ := hrel
          have hl7_2 := (Kd.R_reads' HO_7.out).1
          rw [hl7_2] at HO_7
          (try simp only [hl7_2])
          (try simp only [hl7_2] at HO_6)
          (try simp only [hl7_2] at HO_8)
          (try simp only [hl7_2] at HO_9)
          cases gk with
          | zero => exact absurd HA.out (by simp [tour_span.l1])
          | succ k2 =>
           have H := HA.out
           clear HA
           simp only [tour_span.l1] at H
           by_cases c33 : x63_2 < (wrap64 ((l0.length : Int) - 1))
           ·rw [if_pos c33] at H
            have c33b0 : decide (x63_2 < (wrap64 ((l0.length : Int) - 1))) = true := decide_eq_true c33
            clear c33; have H' := Aside0.mk H; clear H; go_wp2
            go_loopg [12, 67] k2 (fun kq v12 v67 w' => ∃ (x12_3 : Int) (x67_3 : Int), v12 = .int .i64 x12_3 ∧ v67 = .int .i64 x67_3 ∧ Aside0 (tour_span.l2 kq l0 l1 x6_2 x7_2 x8_2 x9_2 x11_2 x12_3 (wrap64 ((l0.length : Int) - 1)) x63_2 (l0.length : Int) x67_3 = some (r1, r2)) ∧ Aside0 (kq ≤ k2) ∧ Aside0 (Kd.R (Kd.int .i64) 3 w' w.heap.size (fun k_ => some k_ ≠ (v147 : Value).ownBlock) v138 x6_2) ∧ Aside0 (Kd.R Kd.bool 4 w' w.heap.size (fun _ => True) (.slice (some ⟨go10, 0, none⟩) x7_2.length co10) x7_2) ∧ Aside0 (Kd.R (Kd.int .i64) 2 w' w.heap.size (fun _ => True) v144 x8_2) ∧ Aside0 (Kd.R (Kd.int .i64) 3 w' w.heap.size (fun k_ => some k_ ≠ (v138 : Value).ownBlock) v147 x9_2) ∧ Aside0 (Below w.heap.size w w'))
            case atStart => exact ⟨((-1)), (0), (by first | rfl | (simp; done) | (simp [*]; done)), (by first | rfl | (simp; done) | (simp [*]; done)), H', ⟨Nat.le_refl _⟩, ⟨by (try simp only [hl7_1]); (try simp only [hl7_2]); (with_reducible repeat (first | apply Kd.R_alloc | apply Kd.R_drewN | apply Kd.R_drew)); exact HO_6.out⟩, ⟨by (try simp only [hl7_1]); (try simp only [hl7_2]); (with_reducible repeat (first | apply Kd.R_alloc | apply Kd.R_drewN | apply Kd.R_drew)); exact HO_7.out⟩, ⟨by (try simp only [hl7_1]); (try simp only [hl7_2]); (with_reducible repeat (first | apply Kd.R_alloc | apply Kd.R_drewN | apply Kd.R_drew)); exact HO_8.out⟩, ⟨by (try simp only [hl7_1]); (try simp only [hl7_2]); (with_reducible repeat (first | apply Kd.R_alloc | apply Kd.R_drewN | apply Kd.R_drew)); exact HO_9.out⟩, ⟨by repeat (first | (with_reducible first | exact HB.out | apply below_alloc | apply pw_below_drewN | apply below_drew1) | exact HB.out)⟩⟩
            case round =>
             clear H'; try clear c1; try clear p1; try clear q1; try clear hx1; try clear qi1; try clear c2; try clear p2; try clear q2; try clear hx2; try clear hf2; try clear c3; try clear c3b0; try clear c3b1; try clear c4; try clear c4b0; try clear c4b1; try clear c5; try clear c5b0; try clear c5b1; try clear c5b2; try clear p6; try clear c8; try clear c8b0; try clear c8b1; try clear c9; try clear c9b0
             try clear c9b1; try clear p10; try clear q10; try clear hx10; try clear qi10; try clear hf10; try clear c15; try clear p15; try clear q15; try clear hx15; try clear qi15; try clear c21; try clear c21b0; try clear c22; try clear c22b0; try clear c22b1; try clear c23; try clear c23b0; try clear c24; try clear c24b0; try clear c26; try clear c26b0; try clear c26b1; try clear c27; try clear c27b0
             try clear c28; try clear c28b0; try clear p29; try clear q29; try clear hx29; try clear hf29; try clear c33; try clear c33b0; try clear hx10_0; try clear hx150_0; try clear hx150_1; try clear hx151_0; try clear hx151_1; try clear hx153_0; try clear hx154_0; try clear hx29_0; try clear p1; try clear p10; try clear p15; try clear p150; try clear p151; try clear p153; try clear p154; try clear p2
             try clear p29; try clear p6; try clear q1; try clear q10; try clear q15; try clear q150; try clear q151; try clear q153; try clear q154; try clear q2; try clear q29
             obtain ⟨x12_3, x67_3, rfl, rfl, HA, HK3, HO_6, HO_7, HO_8, HO_9, HB⟩ := hrel
             cases gk with
             | zero => exact absurd HA.out (by simp [tour_span.l2])
             | succ k3 =>
              have H := HA.out
              clear HA
              simp only [tour_span.l2] at H
              by_cases c34 : x67_3 < (l0.length : Int)
              ·rw [if_pos c34] at H
               have c34b0 : decide (x67_3 < (l0.length : Int)) = true := decide_eq_true c34
               clear c34
               by_cases c35 : 0 ≤ x67_3
               ·rw [if_pos c35] at H
                have c35b0 : decide (0 ≤ x67_3) = true := decide_eq_true c35
                clear c35
                by_cases c36 : x67_3 < (x7_2.length : Int)
                ·rw [if_pos c36] at H
                 have c36b0 : decide (x67_3 < (x7_2.length : Int)) = true := decide_eq_true c36
                 clear c36
                 obtain ⟨bq37, hbq37⟩ : ∃ b_ : Bool, b_ = (rdOf false x7_2 x67_3) := ⟨_, rfl⟩
                 replace H : (if bq37 = true then (tour_span.l2 k3 l0 l1 x6_2 x7_2 x8_2 x9_2 x11_2 x12_3 (wrap64 ((l0.length : Int) - 1)) x63_2 (l0.length : Int) (wrap64 (x67_3 + 1))) else (if x12_3 < 0 then (tour_span.l2 k3 l0 l1 x6_2 x7_2 x8_2 x9_2 x11_2 x67_3 (wrap64 ((l0.length : Int) - 1)) x63_2 (l0.length : Int) (wrap64 (x67_3 + 1))) else (if x67_3 < (x8_2.length : Int) then (if 0 ≤ x12_3 then (if x12_3 < (x8_2.length : Int) then (if (rd x8_2 x67_3) < (rd x8_2 x12_3) then (tour_span.l2 k3 l0 l1 x6_2 x7_2 x8_2 x9_2 x11_2 x67_3 (wrap64 ((l0.length : Int) - 1)) x63_2 (l0.length : Int) (wrap64 (x67_3 + 1))) else (tour_span.l2 k3 l0 l1 x6_2 x7_2 x8_2 x9_2 x11_2 x12_3 (wrap64 ((l0.length : Int) - 1)) x63_2 (l0.length : Int) (wrap64 (x67_3 + 1)))) else (none)) else (none)) else (none)))) = some (r1, r2) := by rw [← hbq37] at H; exact H
                 have Nbq37 := Aside0.mk hbq37; clear hbq37
                 by_cases c38 : bq37 = true
                 ·subst c38
                  have H1 : (tour_span.l2 k3 l0 l1 x6_2 x7_2 x8_2 x9_2 x11_2 x12_3 (wrap64 ((l0.length : Int) - 1)) x63_2 (l0.length : Int) (wrap64 (x67_3 + 1))) = some (r1, r2) := by rw [if_pos rfl] at H; exact H
                  clear H; have H := H1; clear H1; have H' := Aside0.mk H; clear H
                  try go_wp2
                  have n0_ := Aside0.mk (Kd.R_drew HO_6.out)
                  have n1_ := Aside0.mk (Kd.R_drew HO_7.out)
                  have n2_ := Aside0.mk (Kd.R_drew HO_8.out)
                  have n3_ := Aside0.mk (Kd.R_drew HO_9.out)
                  have n4_ := Aside0.mk (below_drew1 HB.out)
                  clear HO_6; clear HO_7; clear HO_8; clear HO_9; clear HB; have HO_6 := n0_; have HO_7 := n1_; have HO_8 := n2_; have HO_9 := n3_; have HB := n4_; clear n0_ n1_ n2_ n3_ n4_
                  have p156 : 0 ≤ (x67_3 : Int) := of_decide_eq_true (by first | (with_reducible assumption) | assumption)
                  have q156 : x67_3 < (x7_2.length : Int) := of_decide_eq_true (by first | (with_reducible assumption) | assumption)
                  obtain ⟨ad156, e156, hx156_0⟩ := Kd.at_bool (Kd.R_reads' HO_7.out).2.2 x67_3 p156 q156
                  (try rw [← Nbq37.out] at hx156_0)
                  obtain rfl : (⟨go10, 0, none⟩ : Addr) = ad156 := (by injection e156)
                  (first | simp only [add_plain] at hx156_0 | simp only [add_at] at hx156_0 | simp only [Addr.add, Nat.zero_add] at hx156_0 | skip)
                  replace p156 := eq_true p156; replace q156 := eq_true q156
                  refine start_ (n := 20) (S := fun w' => w'.cell? ⟨go10, (x67_3).toNat, none⟩ = some (.bool true)) (ds := []) #[false, false, false, false, false, false, false, false, false, false, false, false, false, false, false, false, false, false, false, false] (by kernel_rfl) rfl rfl (hx156_0) (fun hHeld => ?_); refine with_tabW tour_span.tab20 tour_span.bits20 (fun HT_ HW_ => ?_)
                  generalize wr.drew = w39 at HO_6 HO_7 HO_8 HO_9 HB hx156_0 hHeld ⊢
                  refine pure_ (i := 0) (N := some 70) (v := ?_) (a' := ?_) #[true, false, false, false, false, false, false, false, false, false, false, false, false, false, false, false, false, false, false, false] rfl rfl (any_of HT_.out (by kernel_rfl)) (fun _ _ _ h => h) (Or.inl ⟨by rfl, ?_⟩) ?_ ?_
                  rotate_left; ·intro w'; go_simp; with_reducible rfl
                  rotate_left; ·simp only [Act.put, sA_, sZ_, sS_, i64_w, i32_w]; rfl
                  refine pure_ (i := 1) (N := some 71) (v := ?_) (a' := ?_) #[true, true, false, false, false, false, false, false, false, false, false, false, false, false, false, false, false, false, false, false] rfl rfl (any_of HT_.out (by kernel_rfl)) (fun _ _ _ h => h) (Or.inl ⟨by rfl, ?_⟩) ?_ ?_
                  rotate_left; ·intro w'; go_simp; with_reducible rfl
                  rotate_left; ·simp only [Act.put, sA_, sZ_, sS_, i64_w, i32_w]; rfl
                  refine pure_ (i := 2) (N := some 72) (v := ?_) (a' := ?_) #[true, true, true, false, false, false, false, false, false, false, false, false, false, false, false, false, false, false, false, false] rfl rfl (any_of HT_.out (by kernel_rfl)) (fun _ _ _ h => h) (Or.inl ⟨by rfl, ?_⟩) ?_ ?_
                  rotate_left; ·intro w'; go_simp; with_reducible rfl
                  rotate_left; ·simp only [Act.put, sA_, sZ_, sS_, i64_w, i32_w]; rfl
                  refine take_ (i := 3) (N := some 73) (v := ?_) (a' := ?_) #[true, true, true, true, false, false, false, false, false, false, false, false, false, false, false, false, false, false, false, false] rfl rfl (take_ofW HT_.out HW_.out (by kernel_rfl)) (fun _ _ _ h => h) (Or.inl ⟨by rfl, ?_⟩) hHeld ?_ ?_
                  rotate_left
                  ·intro w' s0; go_simp; with_reducible rfl
                  rotate_left; ·simp only [Act.put, sA_, sZ_, sS_, i64_w, i32_w]; rfl
                  refine pure_ (i := 4) (N := some 74) (v := ?_) (a' := ?_) #[true, true, true, true, true, false, false, false, false, false, false, false, false, false, false, false, false, false, false, false] rfl rfl (any_of HT_.out (by kernel_rfl)) (fun _ _ _ h => h) (Or.inl ⟨by rfl, ?_⟩) ?_ ?_
                  rotate_left; ·intro w'; go_simp; with_reducible rfl
                  rotate_left; ·simp only [Act.put, sA_, sZ_, sS_, i64_w, i32_w]; rfl
                  refine pure_ (i := 5) (N := some 75) (v := ?_) (a' := ?_) #[true, true, true, true, true, true, false, false, false, false, false, false, false, false, false, false, false, false, false, false] rfl rfl (any_of HT_.out (by kernel_rfl)) (fun _ _ _ h => h) (Or.inl ⟨by rfl, ?_⟩) ?_ ?_
                  rotate_left; ·intro w'; go_simp; with_reducible rfl
                  rotate_left; ·simp only [Act.put, sA_, sZ_, sS_, i64_w, i32_w]; rfl
                  refine pure_ (i := 6) (N := some 76) (v := undef) (a' := ?_) #[true, true, true, true, true, true, true, false, false, false, false, false, false, false, false, false, false, false, false, false] rfl rfl (any_of HT_.out (by kernel_rfl)) (fun _ _ _ h => h) (Or.inr ⟨by rfl, rfl⟩) ?_ ?_
                  rotate_left; ·simp only [Act.put, sA_, sZ_, sS_, i64_w, i32_w]; rfl
                  refine pure_ (i := 7) (N := some 77) (v := undef) (a' := ?_) #[true, true, true, true, true, true, true, true, false, false, false, false, false, false, false, false, false, false, false, false] rfl rfl (any_of HT_.out (by kernel_rfl)) (fun _ _ _ h => h) (Or.inr ⟨by rfl, rfl⟩) ?_ ?_
                  rotate_left; ·simp only [Act.put, sA_, sZ_, sS_, i64_w, i32_w]; rfl
                  refine pure_ (i := 8) (N := some 78) (v := undef) (a' := ?_) #[true, true, true, true, true, true, true, true, true, false, false, false, false, false, false, false, false, false, false, false] rfl rfl (any_of HT_.out (by kernel_rfl)) (fun _ _ _ h => h) (Or.inr ⟨by rfl, rfl⟩) ?_ ?_
                  rotate_left; ·simp only [Act.put, sA_, sZ_, sS_, i64_w, i32_w]; rfl
                  refine pure_ (i := 9) (N := some 79) (v := undef) (a' := ?_) #[true, true, true, true, true, true, true, true, true, true, false, false, false, false, false, false, false, false, false, false] rfl rfl (any_of HT_.out (by kernel_rfl)) (fun _ _ _ h => h) (Or.inr ⟨by rfl, rfl⟩) ?_ ?_
                  rotate_left; ·simp only [Act.put, sA_, sZ_, sS_, i64_w, i32_w]; rfl
                  refine pure_ (i := 10) (N := some 80) (v := undef) (a' := ?_) #[true, true, true, true, true, true, true, true, true, true, true, false, false, false, false, false, false, false, false, false] rfl rfl (any_of HT_.out (by kernel_rfl)) (fun _ _ _ h => h) (Or.inr ⟨by rfl, rfl⟩) ?_ ?_
                  rotate_left; ·simp only [Act.put, sA_, sZ_, sS_, i64_w, i32_w]; rfl
                  refine pure_ (i := 11) (N := some 81) (v := undef) (a' := ?_) #[true, true, true, true, true, true, true, true, true, true, true, true, false, false, false, false, false, false, false, false] rfl rfl (any_of HT_.out (by kernel_rfl)) (fun _ _ _ h => h) (Or.inr ⟨by rfl, rfl⟩) ?_ ?_
                  rotate_left; ·simp only [Act.put, sA_, sZ_, sS_, i64_w, i32_w]; rfl
                  refine pure_ (i := 12) (N := some 82) (v := undef) (a' := ?_) #[true, true, true, true, true, true, true, true, true, true, true, true, true, false, false, false, false, false, false, false] rfl rfl (any_of HT_.out (by kernel_rfl)) (fun _ _ _ h => h) (Or.inr ⟨by rfl, rfl⟩) ?_ ?_
                  rotate_left; ·simp only [Act.put, sA_, sZ_, sS_, i64_w, i32_w]; rfl
                  refine pure_ (i := 13) (N := some 83) (v := undef) (a' := ?_) #[true, true, true, true, true, true, true, true, true, true, true, true, true, true, false, false, false, false, false, false] rfl rfl (any_of HT_.out (by kernel_rfl)) (fun _ _ _ h => h) (Or.inr ⟨by rfl, rfl⟩) ?_ ?_
                  rotate_left; ·simp only [Act.put, sA_, sZ_, sS_, i64_w, i32_w]; rfl
                  refine pure_ (i := 14) (N := some 84) (v := undef) (a' := ?_) #[true, true, true, true, true, true, true, true, true, true, true, true, true, true, true, false, false, false, false, false] rfl rfl (any_of HT_.out (by kernel_rfl)) (fun _ _ _ h => h) (Or.inr ⟨by rfl, rfl⟩) ?_ ?_
                  rotate_left; ·simp only [Act.put, sA_, sZ_, sS_, i64_w, i32_w]; rfl
                  refine pure_ (i := 15) (N := some 85) (v := undef) (a' := ?_) #[true, true, true, true, true, true, true, true, true, true, true, true, true, true, true, true, false, false, false, false] rfl rfl (any_of HT_.out (by kernel_rfl)) (fun _ _ _ h => h) (Or.inr ⟨by rfl, rfl⟩) ?_ ?_
                  rotate_left; ·simp only [Act.put, sA_, sZ_, sS_, i64_w, i32_w]; rfl
                  refine pure_ (i := 16) (N := some 86) (v := undef) (a' := ?_) #[true, true, true, true, true, true, true, true, true, true, true, true, true, true, true, true, true, false, false, false] rfl rfl (any_of HT_.out (by kernel_rfl)) (fun _ _ _ h => h) (Or.inr ⟨by rfl, rfl⟩) ?_ ?_
                  rotate_left; ·simp only [Act.put, sA_, sZ_, sS_, i64_w, i32_w]; rfl
                  refine pure_ (i := 17) (N := some 87) (v := undef) (a' := ?_) #[true, true, true, true, true, true, true, true, true, true, true, true, true, true, true, true, true, true, false, false] rfl rfl (any_of HT_.out (by kernel_rfl)) (fun _ _ _ h => h) (Or.inr ⟨by rfl, rfl⟩) ?_ ?_
                  rotate_left; ·simp only [Act.put, sA_, sZ_, sS_, i64_w, i32_w]; rfl
                  refine pure_ (i := 18) (N := some 88) (v := undef) (a' := ?_) #[true, true, true, true, true, true, true, true, true, true, true, true, true, true, true, true, true, true, true, false] rfl rfl (any_of HT_.out (by kernel_rfl)) (fun _ _ _ h => h) (Or.inr ⟨by rfl, rfl⟩) ?_ ?_
                  rotate_left; ·simp only [Act.put, sA_, sZ_, sS_, i64_w, i32_w]; rfl
                  refine pure_ (i := 19) (N := some 89) (v := ?_) (a' := ?_) #[true, true, true, true, true, true, true, true, true, true, true, true, true, true, true, true, true, true, true, true] rfl rfl (any_of HT_.out (by kernel_rfl)) (fun _ _ _ h => h) (Or.inl ⟨by rfl, ?_⟩) ?_ ?_
                  rotate_left; ·intro w'; go_simp; with_reducible rfl
                  rotate_left; ·simp only [Act.put, sA_, sZ_, sS_, i64_w, i32_w]; rfl
                  refine done_ (done_of HT_.out (by kernel_rfl)) ?_
                  try go_wp2
                  go_roundg k3
                  case measure => have := HK1.out; have := HK2.out; have := HK3.out; omega
                  case rel => exact ⟨(x12_3), (wrap64 (x67_3 + 1)), (by first | rfl | (simp; done) | (simp [*]; done)), (by first | rfl | (simp; done) | (simp [*]; done)), H', ⟨by have := HK1.out; have := HK2.out; have := HK3.out; omega⟩, ⟨by (try simp only [hl7_1]); (try simp only [hl7_2]); (with_reducible repeat (first | apply Kd.R_alloc | apply Kd.R_drewN | apply Kd.R_drew)); exact HO_6.out⟩, ⟨by (try simp only [hl7_1]); (try simp only [hl7_2]); (with_reducible repeat (first | apply Kd.R_alloc | apply Kd.R_drewN | apply Kd.R_drew)); exact HO_7.out⟩, ⟨by (try simp only [hl7_1]); (try simp only [hl7_2]); (with_reducible repeat (first | apply Kd.R_alloc | apply Kd.R_drewN | apply Kd.R_drew)); exact HO_8.out⟩, ⟨by (try simp only [hl7_1]); (try simp only [hl7_2]); (with_reducible repeat (first | apply Kd.R_alloc | apply Kd.R_drewN | apply Kd.R_drew)); exact HO_9.out⟩, ⟨by repeat (first | (with_reducible first | exact HB.out | apply below_alloc | apply pw_below_drewN | apply below_drew1) | exact HB.out)⟩⟩
                 ·replace c38 := Bool.eq_false_iff.mpr c38
                  subst c38
                  have H1 : (if x12_3 < 0 then (tour_span.l2 k3 l0 l1 x6_2 x7_2 x8_2 x9_2 x11_2 x67_3 (wrap64 ((l0.length : Int) - 1)) x63_2 (l0.length : Int) (wrap64 (x67_3 + 1))) else (if x67_3 < (x8_2.length : Int) then (if 0 ≤ x12_3 then (if x12_3 < (x8_2.length : Int) then (if (rd x8_2 x67_3) < (rd x8_2 x12_3) then (tour_span.l2 k3 l0 l1 x6_2 x7_2 x8_2 x9_2 x11_2 x67_3 (wrap64 ((l0.length : Int) - 1)) x63_2 (l0.length : Int) (wrap64 (x67_3 + 1))) else (tour_span.l2 k3 l0 l1 x6_2 x7_2 x8_2 x9_2 x11_2 x12_3 (wrap64 ((l0.length : Int) - 1)) x63_2 (l0.length : Int) (wrap64 (x67_3 + 1)))) else (none)) else (none)) else (none))) = some (r1, r2) := by rw [if_neg (show ¬ (false = true) by decide)] at H; exact H
                  clear H; have H := H1; clear H1
                  by_cases c40 : x12_3 < 0
                  ·rw [if_pos c40] at H
                   have c40b0 : decide (x12_3 < 0) = true := decide_eq_true c40
                   clear c40; have H' := Aside0.mk H; clear H
                   try go_wp2
                   have n0_ := Aside0.mk (Kd.R_drew HO_6.out)
                   have n1_ := Aside0.mk (Kd.R_drew HO_7.out)
                   have n2_ := Aside0.mk (Kd.R_drew HO_8.out)
                   have n3_ := Aside0.mk (Kd.R_drew HO_9.out)
                   have n4_ := Aside0.mk (below_drew1 HB.out)
                   clear HO_6; clear HO_7; clear HO_8; clear HO_9; clear HB; have HO_6 := n0_; have HO_7 := n1_; have HO_8 := n2_; have HO_9 := n3_; have HB := n4_; clear n0_ n1_ n2_ n3_ n4_
                   have p156 : 0 ≤ (x67_3 : Int) := of_decide_eq_true (by first | (with_reducible assumption) | assumption)
                   have q156 : x67_3 < (x7_2.length : Int) := of_decide_eq_true (by first | (with_reducible assumption) | assumption)
                   obtain ⟨ad156, e156, hx156_0⟩ := Kd.at_bool (Kd.R_reads' HO_7.out).2.2 x67_3 p156 q156
                   (try rw [← Nbq37.out] at hx156_0)
                   obtain rfl : (⟨go10, 0, none⟩ : Addr) = ad156 := (by injection e156)
                   (first | simp only [add_plain] at hx156_0 | simp only [add_at] at hx156_0 | simp only [Addr.add, Nat.zero_add] at hx156_0 | skip)
                   replace p156 := eq_true p156; replace q156 := eq_true q156
                   refine start_ (n := 20) (S := fun w' => w'.cell? ⟨go10, (x67_3).toNat, none⟩ = some (.bool false)) (ds := []) #[false, false, false, false, false, false, false, false, false, false, false, false, false, false, false, false, false, false, false, false] (by kernel_rfl) rfl rfl (hx156_0) (fun hHeld => ?_); refine with_tabW tour_span.tab20 tour_span.bits20 (fun HT_ HW_ => ?_)
                   generalize wr.drew = w41 at HO_6 HO_7 HO_8 HO_9 HB hx156_0 hHeld ⊢
                   refine pure_ (i := 0) (N := some 70) (v := ?_) (a' := ?_) #[true, false, false, false, false, false, false, false, false, false, false, false, false, false, false, false, false, false, false, false] rfl rfl (any_of HT_.out (by kernel_rfl)) (fun _ _ _ h => h) (Or.inl ⟨by rfl, ?_⟩) ?_ ?_
                   rotate_left; ·intro w'; go_simp; with_reducible rfl
                   rotate_left; ·simp only [Act.put, sA_, sZ_, sS_, i64_w, i32_w]; rfl
                   refine pure_ (i := 1) (N := some 71) (v := ?_) (a' := ?_) #[true, true, false, false, false, false, false, false, false, false, false, false, false, false, false, false, false, false, false, false] rfl rfl (any_of HT_.out (by kernel_rfl)) (fun _ _ _ h => h) (Or.inl ⟨by rfl, ?_⟩) ?_ ?_
                   rotate_left; ·intro w'; go_simp; with_reducible rfl
                   rotate_left; ·simp only [Act.put, sA_, sZ_, sS_, i64_w, i32_w]; rfl
                   refine pure_ (i := 2) (N := some 72) (v := ?_) (a' := ?_) #[true, true, true, false, false, false, false, false, false, false, false, false, false, false, false, false, false, false, false, false] rfl rfl (any_of HT_.out (by kernel_rfl)) (fun _ _ _ h => h) (Or.inl ⟨by rfl, ?_⟩) ?_ ?_
                   rotate_left; ·intro w'; go_simp; with_reducible rfl
                   rotate_left; ·simp only [Act.put, sA_, sZ_, sS_, i64_w, i32_w]; rfl
                   refine take_ (i := 3) (N := some 73) (v := ?_) (a' := ?_) #[true, true, true, true, false, false, false, false, false, false, false, false, false, false, false, false, false, false, false, false] rfl rfl (take_ofW HT_.out HW_.out (by kernel_rfl)) (fun _ _ _ h => h) (Or.inl ⟨by rfl, ?_⟩) hHeld ?_ ?_
                   rotate_left
                   ·intro w' s0; go_simp; with_reducible rfl
                   rotate_left; ·simp only [Act.put, sA_, sZ_, sS_, i64_w, i32_w]; rfl
                   refine pure_ (i := 4) (N := some 74) (v := ?_) (a' := ?_) #[true, true, true, true, true, false, false, false, false, false, false, false, false, false, false, false, false, false, false, false] rfl rfl (any_of HT_.out (by kernel_rfl)) (fun _ _ _ h => h) (Or.inl ⟨by rfl, ?_⟩) ?_ ?_
                   rotate_left; ·intro w'; go_simp; with_reducible rfl
                   rotate_left; ·simp only [Act.put, sA_, sZ_, sS_, i64_w, i32_w]; rfl
                   refine pure_ (i := 5) (N := some 75) (v := ?_) (a' := ?_) #[true, true, true, true, true, true, false, false, false, false, false, false, false, false, false, false, false, false, false, false] rfl rfl (any_of HT_.out (by kernel_rfl)) (fun _ _ _ h => h) (Or.inl ⟨by rfl, ?_⟩) ?_ ?_
                   rotate_left; ·intro w'; go_simp; with_reducible rfl
                   rotate_left; ·simp only [Act.put, sA_, sZ_, sS_, i64_w, i32_w]; rfl
                   refine pure_ (i := 6) (N := some 76) (v := ?_) (a' := ?_) #[true, true, true, true, true, true, true, false, false, false, false, false, false, false, false, false, false, false, false, false] rfl rfl (any_of HT_.out (by kernel_rfl)) (fun _ _ _ h => h) (Or.inl ⟨by rfl, ?_⟩) ?_ ?_
                   rotate_left; ·intro w'; go_simp; with_reducible rfl
                   rotate_left; ·simp only [Act.put, sA_, sZ_, sS_, i64_w, i32_w]; rfl
                   refine pure_ (i := 7) (N := some 77) (v := ?_) (a' := ?_) #[true, true, true, true, true, true, true, true, false, false, false, false, false, false, false, false, false, false, false, false] rfl rfl (any_of HT_.out (by kernel_rfl)) (fun _ _ _ h => h) (Or.inl ⟨by rfl, ?_⟩) ?_ ?_
                   rotate_left; ·intro w'; go_simp; with_reducible rfl
                   rotate_left; ·simp only [Act.put, sA_, sZ_, sS_, i64_w, i32_w]; rfl
                   refine pure_ (i := 8) (N := some 78) (v := ?_) (a' := ?_) #[true, true, true, true, true, true, true, true, true, false, false, false, false, false, false, false, false, false, false, false] rfl rfl (any_of HT_.out (by kernel_rfl)) (fun _ _ _ h => h) (Or.inl ⟨by rfl, ?_⟩) ?_ ?_
                   rotate_left; ·intro w'; go_simp; with_reducible rfl
                   rotate_left; ·simp only [Act.put, sA_, sZ_, sS_, i64_w, i32_w]; rfl
                   refine pure_ (i := 9) (N := some 79) (v := undef) (a' := ?_) #[true, true, true, true, true, true, true, true, true, true, false, false, false, false, false, false, false, false, false, false] rfl rfl (any_of HT_.out (by kernel_rfl)) (fun _ _ _ h => h) (Or.inr ⟨by rfl, rfl⟩) ?_ ?_
                   rotate_left; ·simp only [Act.put, sA_, sZ_, sS_, i64_w, i32_w]; rfl
                   refine pure_ (i := 10) (N := some 80) (v := undef) (a' := ?_) #[true, true, true, true, true, true, true, true, true, true, true, false, false, false, false, false, false, false, false, false] rfl rfl (any_of HT_.out (by kernel_rfl)) (fun _ _ _ h => h) (Or.inr ⟨by rfl, rfl⟩) ?_ ?_
                   rotate_left; ·simp only [Act.put, sA_, sZ_, sS_, i64_w, i32_w]; rfl
                   refine pure_ (i := 11) (N := some 81) (v := undef) (a' := ?_) #[true, true, true, true, true, true, true, true, true, true, true, true, false, false, false, false, false, false, false, false] rfl rfl (any_of HT_.out (by kernel_rfl)) (fun _ _ _ h => h) (Or.inr ⟨by rfl, rfl⟩) ?_ ?_
                   rotate_left; ·simp only [Act.put, sA_, sZ_, sS_, i64_w, i32_w]; rfl
                   refine pure_ (i := 12) (N := some 82) (v := undef) (a' := ?_) #[true, true, true, true, true, true, true, true, true, true, true, true, true, false, false, false, false, false, false, false] rfl rfl (any_of HT_.out (by kernel_rfl)) (fun _ _ _ h => h) (Or.inr ⟨by rfl, rfl⟩) ?_ ?_
                   rotate_left; ·simp only [Act.put, sA_, sZ_, sS_, i64_w, i32_w]; rfl
                   refine pure_ (i := 13) (N := some 83) (v := undef) (a' := ?_) #[true, true, true, true, true, true, true, true, true, true, true, true, true, true, false, false, false, false, false, false] rfl rfl (any_of HT_.out (by kernel_rfl)) (fun _ _ _ h => h) (Or.inr ⟨by rfl, rfl⟩) ?_ ?_
                   rotate_left; ·simp only [Act.put, sA_, sZ_, sS_, i64_w, i32_w]; rfl
                   refine pure_ (i := 14) (N := some 84) (v := undef) (a' := ?_) #[true, true, true, true, true, true, true, true, true, true, true, true, true, true, true, false, false, false, false, false] rfl rfl (any_of HT_.out (by kernel_rfl)) (fun _ _ _ h => h) (Or.inr ⟨by rfl, rfl⟩) ?_ ?_
                   rotate_left; ·simp only [Act.put, sA_, sZ_, sS_, i64_w, i32_w]; rfl
                   refine pure_ (i := 15) (N := some 85) (v := undef) (a' := ?_) #[true, true, true, true, true, true, true, true, true, true, true, true, true, true, true, true, false, false, false, false] rfl rfl (any_of HT_.out (by kernel_rfl)) (fun _ _ _ h => h) (Or.inr ⟨by rfl, rfl⟩) ?_ ?_
                   rotate_left; ·simp only [Act.put, sA_, sZ_, sS_, i64_w, i32_w]; rfl
                   refine pure_ (i := 16) (N := some 86) (v := undef) (a' := ?_) #[true, true, true, true, true, true, true, true, true, true, true, true, true, true, true, true, true, false, false, false] rfl rfl (any_of HT_.out (by kernel_rfl)) (fun _ _ _ h => h) (Or.inr ⟨by rfl, rfl⟩) ?_ ?_
                   rotate_left; ·simp only [Act.put, sA_, sZ_, sS_, i64_w, i32_w]; rfl
                   refine pure_ (i := 17) (N := some 87) (v := undef) (a' := ?_) #[true, true, true, true, true, true, true, true, true, true, true, true, true, true, true, true, true, true, false, false] rfl rfl (any_of HT_.out (by kernel_rfl)) (fun _ _ _ h => h) (Or.inr ⟨by rfl, rfl⟩) ?_ ?_
                   rotate_left; ·simp only [Act.put, sA_, sZ_, sS_, i64_w, i32_w]; rfl
                   refine pure_ (i := 18) (N := some 88) (v := ?_) (a' := ?_) #[true, true, true, true, true, true, true, true, true, true, true, true, true, true, true, true, true, true, true, false] rfl rfl (any_of HT_.out (by kernel_rfl)) (fun _ _ _ h => h) (Or.inl ⟨by rfl, ?_⟩) ?_ ?_
                   rotate_left; ·intro w'; go_simp; with_reducible rfl
                   rotate_left; ·simp only [Act.put, sA_, sZ_, sS_, i64_w, i32_w]; rfl
                   refine pure_ (i := 19) (N := some 89) (v := ?_) (a' := ?_) #[true, true, true, true, true, true, true, true, true, true, true, true, true, true, true, true, true, true, true, true] rfl rfl (any_of HT_.out (by kernel_rfl)) (fun _ _ _ h => h) (Or.inl ⟨by rfl, ?_⟩) ?_ ?_
                   rotate_left; ·intro w'; go_simp; with_reducible rfl
                   rotate_left; ·simp only [Act.put, sA_, sZ_, sS_, i64_w, i32_w]; rfl
                   refine done_ (done_of HT_.out (by kernel_rfl)) ?_
                   try go_wp2
                   go_roundg k3
                   case measure => have := HK1.out; have := HK2.out; have := HK3.out; omega
                   case rel => exact ⟨(x67_3), (wrap64 (x67_3 + 1)), (by first | rfl | (simp; done) | (simp [*]; done)), (by first | rfl | (simp; done) | (simp [*]; done)), H', ⟨by have := HK1.out; have := HK2.out; have := HK3.out; omega⟩, ⟨by (try simp only [hl7_1]); (try simp only [hl7_2]); (with_reducible repeat (first | apply Kd.R_alloc | apply Kd.R_drewN | apply Kd.R_drew)); exact HO_6.out⟩, ⟨by (try simp only [hl7_1]); (try simp only [hl7_2]); (with_reducible repeat (first | apply Kd.R_alloc | apply Kd.R_drewN | apply Kd.R_drew)); exact HO_7.out⟩, ⟨by (try simp only [hl7_1]); (try simp only [hl7_2]); (with_reducible repeat (first | apply Kd.R_alloc | apply Kd.R_drewN | apply Kd.R_drew)); exact HO_8.out⟩, ⟨by (try simp only [hl7_1]); (try simp only [hl7_2]); (with_reducible repeat (first | apply Kd.R_alloc | apply Kd.R_drewN | apply Kd.R_drew)); exact HO_9.out⟩, ⟨by repeat (first | (with_reducible first | exact HB.out | apply below_alloc | apply pw_below_drewN | apply below_drew1) | exact HB.out)⟩⟩
                  ·rw [if_neg c40] at H
                   have c40b0 : decide (x12_3 < 0) = false := decide_eq_false c40
                   clear c40
                   by_cases c42 : x67_3 < (x8_2.length : Int)
                   ·rw [if_pos c42] at H
                    have c42b0 : decide (x67_3 < (x8_2.length : Int)) = true := decide_eq_true c42
                    clear c42
                    by_cases c43 : 0 ≤ x12_3
                    ·rw [if_pos c43] at H
                     have c43b0 : decide (0 ≤ x12_3) = true := decide_eq_true c43
                     clear c43
                     by_cases c44 : x12_3 < (x8_2.length : Int)
                     ·rw [if_pos c44] at H
                      have c44b0 : decide (x12_3 < (x8_2.length : Int)) = true := decide_eq_true c44
                      clear c44
                      by_cases c45 : (rd x8_2 x67_3) < (rd x8_2 x12_3)
                      ·rw [if_pos c45] at H
                       have c45b0 : decide ((rd x8_2 x67_3) < (rd x8_2 x12_3)) = true := decide_eq_true c45
                       clear c45; have H' := Aside0.mk H; clear H
                       try go_wp2
                       have n0_ := Aside0.mk (Kd.R_drew HO_6.out)
                       have n1_ := Aside0.mk (Kd.R_drew HO_7.out)
                       have n2_ := Aside0.mk (Kd.R_drew HO_8.out)
                       have n3_ := Aside0.mk (Kd.R_drew HO_9.out)
                       have n4_ := Aside0.mk (below_drew1 HB.out)
                       clear HO_6; clear HO_7; clear HO_8; clear HO_9; clear HB; have HO_6 := n0_; have HO_7 := n1_; have HO_8 := n2_; have HO_9 := n3_; have HB := n4_; clear n0_ n1_ n2_ n3_ n4_
                       have p156 : 0 ≤ (x67_3 : Int) := of_decide_eq_true (by first | (with_reducible assumption) | assumption)
                       have q156 : x67_3 < (x7_2.length : Int) := of_decide_eq_true (by first | (with_reducible assumption) | assumption)
                       obtain ⟨ad156, e156, hx156_0⟩ := Kd.at_bool (Kd.R_reads' HO_7.out).2.2 x67_3 p156 q156
                       (try rw [← Nbq37.out] at hx156_0)
                       obtain rfl : (⟨go10, 0, none⟩ : Addr) = ad156 := (by injection e156)
                       (first | simp only [add_plain] at hx156_0 | simp only [add_at] at hx156_0 | simp only [Addr.add, Nat.zero_add] at hx156_0 | skip)
                       replace p156 := eq_true p156; replace q156 := eq_true q156
                       obtain ⟨Ao47, co47, eo47⟩ := Kd.R_slice HO_8.out
                       (first | subst eo47 | (injection eo47 with f1_ f2_ f3_; have f4_ := f1_.symm; have f5_ := f3_.symm; clear f1_ f2_ f3_; subst f4_; subst f5_))
                       have p157 : 0 ≤ (x67_3 : Int) := of_decide_eq_true (by first | (with_reducible assumption) | assumption)
                       have q157 : x67_3 < (x8_2.length : Int) := of_decide_eq_true (by first | (with_reducible assumption) | assumption)
                       obtain ⟨ad157, e157, hx157_0⟩ := Kd.at_int (Kd.R_reads' HO_8.out).2.2 x67_3 p157 q157
                       cases e157; replace p157 := eq_true p157; replace q157 := eq_true q157
                       have p158 : 0 ≤ (x12_3 : Int) := of_decide_eq_true (by first | (with_reducible assumption) | assumption)
                       have q158 : x12_3 < (x8_2.length : Int) := of_decide_eq_true (by first | (with_reducible assumption) | assumption)
                       obtain ⟨ad158, e158, hx158_0⟩ := Kd.at_int (Kd.R_reads' HO_8.out).2.2 x12_3 p158 q158
                       obtain rfl : ad157 = ad158 := (by injection e158)
                       replace p158 := eq_true p158; replace q158 := eq_true q158
                       refine start_ (n := 20) (S := fun w' => w'.cell? ⟨go10, (x67_3).toNat, none⟩ = some (.bool false) ∧ w'.cell? (ad157.add (x67_3).toNat) = some (.int .i64 (rd x8_2 x67_3)) ∧ w'.cell? (ad157.add (x12_3).toNat) = some (.int .i64 (rd x8_2 x12_3))) (ds := []) #[false, false, false, false, false, false, false, false, false, false, false, false, false, false, false, false, false, false, false, false] (by kernel_rfl) rfl rfl ⟨hx156_0, hx157_0, hx158_0⟩ (fun hHeld => ?_); refine with_tabW tour_span.tab20 tour_span.bits20 (fun HT_ HW_ => ?_)
                       generalize wr.drew = w46 at HO_6 HO_7 HO_8 HO_9 HB hx156_0 hx157_0 hx158_0 hHeld ⊢
                       refine pure_ (i := 0) (N := some 70) (v := ?_) (a' := ?_) #[true, false, false, false, false, false, false, false, false, false, false, false, false, false, false, false, false, false, false, false] rfl rfl (any_of HT_.out (by kernel_rfl)) (fun _ _ _ h => h) (Or.inl ⟨by rfl, ?_⟩) ?_ ?_
                       rotate_left; ·intro w'; go_simp; with_reducible rfl
                       rotate_left; ·simp only [Act.put, sA_, sZ_, sS_, i64_w, i32_w]; rfl
                       refine pure_ (i := 1) (N := some 71) (v := ?_) (a' := ?_) #[true, true, false, false, false, false, false, false, false, false, false, false, false, false, false, false, false, false, false, false] rfl rfl (any_of HT_.out (by kernel_rfl)) (fun _ _ _ h => h) (Or.inl ⟨by rfl, ?_⟩) ?_ ?_
                       rotate_left; ·intro w'; go_simp; with_reducible rfl
                       rotate_left; ·simp only [Act.put, sA_, sZ_, sS_, i64_w, i32_w]; rfl
                       refine pure_ (i := 2) (N := some 72) (v := ?_) (a' := ?_) #[true, true, true, false, false, false, false, false, false, false, false, false, false, false, false, false, false, false, false, false] rfl rfl (any_of HT_.out (by kernel_rfl)) (fun _ _ _ h => h) (Or.inl ⟨by rfl, ?_⟩) ?_ ?_
                       rotate_left; ·intro w'; go_simp; with_reducible rfl
                       rotate_left; ·simp only [Act.put, sA_, sZ_, sS_, i64_w, i32_w]; rfl
                       refine take_ (i := 3) (N := some 73) (v := ?_) (a' := ?_) #[true, true, true, true, false, false, false, false, false, false, false, false, false, false, false, false, false, false, false, false] rfl rfl (take_ofW HT_.out HW_.out (by kernel_rfl)) (fun _ _ _ h => h) (Or.inl ⟨by rfl, ?_⟩) hHeld ?_ ?_
                       rotate_left
                       ·rintro w' ⟨s0, s1, s2⟩; go_simp; with_reducible rfl
                       rotate_left; ·simp only [Act.put, sA_, sZ_, sS_, i64_w, i32_w]; rfl
                       refine pure_ (i := 4) (N := some 74) (v := ?_) (a' := ?_) #[true, true, true, true, true, false, false, false, false, false, false, false, false, false, false, false, false, false, false, false] rfl rfl (any_of HT_.out (by kernel_rfl)) (fun _ _ _ h => h) (Or.inl ⟨by rfl, ?_⟩) ?_ ?_
                       rotate_left; ·intro w'; go_simp; with_reducible rfl
                       rotate_left; ·simp only [Act.put, sA_, sZ_, sS_, i64_w, i32_w]; rfl
                       refine pure_ (i := 5) (N := some 75) (v := ?_) (a' := ?_) #[true, true, true, true, true, true, false, false, false, false, false, false, false, false, false, false, false, false, false, false] rfl rfl (any_of HT_.out (by kernel_rfl)) (fun _ _ _ h => h) (Or.inl ⟨by rfl, ?_⟩) ?_ ?_
                       rotate_left; ·intro w'; go_simp; with_reducible rfl
                       rotate_left; ·simp only [Act.put, sA_, sZ_, sS_, i64_w, i32_w]; rfl
                       refine pure_ (i := 6) (N := some 76) (v := ?_) (a' := ?_) #[true, true, true, true, true, true, true, false, false, false, false, false, false, false, false, false, false, false, false, false] rfl rfl (any_of HT_.out (by kernel_rfl)) (fun _ _ _ h => h) (Or.inl ⟨by rfl, ?_⟩) ?_ ?_
                       rotate_left; ·intro w'; go_simp; with_reducible rfl
                       rotate_left; ·simp only [Act.put, sA_, sZ_, sS_, i64_w, i32_w]; rfl
                       refine pure_ (i := 7) (N := some 77) (v := ?_) (a' := ?_) #[true, true, true, true, true, true, true, true, false, false, false, false, false, false, false, false, false, false, false, false] rfl rfl (any_of HT_.out (by kernel_rfl)) (fun _ _ _ h => h) (Or.inl ⟨by rfl, ?_⟩) ?_ ?_
                       rotate_left; ·intro w'; go_simp; with_reducible rfl
                       rotate_left; ·simp only [Act.put, sA_, sZ_, sS_, i64_w, i32_w]; rfl
                       refine pure_ (i := 8) (N := some 78) (v := ?_) (a' := ?_) #[true, true, true, true, true, true, true, true, true, false, false, false, false, false, false, false, false, false, false, false] rfl rfl (any_of HT_.out (by kernel_rfl)) (fun _ _ _ h => h) (Or.inl ⟨by rfl, ?_⟩) ?_ ?_
                       rotate_left; ·intro w'; go_simp; with_reducible rfl
                       rotate_left; ·simp only [Act.put, sA_, sZ_, sS_, i64_w, i32_w]; rfl
                       refine pure_ (i := 9) (N := some 79) (v := ?_) (a' := ?_) #[true, true, true, true, true, true, true, true, true, true, false, false, false, false, false, false, false, false, false, false] rfl rfl (any_of HT_.out (by kernel_rfl)) (fun _ _ _ h => h) (Or.inl ⟨by rfl, ?_⟩) ?_ ?_
                       rotate_left; ·intro w'; go_simp; with_reducible rfl
                       rotate_left; ·simp only [Act.put, sA_, sZ_, sS_, i64_w, i32_w]; rfl
                       refine pure_ (i := 10) (N := some 80) (v := ?_) (a' := ?_) #[true, true, true, true, true, true, true, true, true, true, true, false, false, false, false, false, false, false, false, false] rfl rfl (any_of HT_.out (by kernel_rfl)) (fun _ _ _ h => h) (Or.inl ⟨by rfl, ?_⟩) ?_ ?_
                       rotate_left; ·intro w'; go_simp; with_reducible rfl
                       rotate_left; ·simp only [Act.put, sA_, sZ_, sS_, i64_w, i32_w]; rfl
                       refine pure_ (i := 11) (N := some 81) (v := ?_) (a' := ?_) #[true, true, true, true, true, true, true, true, true, true, true, true, false, false, false, false, false, false, false, false] rfl rfl (any_of HT_.out (by kernel_rfl)) (fun _ _ _ h => h) (Or.inl ⟨by rfl, ?_⟩) ?_ ?_
                       rotate_left; ·intro w'; go_simp; with_reducible rfl
                       rotate_left; ·simp only [Act.put, sA_, sZ_, sS_, i64_w, i32_w]; rfl
                       refine pure_ (i := 13) (N := some 83) (v := ?_) (a' := ?_) #[true, true, true, true, true, true, true, true, true, true, true, true, false, true, false, false, false, false, false, false] rfl rfl (any_of HT_.out (by kernel_rfl)) (fun _ _ _ h => h) (Or.inl ⟨by rfl, ?_⟩) ?_ ?_
                       rotate_left; ·intro w'; go_simp; with_reducible rfl
                       rotate_left; ·simp only [Act.put, sA_, sZ_, sS_, i64_w, i32_w]; rfl
                       refine pure_ (i := 14) (N := some 84) (v := ?_) (a' := ?_) #[true, true, true, true, true, true, true, true, true, true, true, true, false, true, true, false, false, false, false, false] rfl rfl (any_of HT_.out (by kernel_rfl)) (fun _ _ _ h => h) (Or.inl ⟨by rfl, ?_⟩) ?_ ?_
                       rotate_left; ·intro w'; go_simp; with_reducible rfl
                       rotate_left; ·simp only [Act.put, sA_, sZ_, sS_, i64_w, i32_w]; rfl
                       refine pure_ (i := 15) (N := some 85) (v := ?_) (a' := ?_) #[true, true, true, true, true, true, true, true, true, true, true, true, false, true, true, true, false, false, false, false] rfl rfl (any_of HT_.out (by kernel_rfl)) (fun _ _ _ h => h) (Or.inl ⟨by rfl, ?_⟩) ?_ ?_
                       rotate_left; ·intro w'; go_simp; with_reducible rfl
                       rotate_left; ·simp only [Act.put, sA_, sZ_, sS_, i64_w, i32_w]; rfl
                       refine take_ (i := 12) (N := some 82) (v := ?_) (a' := ?_) #[true, true, true, true, true, true, true, true, true, true, true, true, true, true, true, true, false, false, false, false] rfl rfl (take_ofW HT_.out HW_.out (by kernel_rfl)) (fun _ _ _ h => h) (Or.inl ⟨by rfl, ?_⟩) hHeld ?_ ?_
                       rotate_left
                       ·rintro w' ⟨s0, s1, s2⟩; go_simp; with_reducible rfl
                       rotate_left; ·simp only [Act.put, sA_, sZ_, sS_, i64_w, i32_w]; rfl
                       refine take_ (i := 16) (N := some 86) (v := ?_) (a' := ?_) #[true, true, true, true, true, true, true, true, true, true, true, true, true, true, true, true, true, false, false, false] rfl rfl (take_ofW HT_.out HW_.out (by kernel_rfl)) (fun _ _ _ h => h) (Or.inl ⟨by rfl, ?_⟩) hHeld ?_ ?_
                       rotate_left
                       ·rintro w' ⟨s0, s1, s2⟩; go_simp; with_reducible rfl
                       rotate_left; ·simp only [Act.put, sA_, sZ_, sS_, i64_w, i32_w]; rfl
                       refine pure_ (i := 17) (N := some 87) (v := ?_) (a' := ?_) #[true, true, true, true, true, true, true, true, true, true, true, true, true, true, true, true, true, true, false, false] rfl rfl (any_of HT_.out (by kernel_rfl)) (fun _ _ _ h => h) (Or.inl ⟨by rfl, ?_⟩) ?_ ?_
                       rotate_left; ·intro w'; go_simp; with_reducible rfl
                       rotate_left; ·simp only [Act.put, sA_, sZ_, sS_, i64_w, i32_w]; rfl
                       refine pure_ (i := 18) (N := some 88) (v := ?_) (a' := ?_) #[true, true, true, true, true, true, true, true, true, true, true, true, true, true, true, true, true, true, true, false] rfl rfl (any_of HT_.out (by kernel_rfl)) (fun _ _ _ h => h) (Or.inl ⟨by rfl, ?_⟩) ?_ ?_
                       rotate_left; ·intro w'; go_simp; with_reducible rfl
                       rotate_left; ·simp only [Act.put, sA_, sZ_, sS_, i64_w, i32_w]; rfl
                       refine pure_ (i := 19) (N := some 89) (v := ?_) (a' := ?_) #[true, true, true, true, true, true, true, true, true, true, true, true, true, true, true, true, true, true, true, true] rfl rfl (any_of HT_.out (by kernel_rfl)) (fun _ _ _ h => h) (Or.inl ⟨by rfl, ?_⟩) ?_ ?_
                       rotate_left; ·intro w'; go_simp; with_reducible rfl
                       rotate_left; ·simp only [Act.put, sA_, sZ_, sS_, i64_w, i32_w]; rfl
                       refine done_ (done_of HT_.out (by kernel_rfl)) ?_
                       try go_wp2
                       go_roundg k3
                       case measure => have := HK1.out; have := HK2.out; have := HK3.out; omega
                       case rel => exact ⟨(x67_3), (wrap64 (x67_3 + 1)), (by first | rfl | (simp; done) | (simp [*]; done)), (by first | rfl | (simp; done) | (simp [*]; done)), H', ⟨by have := HK1.out; have := HK2.out; have := HK3.out; omega⟩, ⟨by (try simp only [hl7_1]); (try simp only [hl7_2]); (with_reducible repeat (first | apply Kd.R_alloc | apply Kd.R_drewN | apply Kd.R_drew)); exact HO_6.out⟩, ⟨by (try simp only [hl7_1]); (try simp only [hl7_2]); (with_reducible repeat (first | apply Kd.R_alloc | apply Kd.R_drewN | apply Kd.R_drew)); exact HO_7.out⟩, ⟨by (try simp only [hl7_1]); (try simp only [hl7_2]); (with_reducible repeat (first | apply Kd.R_alloc | apply Kd.R_drewN | apply Kd.R_drew)); exact HO_8.out⟩, ⟨by (try simp only [hl7_1]); (try simp only [hl7_2]); (with_reducible repeat (first | apply Kd.R_alloc | apply Kd.R_drewN | apply Kd.R_drew)); exact HO_9.out⟩, ⟨by repeat (first | (with_reducible first | exact HB.out | apply below_alloc | apply pw_below_drewN | apply below_drew1) | exact HB.out)⟩⟩
                      ·rw [if_neg c45] at H
                       have c45b0 : decide ((rd x8_2 x67_3) < (rd x8_2 x12_3)) = false := decide_eq_false c45
                       clear c45; have H' := Aside0.mk H; clear H
                       try go_wp2
                       have n0_ := Aside0.mk (Kd.R_drew HO_6.out)
                       have n1_ := Aside0.mk (Kd.R_drew HO_7.out)
                       have n2_ := Aside0.mk (Kd.R_drew HO_8.out)
                       have n3_ := Aside0.mk (Kd.R_drew HO_9.out)
                       have n4_ := Aside0.mk (below_drew1 HB.out)
                       clear HO_6; clear HO_7; clear HO_8; clear HO_9; clear HB; have HO_6 := n0_; have HO_7 := n1_; have HO_8 := n2_; have HO_9 := n3_; have HB := n4_; clear n0_ n1_ n2_ n3_ n4_
                       have p156 : 0 ≤ (x67_3 : Int) := of_decide_eq_true (by first | (with_reducible assumption) | assumption)
                       have q156 : x67_3 < (x7_2.length : Int) := of_decide_eq_true (by first | (with_reducible assumption) | assumption)
                       obtain ⟨ad156, e156, hx156_0⟩ := Kd.at_bool (Kd.R_reads' HO_7.out).2.2 x67_3 p156 q156
                       (try rw [← Nbq37.out] at hx156_0)
                       obtain rfl : (⟨go10, 0, none⟩ : Addr) = ad156 := (by injection e156)
                       (first | simp only [add_plain] at hx156_0 | simp only [add_at] at hx156_0 | simp only [Addr.add, Nat.zero_add] at hx156_0 | skip)
                       replace p156 := eq_true p156; replace q156 := eq_true q156
                       obtain ⟨Ao49, co49, eo49⟩ := Kd.R_slice HO_8.out
                       (first | subst eo49 | (injection eo49 with f1_ f2_ f3_; have f4_ := f1_.symm; have f5_ := f3_.symm; clear f1_ f2_ f3_; subst f4_; subst f5_))
                       have p157 : 0 ≤ (x67_3 : Int) := of_decide_eq_true (by first | (with_reducible assumption) | assumption)
                       have q157 : x67_3 < (x8_2.length : Int) := of_decide_eq_true (by first | (with_reducible assumption) | assumption)
                       obtain ⟨ad157, e157, hx157_0⟩ := Kd.at_int (Kd.R_reads' HO_8.out).2.2 x67_3 p157 q157
                       cases e157; replace p157 := eq_true p157; replace q157 := eq_true q157
                       have p158 : 0 ≤ (x12_3 : Int) := of_decide_eq_true (by first | (with_reducible assumption) | assumption)
                       have q158 : x12_3 < (x8_2.length : Int) := of_decide_eq_true (by first | (with_reducible assumption) | assumption)
                       obtain ⟨ad158, e158, hx158_0⟩ := Kd.at_int (Kd.R_reads' HO_8.out).2.2 x12_3 p158 q158
                       obtain rfl : ad157 = ad158 := (by injection e158)
                       replace p158 := eq_true p158; replace q158 := eq_true q158
                       refine start_ (n := 20) (S := fun w' => w'.cell? ⟨go10, (x67_3).toNat, none⟩ = some (.bool false) ∧ w'.cell? (ad157.add (x67_3).toNat) = some (.int .i64 (rd x8_2 x67_3)) ∧ w'.cell? (ad157.add (x12_3).toNat) = some (.int .i64 (rd x8_2 x12_3))) (ds := []) #[false, false, false, false, false, false, false, false, false, false, false, false, false, false, false, false, false, false, false, false] (by kernel_rfl) rfl rfl ⟨hx156_0, hx157_0, hx158_0⟩ (fun hHeld => ?_); refine with_tabW tour_span.tab20 tour_span.bits20 (fun HT_ HW_ => ?_)
                       generalize wr.drew = w48 at HO_6 HO_7 HO_8 HO_9 HB hx156_0 hx157_0 hx158_0 hHeld ⊢
                       refine pure_ (i := 0) (N := some 70) (v := ?_) (a' := ?_) #[true, false, false, false, false, false, false, false, false, false, false, false, false, false, false, false, false, false, false, false] rfl rfl (any_of HT_.out (by kernel_rfl)) (fun _ _ _ h => h) (Or.inl ⟨by rfl, ?_⟩) ?_ ?_
                       rotate_left; ·intro w'; go_simp; with_reducible rfl
                       rotate_left; ·simp only [Act.put, sA_, sZ_, sS_, i64_w, i32_w]; rfl
                       refine pure_ (i := 1) (N := some 71) (v := ?_) (a' := ?_) #[true, true, false, false, false, false, false, false, false, false, false, false, false, false, false, false, false, false, false, false] rfl rfl (any_of HT_.out (by kernel_rfl)) (fun _ _ _ h => h) (Or.inl ⟨by rfl, ?_⟩) ?_ ?_
                       rotate_left; ·intro w'; go_simp; with_reducible rfl
                       rotate_left; ·simp only [Act.put, sA_, sZ_, sS_, i64_w, i32_w]; rfl
                       refine pure_ (i := 2) (N := some 72) (v := ?_) (a' := ?_) #[true, true, true, false, false, false, false, false, false, false, false, false, false, false, false, false, false, false, false, false] rfl rfl (any_of HT_.out (by kernel_rfl)) (fun _ _ _ h => h) (Or.inl ⟨by rfl, ?_⟩) ?_ ?_
                       rotate_left; ·intro w'; go_simp; with_reducible rfl
                       rotate_left; ·simp only [Act.put, sA_, sZ_, sS_, i64_w, i32_w]; rfl
                       refine take_ (i := 3) (N := some 73) (v := ?_) (a' := ?_) #[true, true, true, true, false, false, false, false, false, false, false, false, false, false, false, false, false, false, false, false] rfl rfl (take_ofW HT_.out HW_.out (by kernel_rfl)) (fun _ _ _ h => h) (Or.inl ⟨by rfl, ?_⟩) hHeld ?_ ?_
                       rotate_left
                       ·rintro w' ⟨s0, s1, s2⟩; go_simp; with_reducible rfl
                       rotate_left; ·simp only [Act.put, sA_, sZ_, sS_, i64_w, i32_w]; rfl
                       refine pure_ (i := 4) (N := some 74) (v := ?_) (a' := ?_) #[true, true, true, true, true, false, false, false, false, false, false, false, false, false, false, false, false, false, false, false] rfl rfl (any_of HT_.out (by kernel_rfl)) (fun _ _ _ h => h) (Or.inl ⟨by rfl, ?_⟩) ?_ ?_
                       rotate_left; ·intro w'; go_simp; with_reducible rfl
                       rotate_left; ·simp only [Act.put, sA_, sZ_, sS_, i64_w, i32_w]; rfl
                       refine pure_ (i := 5) (N := some 75) (v := ?_) (a' := ?_) #[true, true, true, true, true, true, false, false, false, false, false, false, false, false, false, false, false, false, false, false] rfl rfl (any_of HT_.out (by kernel_rfl)) (fun _ _ _ h => h) (Or.inl ⟨by rfl, ?_⟩) ?_ ?_
                       rotate_left; ·intro w'; go_simp; with_reducible rfl
                       rotate_left; ·simp only [Act.put, sA_, sZ_, sS_, i64_w, i32_w]; rfl
                       refine pure_ (i := 6) (N := some 76) (v := ?_) (a' := ?_) #[true, true, true, true, true, true, true, false, false, false, false, false, false, false, false, false, false, false, false, false] rfl rfl (any_of HT_.out (by kernel_rfl)) (fun _ _ _ h => h) (Or.inl ⟨by rfl, ?_⟩) ?_ ?_
                       rotate_left; ·intro w'; go_simp; with_reducible rfl
                       rotate_left; ·simp only [Act.put, sA_, sZ_, sS_, i64_w, i32_w]; rfl
                       refine pure_ (i := 7) (N := some 77) (v := ?_) (a' := ?_) #[true, true, true, true, true, true, true, true, false, false, false, false, false, false, false, false, false, false, false, false] rfl rfl (any_of HT_.out (by kernel_rfl)) (fun _ _ _ h => h) (Or.inl ⟨by rfl, ?_⟩) ?_ ?_
                       rotate_left; ·intro w'; go_simp; with_reducible rfl
                       rotate_left; ·simp only [Act.put, sA_, sZ_, sS_, i64_w, i32_w]; rfl
                       refine pure_ (i := 8) (N := some 78) (v := ?_) (a' := ?_) #[true, true, true, true, true, true, true, true, true, false, false, false, false, false, false, false, false, false, false, false] rfl rfl (any_of HT_.out (by kernel_rfl)) (fun _ _ _ h => h) (Or.inl ⟨by rfl, ?_⟩) ?_ ?_
                       rotate_left; ·intro w'; go_simp; with_reducible rfl
                       rotate_left; ·simp only [Act.put, sA_, sZ_, sS_, i64_w, i32_w]; rfl
                       refine pure_ (i := 9) (N := some 79) (v := ?_) (a' := ?_) #[true, true, true, true, true, true, true, true, true, true, false, false, false, false, false, false, false, false, false, false] rfl rfl (any_of HT_.out (by kernel_rfl)) (fun _ _ _ h => h) (Or.inl ⟨by rfl, ?_⟩) ?_ ?_
                       rotate_left; ·intro w'; go_simp; with_reducible rfl
                       rotate_left; ·simp only [Act.put, sA_, sZ_, sS_, i64_w, i32_w]; rfl
                       refine pure_ (i := 10) (N := some 80) (v := ?_) (a' := ?_) #[true, true, true, true, true, true, true, true, true, true, true, false, false, false, false, false, false, false, false, false] rfl rfl (any_of HT_.out (by kernel_rfl)) (fun _ _ _ h => h) (Or.inl ⟨by rfl, ?_⟩) ?_ ?_
                       rotate_left; ·intro w'; go_simp; with_reducible rfl
                       rotate_left; ·simp only [Act.put, sA_, sZ_, sS_, i64_w, i32_w]; rfl
                       refine pure_ (i := 11) (N := some 81) (v := ?_) (a' := ?_) #[true, true, true, true, true, true, true, true, true, true, true, true, false, false, false, false, false, false, false, false] rfl rfl (any_of HT_.out (by kernel_rfl)) (fun _ _ _ h => h) (Or.inl ⟨by rfl, ?_⟩) ?_ ?_
                       rotate_left; ·intro w'; go_simp; with_reducible rfl
                       rotate_left; ·simp only [Act.put, sA_, sZ_, sS_, i64_w, i32_w]; rfl
                       refine pure_ (i := 13) (N := some 83) (v := ?_) (a' := ?_) #[true, true, true, true, true, true, true, true, true, true, true, true, false, true, false, false, false, false, false, false] rfl rfl (any_of HT_.out (by kernel_rfl)) (fun _ _ _ h => h) (Or.inl ⟨by rfl, ?_⟩) ?_ ?_
                       rotate_left; ·intro w'; go_simp; with_reducible rfl
                       rotate_left; ·simp only [Act.put, sA_, sZ_, sS_, i64_w, i32_w]; rfl
                       refine pure_ (i := 14) (N := some 84) (v := ?_) (a' := ?_) #[true, true, true, true, true, true, true, true, true, true, true, true, false, true, true, false, false, false, false, false] rfl rfl (any_of HT_.out (by kernel_rfl)) (fun _ _ _ h => h) (Or.inl ⟨by rfl, ?_⟩) ?_ ?_
                       rotate_left; ·intro w'; go_simp; with_reducible rfl
                       rotate_left; ·simp only [Act.put, sA_, sZ_, sS_, i64_w, i32_w]; rfl
                       refine pure_ (i := 15) (N := some 85) (v := ?_) (a' := ?_) #[true, true, true, true, true, true, true, true, true, true, true, true, false, true, true, true, false, false, false, false] rfl rfl (any_of HT_.out (by kernel_rfl)) (fun _ _ _ h => h) (Or.inl ⟨by rfl, ?_⟩) ?_ ?_
                       rotate_left; ·intro w'; go_simp; with_reducible rfl
                       rotate_left; ·simp only [Act.put, sA_, sZ_, sS_, i64_w, i32_w]; rfl
                       refine take_ (i := 12) (N := some 82) (v := ?_) (a' := ?_) #[true, true, true, true, true, true, true, true, true, true, true, true, true, true, true, true, false, false, false, false] rfl rfl (take_ofW HT_.out HW_.out (by kernel_rfl)) (fun _ _ _ h => h) (Or.inl ⟨by rfl, ?_⟩) hHeld ?_ ?_
                       rotate_left
                       ·rintro w' ⟨s0, s1, s2⟩; go_simp; with_reducible rfl
                       rotate_left; ·simp only [Act.put, sA_, sZ_, sS_, i64_w, i32_w]; rfl
                       refine take_ (i := 16) (N := some 86) (v := ?_) (a' := ?_) #[true, true, true, true, true, true, true, true, true, true, true, true, true, true, true, true, true, false, false, false] rfl rfl (take_ofW HT_.out HW_.out (by kernel_rfl)) (fun _ _ _ h => h) (Or.inl ⟨by rfl, ?_⟩) hHeld ?_ ?_
                       rotate_left
                       ·rintro w' ⟨s0, s1, s2⟩; go_simp; with_reducible rfl
                       rotate_left; ·simp only [Act.put, sA_, sZ_, sS_, i64_w, i32_w]; rfl
                       refine pure_ (i := 17) (N := some 87) (v := ?_) (a' := ?_) #[true, true, true, true, true, true, true, true, true, true, true, true, true, true, true, true, true, true, false, false] rfl rfl (any_of HT_.out (by kernel_rfl)) (fun _ _ _ h => h) (Or.inl ⟨by rfl, ?_⟩) ?_ ?_
                       rotate_left; ·intro w'; go_simp; with_reducible rfl
                       rotate_left; ·simp only [Act.put, sA_, sZ_, sS_, i64_w, i32_w]; rfl
                       refine pure_ (i := 18) (N := some 88) (v := ?_) (a' := ?_) #[true, true, true, true, true, true, true, true, true, true, true, true, true, true, true, true, true, true, true, false] rfl rfl (any_of HT_.out (by kernel_rfl)) (fun _ _ _ h => h) (Or.inl ⟨by rfl, ?_⟩) ?_ ?_
                       rotate_left; ·intro w'; go_simp; with_reducible rfl
                       rotate_left; ·simp only [Act.put, sA_, sZ_, sS_, i64_w, i32_w]; rfl
                       refine pure_ (i := 19) (N := some 89) (v := ?_) (a' := ?_) #[true, true, true, true, true, true, true, true, true, true, true, true, true, true, true, true, true, true, true, true] rfl rfl (any_of HT_.out (by kernel_rfl)) (fun _ _ _ h => h) (Or.inl ⟨by rfl, ?_⟩) ?_ ?_
                       rotate_left; ·intro w'; go_simp; with_reducible rfl
                       rotate_left; ·simp only [Act.put, sA_, sZ_, sS_, i64_w, i32_w]; rfl
                       refine done_ (done_of HT_.out (by kernel_rfl)) ?_
                       try go_wp2
                       go_roundg k3
                       case measure => have := HK1.out; have := HK2.out; have := HK3.out; omega
                       case rel => exact ⟨(x12_3), (wrap64 (x67_3 + 1)), (by first | rfl | (simp; done) | (simp [*]; done)), (by first | rfl | (simp; done) | (simp [*]; done)), H', ⟨by have := HK1.out; have := HK2.out; have := HK3.out; omega⟩, ⟨by (try simp only [hl7_1]); (try simp only [hl7_2]); (with_reducible repeat (first | apply Kd.R_alloc | apply Kd.R_drewN | apply Kd.R_drew)); exact HO_6.out⟩, ⟨by (try simp only [hl7_1]); (try simp only [hl7_2]); (with_reducible repeat (first | apply Kd.R_alloc | apply Kd.R_drewN | apply Kd.R_drew)); exact HO_7.out⟩, ⟨by (try simp only [hl7_1]); (try simp only [hl7_2]); (with_reducible repeat (first | apply Kd.R_alloc | apply Kd.R_drewN | apply Kd.R_drew)); exact HO_8.out⟩, ⟨by (try simp only [hl7_1]); (try simp only [hl7_2]); (with_reducible repeat (first | apply Kd.R_alloc | apply Kd.R_drewN | apply Kd.R_drew)); exact HO_9.out⟩, ⟨by repeat (first | (with_reducible first | exact HB.out | apply below_alloc | apply pw_below_drewN | apply below_drew1) | exact HB.out)⟩⟩
                     ·rw [if_neg c44] at H
                      exact absurd H (by simp)
                    ·rw [if_neg c43] at H
                     exact absurd H (by simp)
                   ·rw [if_neg c42] at H
                    exact absurd H (by simp)
                ·rw [if_neg c36] at H
                 exact absurd H (by simp)
               ·rw [if_neg c35] at H
                exact absurd H (by simp)
              ·rw [if_neg c34] at H
               have c34b0 : decide (x67_3 < (l0.length : Int)) = false := decide_eq_false c34
               clear c34
               by_cases c50 : 0 ≤ x12_3
               ·rw [if_pos c50] at H
                have c50b0 : decide (0 ≤ x12_3) = true := decide_eq_true c50
                clear c50
                by_cases c51 : x12_3 < (x7_2.length : Int)
                ·rw [if_pos c51] at H
                 have c51b0 : decide (x12_3 < (x7_2.length : Int)) = true := decide_eq_true c51
                 clear c51
                 obtain ⟨y159, hy159⟩ : ∃ y_ : List Bool, y_ = (x7_2.set (x12_3 : Int).toNat true) := ⟨_, rfl⟩
                 replace H : (if x12_3 < (x8_2.length : Int) then (if x12_3 < (x6_2.length : Int) then ((some (x6_2.set (x12_3 : Int).toNat (wrap64 ((rd x6_2 x12_3) + 1)) : List Int)).bind fun y162 => (if x12_3 < (x9_2.length : Int) then (if 0 ≤ (rd x9_2 x12_3) then (if (rd x9_2 x12_3) < (x6_2.length : Int) then (tour_span.l3 k3 l0 l1 (y162.set ((rd x9_2 x12_3) : Int).toNat (wrap64 ((rd y162 (rd x9_2 x12_3)) + 1))) y159 x8_2 x9_2 (wrap64 (x11_2 + (rd x8_2 x12_3))) x12_3 (wrap64 ((l0.length : Int) - 1)) x63_2 (l0.length : Int) 0) else (none)) else (none)) else (none))) else (none)) else (none)) = some (r1, r2) := by first | (rw [hy159]; with_reducible exact H) | (have H2_ := (Option.bind_some _ _).symm.trans H; rw [hy159]; with_reducible exact H2_) | (have H2_ := (Option.bind_some _ _).symm.trans H; with_reducible exact H2_) | with_reducible exact H | (rw [hy159]; exact H) | exact H
                 have Ny159 := Aside0.mk hy159; clear hy159
                 by_cases c53 : x12_3 < (x8_2.length : Int)
                 ·rw [if_pos c53] at H
                  have c53b0 : decide (x12_3 < (x8_2.length : Int)) = true := decide_eq_true c53
                  clear c53
                  by_cases c54 : x12_3 < (x6_2.length : Int)
                  ·rw [if_pos c54] at H
                   have c54b0 : decide (x12_3 < (x6_2.length : Int)) = true := decide_eq_true c54
                   clear c54
                   obtain ⟨y162, hy162⟩ : ∃ y_ : List Int, y_ = (x6_2.set (x12_3 : Int).toNat (wrap64 ((rd x6_2 x12_3) + 1))) := ⟨_, rfl⟩
                   replace H : (if x12_3 < (x9_2.length : Int) then (if 0 ≤ (rd x9_2 x12_3) then (if (rd x9_2 x12_3) < (x6_2.length : Int) then (tour_span.l3 k3 l0 l1 (y162.set ((rd x9_2 x12_3) : Int).toNat (wrap64 ((rd y162 (rd x9_2 x12_3)) + 1))) y159 x8_2 x9_2 (wrap64 (x11_2 + (rd x8_2 x12_3))) x12_3 (wrap64 ((l0.length : Int) - 1)) x63_2 (l0.length : Int) 0) else (none)) else (none)) else (none)) = some (r1, r2) := by first | (rw [hy162]; with_reducible exact H) | (have H2_ := (Option.bind_some _ _).symm.trans H; rw [hy162]; with_reducible exact H2_) | (have H2_ := (Option.bind_some _ _).symm.trans H; with_reducible exact H2_) | with_reducible exact H | (rw [hy162]; exact H) | exact H
                   have Ny162 := Aside0.mk hy162; clear hy162
                   by_cases c56 : x12_3 < (x9_2.length : Int)
                   ·rw [if_pos c56] at H
                    have c56b0 : decide (x12_3 < (x9_2.length : Int)) = true := decide_eq_true c56
                    clear c56
                    by_cases c57 : 0 ≤ (rd x9_2 x12_3)
                    ·rw [if_pos c57] at H
                     have c57b0 : decide (0 ≤ (rd x9_2 x12_3)) = true := decide_eq_true c57
                     clear c57
                     by_cases c58 : (rd x9_2 x12_3) < (x6_2.length : Int)
                     ·rw [if_pos c58] at H
                      have c58b0 : decide ((rd x9_2 x12_3) < (x6_2.length : Int)) = true := decide_eq_true c58
                      clear c58
                      obtain ⟨y165, hy165⟩ : ∃ y_ : List Int, y_ = (y162.set ((rd x9_2 x12_3) : Int).toNat (wrap64 ((rd y162 (rd x9_2 x12_3)) + 1))) := ⟨_, rfl⟩
                      replace H : (tour_span.l3 k3 l0 l1 y165 y159 x8_2 x9_2 (wrap64 (x11_2 + (rd x8_2 x12_3))) x12_3 (wrap64 ((l0.length : Int) - 1)) x63_2 (l0.length : Int) 0) = some (r1, r2) := by first | (rw [hy165]; with_reducible exact H) | (have H2_ := (Option.bind_some _ _).symm.trans H; rw [hy165]; with_reducible exact H2_) | (have H2_ := (Option.bind_some _ _).symm.trans H; with_reducible exact H2_) | with_reducible exact H | (rw [hy165]; exact H) | exact H
                      have Ny165 := Aside0.mk hy165; clear hy165; have H' := Aside0.mk H; clear H
                      have p52 : 0 ≤ (x12_3 : Int) := of_decide_eq_true (by first | (with_reducible assumption) | assumption)
                      have q52 : (x12_3 : Int) < ((x7_2.length : Int) : Int) := of_decide_eq_true (by first | (with_reducible assumption) | assumption)
                      obtain ⟨hx52_0, hf52_0⟩ := Kd.R_celln false HO_7.out (x12_3 : Int) p52 q52
                      replace p52 := eq_true p52; replace q52 := eq_true q52
                      have HP60 := Kd.R_putg HO_7.out (x12_3 : Int) true
                      go_wp2_with (first | ((with_reducible refine gate_store (t := 4) (p := 94) rfl ?_); refine store_event (t := 4) (p := 94) (v := ?vo_w61) (w1 := (wr.setCell ⟨go10, (x12_3 : Int).toNat, none⟩ (.bool true))) ?hg ?ho ?hn ?hr ?_; (case ho => rfl); (case hg => rfl); (case hn => rfl); (case hr => first | (go_simp; done) | (go_simp; rfl)); intro w61 hw; have hg : wr.grownBy w61 (some go10) := (by rw [hw]; exact HP60.2); have hp_ : Kd.R Kd.bool 4 w61 w.heap.size (fun _ => True) (.slice (some ⟨go10, 0, none⟩) x7_2.length co10) y159 := (by rw [hw, Ny159.out]; exact HP60.1); clear HP60; have n0_ := Aside0.mk (Kd.R_over' (v := (.slice (some ⟨go10, 0, none⟩) x7_2.length co10)) (by (with_reducible repeat (first | apply Kd.R_alloc | apply Kd.R_drewN | apply Kd.R_drew)); exact HO_6.out) (Kd.R_typed HO_7.out) (by decide) hg); have n1_ := Aside0.mk (hp_); have n2_ := Aside0.mk (Kd.R_over' (v := (.slice (some ⟨go10, 0, none⟩) x7_2.length co10)) (by (with_reducible repeat (first | apply Kd.R_alloc | apply Kd.R_drewN | apply Kd.R_drew)); exact HO_8.out) (Kd.R_typed HO_7.out) (by decide) hg); have n3_ := Aside0.mk (Kd.R_over' (v := (.slice (some ⟨go10, 0, none⟩) x7_2.length co10)) (by (with_reducible repeat (first | apply Kd.R_alloc | apply Kd.R_drewN | apply Kd.R_drew)); exact HO_9.out) (Kd.R_typed HO_7.out) (by decide) hg); have n4_ := Aside0.mk ((by rw [hw]; exact below_set (HB.out) GB10.out : Below w.heap.size w w61)); clear HO_6; clear HO_7; clear HO_8; clear HO_9; clear HB; have HO_6 := n0_; have HO_7 := n1_; have HO_8 := n2_; have HO_9 := n3_; have HB := n4_; clear n0_ n1_ n2_ n3_ n4_; clear hg hw hp_; obtain ⟨Ao62, co62, eo62⟩ := Kd.R_slice HO_8.out; subst eo62; have p160 : 0 ≤ (x12_3 : Int) := of_decide_eq_true (by first | (with_reducible assumption) | assumption); have q160 : x12_3 < (x8_2.length : Int) := of_decide_eq_true (by first | (with_reducible assumption) | assumption); obtain ⟨ad160, e160, hx160_0⟩ := Kd.at_int (Kd.R_reads' HO_8.out).2.2 x12_3 p160 q160; cases e160; replace p160 := eq_true p160; replace q160 := eq_true q160; obtain ⟨Ao63, co63, eo63⟩ := Kd.R_slice HO_6.out; subst eo63; have p161 : 0 ≤ (x12_3 : Int) := of_decide_eq_true (by first | (with_reducible assumption) | assumption); have q161 : x12_3 < (x6_2.length : Int) := of_decide_eq_true (by first | (with_reducible assumption) | assumption); obtain ⟨ad161, e161, hx161_0⟩ := Kd.at_int (Kd.R_reads' HO_6.out).2.2 x12_3 p161 q161; cases e161; replace p161 := eq_true p161; replace q161 := eq_true q161; have p55 : 0 ≤ (x12_3 : Int) := of_decide_eq_true (by first | (with_reducible assumption) | assumption); have q55 : (x12_3 : Int) < ((x6_2.length : Int) : Int) := of_decide_eq_true (by first | (with_reducible assumption) | assumption); obtain ⟨go55, co55, eo55, gb55, gl55, cl55, HG55⟩ := Kd.R_form HO_6.out (by omega); (first | cases eo55 | (injection eo55 with ea_ en_ ec_; (first | subst ea_ | (injection ea_ with ea_; subst ea_)); subst ec_; clear en_)); have GB55 := Aside0.mk gb55; have GG55 := Aside0.mk HG55; clear gb55 gl55 HG55; (first | simp only [add_plain] at hx161_0 | skip); obtain ⟨hx55_0, hf55_0⟩ := Kd.R_celln 0 HO_6.out (x12_3 : Int) p55 q55; replace p55 := eq_true p55; replace q55 := eq_true q55; obtain ⟨hy64_, hz64_⟩ := Kd.R_celln 0 HO_6.out (x12_3 : Int) (of_decide_eq_true (by first | (with_reducible assumption) | assumption)) (of_decide_eq_true (by first | (with_reducible assumption) | assumption)); have HP64 := Kd.R_putg HO_6.out (x12_3 : Int) (wrap64 ((rd x6_2 x12_3) + 1))) | ((with_reducible refine gate_store (t := 3) (p := 106) rfl ?_); refine store_event (t := 3) (p := 106) (v := ?vo_w65) (w1 := (w61.setCell ⟨go55, (x12_3 : Int).toNat, none⟩ (.int .i64 (wrap64 ((rd x6_2 x12_3) + 1))))) ?hg ?ho ?hn ?hr ?_; (case ho => rfl); (case hg => rfl); (case hn => rfl); (case hr => first | (go_simp; done) | (go_simp; rfl)); intro w65 hw; have hg : w61.grownBy w65 (some go55) := (by rw [hw]; exact HP64.2); have hp_ : Kd.R (Kd.int .i64) 3 w65 w.heap.size (fun k_ => some k_ ≠ (v147 : Value).ownBlock) (.slice (some ⟨go55, 0, none⟩) x6_2.length co63) y162 := (by rw [hw, Ny162.out]; exact HP64.1); clear HP64; have n0_ := Aside0.mk (hp_); have n1_ := Aside0.mk (Kd.R_over' (v := (.slice (some ⟨go55, 0, none⟩) x6_2.length co63)) (by (with_reducible repeat (first | apply Kd.R_alloc | apply Kd.R_drewN | apply Kd.R_drew)); exact HO_7.out) (Kd.R_typed HO_6.out) (by decide) hg); have n2_ := Aside0.mk (Kd.R_over' (v := (.slice (some ⟨go55, 0, none⟩) x6_2.length co63)) (by (with_reducible repeat (first | apply Kd.R_alloc | apply Kd.R_drewN | apply Kd.R_drew)); exact HO_8.out) (Kd.R_typed HO_6.out) (by decide) hg); have n3_ := Aside0.mk (Kd.R_after (v := (.slice (some ⟨go55, 0, none⟩) x6_2.length co63)) (v1 := (.slice (some ⟨go55, 0, none⟩) x6_2.length co63)) (ok := (fun _ => True)) (by (with_reducible repeat (first | apply Kd.R_alloc | apply Kd.R_drewN | apply Kd.R_drew)); exact Kd.R_mono HO_9.out (fun _ hk => ⟨trivial, hk⟩)) hg (.inl rfl)); have n4_ := Aside0.mk ((by rw [hw]; exact below_set (HB.out) GB55.out : Below w.heap.size w w65)); clear HO_6; clear HO_7; clear HO_8; clear HO_9; clear HB; have HO_6 := n0_; have HO_7 := n1_; have HO_8 := n2_; have HO_9 := n3_; have HB := n4_; clear n0_ n1_ n2_ n3_ n4_; clear hg hw hp_; obtain ⟨Ao66, co66, eo66⟩ := Kd.R_slice HO_9.out; subst eo66; have p163 : 0 ≤ (x12_3 : Int) := of_decide_eq_true (by first | (with_reducible assumption) | assumption); have q163 : x12_3 < (x9_2.length : Int) := of_decide_eq_true (by first | (with_reducible assumption) | assumption); obtain ⟨ad163, e163, hx163_0⟩ := Kd.at_int (Kd.R_reads' HO_9.out).2.2 x12_3 p163 q163; cases e163; replace p163 := eq_true p163; replace q163 := eq_true q163; have p164 : 0 ≤ ((rd x9_2 x12_3) : Int) := of_decide_eq_true (by first | (with_reducible assumption) | assumption); have q164 : (rd x9_2 x12_3) < (y162.length : Int) := (by have h_ : ((rd x9_2 x12_3) : Int) < ((x6_2.length : Int) : Int) := of_decide_eq_true (by first | (with_reducible assumption) | assumption); first | (have e_ := (Kd.R_reads' HO_6.out).1; omega) | simpa only [Ny162.out, List.length_set] using h_); have ql164 : (((rd x9_2 x12_3) : Int) < ((x6_2.length : Int) : Int)) = True := eq_true (of_decide_eq_true (by first | (with_reducible assumption) | assumption)); obtain ⟨ad164, e164, hx164_0⟩ := Kd.at_int (Kd.R_reads' HO_6.out).2.2 (rd x9_2 x12_3) p164 q164; obtain rfl : (⟨go55, 0, none⟩ : Addr) = ad164 := (by injection e164); (first | simp only [add_plain] at hx164_0 | simp only [add_at] at hx164_0 | simp only [Addr.add, Nat.zero_add] at hx164_0 | skip); replace p164 := eq_true p164; replace q164 := eq_true q164; have p59 : 0 ≤ ((rd x9_2 x12_3) : Int) := of_decide_eq_true (by first | (with_reducible assumption) | assumption); have q59 : ((rd x9_2 x12_3) : Int) < ((x6_2.length : Int) : Int) := of_decide_eq_true (by first | (with_reducible assumption) | assumption); obtain ⟨hx59_0, hf59_0⟩ := Kd.R_celln 0 HO_6.out ((rd x9_2 x12_3) : Int) p59 q59; replace p59 := eq_true p59; replace q59 := eq_true q59; obtain ⟨hy67_, hz67_⟩ := Kd.R_celln 0 HO_6.out ((rd x9_2 x12_3) : Int) (of_decide_eq_true (by first | (with_reducible assumption) | assumption)) (of_decide_eq_true (by first | (with_reducible assumption) | assumption)); have HP67 := Kd.R_putg HO_6.out ((rd x9_2 x12_3) : Int) (wrap64 ((rd y162 (rd x9_2 x12_3)) + 1))) | ((with_reducible refine gate_store (t := 3) (p := 115) rfl ?_); refine store_event (t := 3) (p := 115) (v := ?vo_w68) (w1 := (w65.setCell ⟨go55, ((rd x9_2 x12_3) : Int).toNat, none⟩ (.int .i64 (wrap64 ((rd y162 (rd x9_2 x12_3)) + 1))))) ?hg ?ho ?hn ?hr ?_; (case ho => rfl); (case hg => rfl); (case hn => rfl); (case hr => first | (go_simp; done) | (go_simp; rfl)); intro w68 hw; have hg : w65.grownBy w68 (some go55) := (by rw [hw]; exact HP67.2); have hp_ : Kd.R (Kd.int .i64) 3 w68 w.heap.size (fun k_ => some k_ ≠ (.slice (some ad163) x9_2.length co66 : Value).ownBlock) (.slice (some ⟨go55, 0, none⟩) x6_2.length co63) y165 := (by rw [hw, Ny165.out]; exact HP67.1); clear HP67; have n0_ := Aside0.mk (hp_); have n1_ := Aside0.mk (Kd.R_over' (v := (.slice (some ⟨go55, 0, none⟩) x6_2.length co63)) (by (with_reducible repeat (first | apply Kd.R_alloc | apply Kd.R_drewN | apply Kd.R_drew)); exact HO_7.out) (Kd.R_typed HO_6.out) (by decide) hg); have n2_ := Aside0.mk (Kd.R_over' (v := (.slice (some ⟨go55, 0, none⟩) x6_2.length co63)) (by (with_reducible repeat (first | apply Kd.R_alloc | apply Kd.R_drewN | apply Kd.R_drew)); exact HO_8.out) (Kd.R_typed HO_6.out) (by decide) hg); have n3_ := Aside0.mk (Kd.R_after (v := (.slice (some ⟨go55, 0, none⟩) x6_2.length co63)) (v1 := (.slice (some ⟨go55, 0, none⟩) x6_2.length co63)) (ok := (fun _ => True)) (by (with_reducible repeat (first | apply Kd.R_alloc | apply Kd.R_drewN | apply Kd.R_drew)); exact HO_9.out) hg (.inl rfl)); have n4_ := Aside0.mk ((by rw [hw]; exact below_set (HB.out) GB55.out : Below w.heap.size w w68)); clear HO_6; clear HO_7; clear HO_8; clear HO_9; clear HB; have HO_6 := n0_; have HO_7 := n1_; have HO_8 := n2_; have HO_9 := n3_; have HB := n4_; clear n0_ n1_ n2_ n3_ n4_; clear hg hw hp_))
                      go_loopg [118] k3 (fun kq v118 w' => ∃ (x8_4 : List Int) (x9_4 : List Int) (x118_4 : Int), v118 = .int .i64 x118_4 ∧ Aside0 (tour_span.l3 kq l0 l1 y165 y159 x8_4 x9_4 (wrap64 (x11_2 + (rd x8_2 x12_3))) x12_3 (wrap64 ((l0.length : Int) - 1)) x63_2 (l0.length : Int) x118_4 = some (r1, r2)) ∧ Aside0 (kq ≤ k3) ∧ Aside0 (Kd.R (Kd.int .i64) 3 w' w.heap.size (fun k_ => some k_ ≠ ((.slice (some ad163) x9_2.length co66) : Value).ownBlock) (.slice (some ⟨go55, 0, none⟩) x6_2.length co63) y165) ∧ Aside0 (Kd.R Kd.bool 4 w' w.heap.size (fun _ => True) (.slice (some ⟨go10, 0, none⟩) x7_2.length co10) y159) ∧ Aside0 (Kd.R (Kd.int .i64) 2 w' w.heap.size (fun _ => True) (.slice (some ad160) x8_2.length co62) x8_4) ∧ Aside0 (Kd.R (Kd.int .i64) 3 w' w.heap.size (fun k_ => some k_ ≠ ((.slice (some ⟨go55, 0, none⟩) x6_2.length co63) : Value).ownBlock) (.slice (some ad163) x9_2.length co66) x9_4) ∧ Aside0 (Below w.heap.size w w'))
                      case atStart => exact ⟨(x8_2), (x9_2), (0), (by first | rfl | (simp; done) | (simp [*]; done)), H', ⟨Nat.le_refl _⟩, ⟨by (try simp only [hl7_1]); (try simp only [hl7_2]); (with_reducible repeat (first | apply Kd.R_alloc | apply Kd.R_drewN | apply Kd.R_drew)); exact HO_6.out⟩, ⟨by (try simp only [hl7_1]); (try simp only [hl7_2]); (with_reducible repeat (first | apply Kd.R_alloc | apply Kd.R_drewN | apply Kd.R_drew)); exact HO_7.out⟩, ⟨by (try simp only [hl7_1]); (try simp only [hl7_2]); (with_reducible repeat (first | apply Kd.R_alloc | apply Kd.R_drewN | apply Kd.R_drew)); exact HO_8.out⟩, ⟨by (try simp only [hl7_1]); (try simp only [hl7_2]); (with_reducible repeat (first | apply Kd.R_alloc | apply Kd.R_drewN | apply Kd.R_drew)); exact Kd.R_mono HO_9.out (fun _ hk => hk.2)⟩, ⟨by repeat (first | (with_reducible first | exact HB.out | apply below_alloc | apply pw_below_drewN | apply below_drew1) | exact HB.out)⟩⟩
                      case round =>
                       clear H'; try clear p1; try clear q1; try clear hx1; try clear p2; try clear c3; try clear q3; try clear c4; try clear c5; try clear p5; try clear q5; try clear hx5; try clear hf5; try clear p6; try clear p15; try clear q15; try clear hx15; try clear p16; try clear q16; try clear hx16; try clear c34; try clear c34b0; try clear c35; try clear c36; try clear q37; try clear c40
                       try clear c40b0; try clear c42; try clear c42b0; try clear c43; try clear c43b0; try clear c44; try clear c44b0; try clear c45; try clear c45b0; try clear c50; try clear c50b0; try clear c51; try clear c51b0; try clear p52; try clear q52; try clear hx52; try clear hf52; try clear c53; try clear c53b0; try clear c54; try clear c54b0; try clear p55; try clear q55; try clear hx55
                       try clear hf55; try clear c56; try clear c56b0; try clear c57; try clear c57b0; try clear c58; try clear c58b0; try clear p59; try clear q59; try clear hx59; try clear hf59; try clear p64; try clear hx156_0; try clear hx157_0; try clear hx158_0; try clear hx160_0; try clear hx161_0; try clear hx163_0; try clear hx164_0; try clear hx52_0; try clear hx55_0; try clear hx59_0; try clear p156
                       try clear p157; try clear p158; try clear p160; try clear p161; try clear p163; try clear p164; try clear p52; try clear p55; try clear p59; try clear q156; try clear q157; try clear q158; try clear q160; try clear q161; try clear q163; try clear q164; try clear q52; try clear q55; try clear q59
                       obtain ⟨x8_4, x9_4, x118_4, rfl, HA, HK4, HO_6, HO_7, HO_8, HO_9, HB⟩ := hrel
                       have hl6_4 := (Kd.R_reads' HO_6.out).1
                       rw [hl6_4] at HO_6
                       (try simp only [hl6_4])
                       (try simp only [hl6_4] at HO_7)
                       (try simp only [hl6_4] at HO_8)
                       (try simp only [hl6_4] at HO_9)
                       have hl7_4 := (Kd.R_reads' HO_7.out).1
                       rw [hl7_4] at HO_7
                       (try simp only [hl7_4])
                       (try simp only [hl7_4] at HO_6)
                       (try simp only [hl7_4] at HO_8)
                       (try simp only [hl7_4] at HO_9)
                       have hl8_4 := (Kd.R_reads' HO_8.out).1
                       rw [hl8_4] at HO_8
                       (try simp only [hl8_4])
                       (try simp only [hl8_4] at HO_6)
                       (try simp only [hl8_4] at HO_7)
                       (try simp only [hl8_4] at HO_9)
                       have hl9_4 := (Kd.R_reads' HO_9.out).1
                       rw [hl9_4] at HO_9
                       (try simp only [hl9_4])
                       (try simp only [hl9_4] at HO_6)
                       (try simp only [hl9_4] at HO_7)
                       (try simp only [hl9_4] at HO_8)
                       cases gk with
                       | zero => exact absurd HA.out (by simp [tour_span.l3])
                       | succ k4 =>
                        have H := HA.out
                        clear HA
                        simp only [tour_span.l3] at H
                        by_cases c69 : x118_4 < (l0.length : Int)
                        ·rw [if_pos c69] at H
                         have c69b0 : decide (x118_4 < (l0.length : Int)) = true := decide_eq_true c69
                         clear c69
                         by_cases c70 : 0 ≤ x12_3
                         ·rw [if_pos c70] at H
                          have c70b0 : decide (0 ≤ x12_3) = true := decide_eq_true c70
                          clear c70
                          by_cases c71 : x12_3 < (l0.length : Int)
                          ·rw [if_pos c71] at H
                           have c71b0 : decide (x12_3 < (l0.length : Int)) = true := decide_eq_true c71
                           clear c71
                           by_cases c72 : 0 ≤ x118_4
                           ·rw [if_pos c72] at H
                            have c72b0 : decide (0 ≤ x118_4) = true := decide_eq_true c72
                            clear c72
                            by_cases c73 : x118_4 < (l0.length : Int)
                            ·rw [if_pos c73] at H
                             have c73b0 : decide (x118_4 < (l0.length : Int)) = true := decide_eq_true c73
                             clear c73; replace H := Option.bind_eq_some_iff.mp H
                             obtain ⟨t168, A740, H⟩ := H
                             replace H : (if x12_3 < (l1.length : Int) then (if x118_4 < (l1.length : Int) then (if x118_4 < (y159.length : Int) then (if rdOf false y159 x118_4 = true then (tour_span.l3 k4 l0 l1 y165 y159 x8_4 x9_4 (wrap64 (x11_2 + (rd x8_2 x12_3))) x12_3 (wrap64 ((l0.length : Int) - 1)) x63_2 (l0.length : Int) (wrap64 (x118_4 + 1))) else (if x118_4 < (x8_4.length : Int) then (if (wrap64 ((wrap64 (t168 + (rd l1 x12_3))) + (rd l1 x118_4))) < (rd x8_4 x118_4) then (if x118_4 < (x9_4.length : Int) then (tour_span.l3 k4 l0 l1 y165 y159 (x8_4.set (x118_4 : Int).toNat (wrap64 ((wrap64 (t168 + (rd l1 x12_3))) + (rd l1 x118_4)))) (x9_4.set (x118_4 : Int).toNat x12_3) (wrap64 (x11_2 + (rd x8_2 x12_3))) x12_3 (wrap64 ((l0.length : Int) - 1)) x63_2 (l0.length : Int) (wrap64 (x118_4 + 1))) else (none)) else (tour_span.l3 k4 l0 l1 y165 y159 x8_4 x9_4 (wrap64 (x11_2 + (rd x8_2 x12_3))) x12_3 (wrap64 ((l0.length : Int) - 1)) x63_2 (l0.length : Int) (wrap64 (x118_4 + 1)))) else (none))) else (none)) else (none)) else (none)) = some (r1, r2) := H
                             have A74 := Aside0.mk A740; clear A740
                             by_cases c75 : x12_3 < (l1.length : Int)
                             ·rw [if_pos c75] at H
                              have c75b0 : decide (x12_3 < (l1.length : Int)) = true := decide_eq_true c75
                              clear c75
                              by_cases c76 : x118_4 < (l1.length : Int)
                              ·rw [if_pos c76] at H
                               have c76b0 : decide (x118_4 < (l1.length : Int)) = true := decide_eq_true c76
                               clear c76
                               by_cases c77 : x118_4 < (y159.length : Int)
                               ·rw [if_pos c77] at H
                                have c77b0 : decide (x118_4 < (y159.length : Int)) = true := decide_eq_true c77
                                clear c77
                                obtain ⟨bq78, hbq78⟩ : ∃ b_ : Bool, b_ = (rdOf false y159 x118_4) := ⟨_, rfl⟩
                                replace H : (if bq78 = true then (tour_span.l3 k4 l0 l1 y165 y159 x8_4 x9_4 (wrap64 (x11_2 + (rd x8_2 x12_3))) x12_3 (wrap64 ((l0.length : Int) - 1)) x63_2 (l0.length : Int) (wrap64 (x118_4 + 1))) else (if x118_4 < (x8_4.length : Int) then (if (wrap64 ((wrap64 (t168 + (rd l1 x12_3))) + (rd l1 x118_4))) < (rd x8_4 x118_4) then (if x118_4 < (x9_4.length : Int) then (tour_span.l3 k4 l0 l1 y165 y159 (x8_4.set (x118_4 : Int).toNat (wrap64 ((wrap64 (t168 + (rd l1 x12_3))) + (rd l1 x118_4)))) (x9_4.set (x118_4 : Int).toNat x12_3) (wrap64 (x11_2 + (rd x8_2 x12_3))) x12_3 (wrap64 ((l0.length : Int) - 1)) x63_2 (l0.length : Int) (wrap64 (x118_4 + 1))) else (none)) else (tour_span.l3 k4 l0 l1 y165 y159 x8_4 x9_4 (wrap64 (x11_2 + (rd x8_2 x12_3))) x12_3 (wrap64 ((l0.length : Int) - 1)) x63_2 (l0.length : Int) (wrap64 (x118_4 + 1)))) else (none))) = some (r1, r2) := by rw [← hbq78] at H; exact H
                                have Nbq78 := Aside0.mk hbq78; clear hbq78
                                by_cases c79 : bq78 = true
                                ·subst c79
                                 have H1 : (tour_span.l3 k4 l0 l1 y165 y159 x8_4 x9_4 (wrap64 (x11_2 + (rd x8_2 x12_3))) x12_3 (wrap64 ((l0.length : Int) - 1)) x63_2 (l0.length : Int) (wrap64 (x118_4 + 1))) = some (r1, r2) := by rw [if_pos rfl] at H; exact H
                                 clear H; have H := H1; clear H1; have H' := Aside0.mk H; clear H
                                 try go_wp2
                                 have n0_ := Aside0.mk (Kd.R_drew HO_6.out)
                                 have n1_ := Aside0.mk (Kd.R_drew HO_7.out)
                                 have n2_ := Aside0.mk (Kd.R_drew HO_8.out)
                                 have n3_ := Aside0.mk (Kd.R_drew HO_9.out)
                                 have n4_ := Aside0.mk (below_drew1 HB.out)
                                 clear HO_6; clear HO_7; clear HO_8; clear HO_9; clear HB; have HO_6 := n0_; have HO_7 := n1_; have HO_8 := n2_; have HO_9 := n3_; have HB := n4_; clear n0_ n1_ n2_ n3_ n4_
                                 have p166 : 0 ≤ (x12_3 : Int) := of_decide_eq_true (by first | (with_reducible assumption) | assumption)
                                 have q166 : x12_3 < (l0.length : Int) := of_decide_eq_true (by first | (with_reducible assumption) | assumption)
                                 obtain ⟨ad166, e166, hx166_0, hx166_1⟩ := at_T31 HR0.out x12_3 p166 q166
                                 have hw166_1 := hx166_1; have hw166_0 := hx166_0; cases e166
                                 replace hx166_0 := (HB.out.cell (World.block_lt_of_cell? w _ hx166_0)).trans hx166_0
                                 replace hx166_1 := (HB.out.cell (World.block_lt_of_cell? w _ hx166_1)).trans hx166_1
                                 replace p166 := eq_true p166; replace q166 := eq_true q166
                                 have p167 : 0 ≤ (x118_4 : Int) := of_decide_eq_true (by first | (with_reducible assumption) | assumption)
                                 have q167 : x118_4 < (l0.length : Int) := of_decide_eq_true (by first | (with_reducible assumption) | assumption)
                                 obtain ⟨ad167, e167, hx167_0, hx167_1⟩ := at_T31 HR0.out x118_4 p167 q167
                                 have hw167_1 := hx167_1; have hw167_0 := hx167_0
                                 obtain rfl : ad166 = ad167 := (by injection e167)
                                 replace hx167_0 := (HB.out.cell (World.block_lt_of_cell? w _ hx167_0)).trans hx167_0
                                 replace hx167_1 := (HB.out.cell (World.block_lt_of_cell? w _ hx167_1)).trans hx167_1
                                 replace p167 := eq_true p167; replace q167 := eq_true q167
                                 have p169 : 0 ≤ (x12_3 : Int) := of_decide_eq_true (by first | (with_reducible assumption) | assumption)
                                 have q169 : x12_3 < (l1.length : Int) := of_decide_eq_true (by first | (with_reducible assumption) | assumption)
                                 obtain ⟨ad169, e169, hx169_0⟩ := Kd.at_int HR1.out x12_3 p169 q169
                                 have hw169_0 := hx169_0; cases e169
                                 replace hx169_0 := (HB.out.cell (World.block_lt_of_cell? w _ hx169_0)).trans hx169_0
                                 replace p169 := eq_true p169; replace q169 := eq_true q169
                                 have p170 : 0 ≤ (x118_4 : Int) := of_decide_eq_true (by first | (with_reducible assumption) | assumption)
                                 have q170 : x118_4 < (l1.length : Int) := of_decide_eq_true (by first | (with_reducible assumption) | assumption)
                                 obtain ⟨ad170, e170, hx170_0⟩ := Kd.at_int HR1.out x118_4 p170 q170
                                 have hw170_0 := hx170_0
                                 obtain rfl : ad169 = ad170 := (by injection e170)
                                 replace hx170_0 := (HB.out.cell (World.block_lt_of_cell? w _ hx170_0)).trans hx170_0
                                 replace p170 := eq_true p170; replace q170 := eq_true q170
                                 refine start_ (n := 20) (S := fun w' => w'.cell? (ad166.add ((x12_3).toNat * 2)) = some (.int .i64 ((rd_T31 l0 x12_3).f0)) ∧ w'.cell? ⟨(ad166.add ((x12_3).toNat * 2)).block, (ad166.add ((x12_3).toNat * 2)).off + 1, none⟩ = some (.int .i64 ((rd_T31 l0 x12_3).f1)) ∧ w'.cell? (ad166.add ((x118_4).toNat * 2)) = some (.int .i64 ((rd_T31 l0 x118_4).f0)) ∧ w'.cell? ⟨(ad166.add ((x118_4).toNat * 2)).block, (ad166.add ((x118_4).toNat * 2)).off + 1, none⟩ = some (.int .i64 ((rd_T31 l0 x118_4).f1)) ∧ w'.cell? (ad169.add (x12_3).toNat) = some (.int .i64 (rd l1 x12_3)) ∧ w'.cell? (ad169.add (x118_4).toNat) = some (.int .i64 (rd l1 x118_4))) (ds := []) #[false, false, false, false, false, false, false, false, false, false, false, false, false, false, false, false, false, false, false, false] (by kernel_rfl) rfl rfl ⟨((HB.out.cell (World.block_lt_of_cell? w _ hw166_0)).trans hw166_0), ((HB.out.cell (World.block_lt_of_cell? w _ hw166_1)).trans hw166_1), ((HB.out.cell (World.block_lt_of_cell? w _ hw167_0)).trans hw167_0), ((HB.out.cell (World.block_lt_of_cell? w _ hw167_1)).trans hw167_1), ((HB.out.cell (World.block_lt_of_cell? w _ hw169_0)).trans hw169_0), ((HB.out.cell (World.block_lt_of_cell? w _ hw170_0)).trans hw170_0)⟩ (fun hHeld => ?_); refine with_tabW tour_span.tab30 tour_span.bits30 (fun HT_ HW_ => ?_)
                                 generalize wr.drew = w80 at HO_6 HO_7 HO_8 HO_9 HB hx166_0 hx166_1 hx167_0 hx167_1 hx169_0 hx170_0 hHeld ⊢
                                 refine pure_ (i := 0) (N := some 121) (v := ?_) (a' := ?_) #[true, false, false, false, false, false, false, false, false, false, false, false, false, false, false, false, false, false, false, false] rfl rfl (any_of HT_.out (by kernel_rfl)) (fun _ _ _ h => h) (Or.inl ⟨by rfl, ?_⟩) ?_ ?_
                                 rotate_left; ·intro w'; go_simp; with_reducible rfl
                                 rotate_left; ·simp only [Act.put, sA_, sZ_, sS_, i64_w, i32_w]; rfl
                                 refine pure_ (i := 1) (N := some 122) (v := ?_) (a' := ?_) #[true, true, false, false, false, false, false, false, false, false, false, false, false, false, false, false, false, false, false, false] rfl rfl (any_of HT_.out (by kernel_rfl)) (fun _ _ _ h => h) (Or.inl ⟨by rfl, ?_⟩) ?_ ?_
                                 rotate_left; ·intro w'; go_simp; with_reducible rfl
                                 rotate_left; ·simp only [Act.put, sA_, sZ_, sS_, i64_w, i32_w]; rfl
                                 refine pure_ (i := 2) (N := some 123) (v := ?_) (a' := ?_) #[true, true, true, false, false, false, false, false, false, false, false, false, false, false, false, false, false, false, false, false] rfl rfl (any_of HT_.out (by kernel_rfl)) (fun _ _ _ h => h) (Or.inl ⟨by rfl, ?_⟩) ?_ ?_
                                 rotate_left; ·intro w'; go_simp; with_reducible rfl
                                 rotate_left; ·simp only [Act.put, sA_, sZ_, sS_, i64_w, i32_w]; rfl
                                 refine pure_ (i := 4) (N := some 125) (v := ?_) (a' := ?_) #[true, true, true, false, true, false, false, false, false, false, false, false, false, false, false, false, false, false, false, false] rfl rfl (any_of HT_.out (by kernel_rfl)) (fun _ _ _ h => h) (Or.inl ⟨by rfl, ?_⟩) ?_ ?_
                                 rotate_left; ·intro w'; go_simp; with_reducible rfl
                                 rotate_left; ·simp only [Act.put, sA_, sZ_, sS_, i64_w, i32_w]; rfl
                                 refine pure_ (i := 5) (N := some 126) (v := ?_) (a' := ?_) #[true, true, true, false, true, true, false, false, false, false, false, false, false, false, false, false, false, false, false, false] rfl rfl (any_of HT_.out (by kernel_rfl)) (fun _ _ _ h => h) (Or.inl ⟨by rfl, ?_⟩) ?_ ?_
                                 rotate_left; ·intro w'; go_simp; with_reducible rfl
                                 rotate_left; ·simp only [Act.put, sA_, sZ_, sS_, i64_w, i32_w]; rfl
                                 refine pure_ (i := 6) (N := some 127) (v := ?_) (a' := ?_) #[true, true, true, false, true, true, true, false, false, false, false, false, false, false, false, false, false, false, false, false] rfl rfl (any_of HT_.out (by kernel_rfl)) (fun _ _ _ h => h) (Or.inl ⟨by rfl, ?_⟩) ?_ ?_
                                 rotate_left; ·intro w'; go_simp; with_reducible rfl
                                 rotate_left; ·simp only [Act.put, sA_, sZ_, sS_, i64_w, i32_w]; rfl
                                 refine pure_ (i := 9) (N := some 130) (v := ?_) (a' := ?_) #[true, true, true, false, true, true, true, false, false, true, false, false, false, false, false, false, false, false, false, false] rfl rfl (any_of HT_.out (by kernel_rfl)) (fun _ _ _ h => h) (Or.inl ⟨by rfl, ?_⟩) ?_ ?_
                                 rotate_left; ·intro w'; go_simp; with_reducible rfl
                                 rotate_left; ·simp only [Act.put, sA_, sZ_, sS_, i64_w, i32_w]; rfl
                                 refine pure_ (i := 10) (N := some 131) (v := ?_) (a' := ?_) #[true, true, true, false, true, true, true, false, false, true, true, false, false, false, false, false, false, false, false, false] rfl rfl (any_of HT_.out (by kernel_rfl)) (fun _ _ _ h => h) (Or.inl ⟨by rfl, ?_⟩) ?_ ?_
                                 rotate_left; ·intro w'; go_simp; with_reducible rfl
                                 rotate_left; ·simp only [Act.put, sA_, sZ_, sS_, i64_w, i32_w]; rfl
                                 refine pure_ (i := 11) (N := some 132) (v := ?_) (a' := ?_) #[true, true, true, false, true, true, true, false, false, true, true, true, false, false, false, false, false, false, false, false] rfl rfl (any_of HT_.out (by kernel_rfl)) (fun _ _ _ h => h) (Or.inl ⟨by rfl, ?_⟩) ?_ ?_
                                 rotate_left; ·intro w'; go_simp; with_reducible rfl
                                 rotate_left; ·simp only [Act.put, sA_, sZ_, sS_, i64_w, i32_w]; rfl
                                 refine pure_ (i := 14) (N := some 135) (v := ?_) (a' := ?_) #[true, true, true, false, true, true, true, false, false, true, true, true, false, false, true, false, false, false, false, false] rfl rfl (any_of HT_.out (by kernel_rfl)) (fun _ _ _ h => h) (Or.inl ⟨by rfl, ?_⟩) ?_ ?_
                                 rotate_left; ·intro w'; go_simp; with_reducible rfl
                                 rotate_left; ·simp only [Act.put, sA_, sZ_, sS_, i64_w, i32_w]; rfl
                                 refine pure_ (i := 15) (N := some 136) (v := ?_) (a' := ?_) #[true, true, true, false, true, true, true, false, false, true, true, true, false, false, true, true, false, false, false, false] rfl rfl (any_of HT_.out (by kernel_rfl)) (fun _ _ _ h => h) (Or.inl ⟨by rfl, ?_⟩) ?_ ?_
                                 rotate_left; ·intro w'; go_simp; with_reducible rfl
                                 rotate_left; ·simp only [Act.put, sA_, sZ_, sS_, i64_w, i32_w]; rfl
                                 refine pure_ (i := 16) (N := some 137) (v := ?_) (a' := ?_) #[true, true, true, false, true, true, true, false, false, true, true, true, false, false, true, true, true, false, false, false] rfl rfl (any_of HT_.out (by kernel_rfl)) (fun _ _ _ h => h) (Or.inl ⟨by rfl, ?_⟩) ?_ ?_
                                 rotate_left; ·intro w'; go_simp; with_reducible rfl
                                 rotate_left; ·simp only [Act.put, sA_, sZ_, sS_, i64_w, i32_w]; rfl
                                 refine take_ (i := 3) (N := some 124) (v := ?_) (a' := ?_) #[true, true, true, true, true, true, true, false, false, true, true, true, false, false, true, true, true, false, false, false] rfl rfl (take_ofW HT_.out HW_.out (by kernel_rfl)) (fun _ _ _ h => h) (Or.inl ⟨by rfl, ?_⟩) hHeld ?_ ?_
                                 rotate_left
                                 ·rintro w' ⟨s0, s1, s2, s3, s4, s5⟩; go_simp; with_reducible rfl
                                 rotate_left; ·simp only [Act.put, sA_, sZ_, sS_, i64_w, i32_w]; rfl
                                 refine take_ (i := 7) (N := some 128) (v := ?_) (a' := ?_) #[true, true, true, true, true, true, true, true, false, true, true, true, false, false, true, true, true, false, false, false] rfl rfl (take_ofW HT_.out HW_.out (by kernel_rfl)) (fun _ _ _ h => h) (Or.inl ⟨by rfl, ?_⟩) hHeld ?_ ?_
                                 rotate_left
                                 ·rintro w' ⟨s0, s1, s2, s3, s4, s5⟩; go_simp; with_reducible rfl
                                 rotate_left; ·simp only [Act.put, sA_, sZ_, sS_, i64_w, i32_w]; rfl
                                 refine take_ (i := 12) (N := some 133) (v := ?_) (a' := ?_) #[true, true, true, true, true, true, true, true, false, true, true, true, true, false, true, true, true, false, false, false] rfl rfl (take_ofW HT_.out HW_.out (by kernel_rfl)) (fun _ _ _ h => h) (Or.inl ⟨by rfl, ?_⟩) hHeld ?_ ?_
                                 rotate_left
                                 ·rintro w' ⟨s0, s1, s2, s3, s4, s5⟩; go_simp; with_reducible rfl
                                 rotate_left; ·simp only [Act.put, sA_, sZ_, sS_, i64_w, i32_w]; rfl
                                 refine take_ (i := 17) (N := some 138) (v := ?_) (a' := ?_) #[true, true, true, true, true, true, true, true, false, true, true, true, true, false, true, true, true, true, false, false] rfl rfl (take_ofW HT_.out HW_.out (by kernel_rfl)) (fun _ _ _ h => h) (Or.inl ⟨by rfl, ?_⟩) hHeld ?_ ?_
                                 rotate_left
                                 ·rintro w' ⟨s0, s1, s2, s3, s4, s5⟩; go_simp; with_reducible rfl
                                 rotate_left; ·simp only [Act.put, sA_, sZ_, sS_, i64_w, i32_w]; rfl
                                 refine one_ (i := 8) (N := some 129) #[true, true, true, true, true, true, true, true, true, true, true, true, true, false, true, true, true, true, false, false] rfl rfl (one_of HT_.out (by kernel_rfl)) (by decide) (fun K hK => ?_)
                                 refine goes_ Try.func15 (by kernel_rfl) rfl #[.agg #[.int .i64 ((rd_T31 l0 x12_3).f0), .int .i64 ((rd_T31 l0 x12_3).f1)], .agg #[.int .i64 ((rd_T31 l0 x118_4).f0), .int .i64 ((rd_T31 l0 x118_4).f1)]] (by rfl) rfl rfl (by (try simp only [List.map_toArray, List.map_cons, List.map_nil]); first | done | rfl | (simp only [List.length_drop, List.length_take]; rfl)) ?_
                                 with_reducible refine (tour_Distance.calls ((rd_T31 l0 x12_3).f0) ((rd_T31 l0 x12_3).f1) ((rd_T31 l0 x118_4).f0) ((rd_T31 l0 x118_4).f1) t168 _ A74.out).mono ?_
                                 rintro e w81 ⟨rfl, hb⟩
                                 refine ⟨_, rfl, ?_⟩
                                 have n0_ := Aside0.mk (Kd.R_below (by (with_reducible repeat (first | apply Kd.R_alloc | apply Kd.R_drewN | apply Kd.R_drew)); exact HO_6.out) hb)
                                 have n1_ := Aside0.mk (Kd.R_below (by (with_reducible repeat (first | apply Kd.R_alloc | apply Kd.R_drewN | apply Kd.R_drew)); exact HO_7.out) hb)
                                 have n2_ := Aside0.mk (Kd.R_below (by (with_reducible repeat (first | apply Kd.R_alloc | apply Kd.R_drewN | apply Kd.R_drew)); exact HO_8.out) hb)
                                 have n3_ := Aside0.mk (Kd.R_below (by (with_reducible repeat (first | apply Kd.R_alloc | apply Kd.R_drewN | apply Kd.R_drew)); exact HO_9.out) hb)
                                 have n4_ := Aside0.mk (below_step (by repeat (first | (with_reducible first | exact HB.out | apply below_alloc | apply pw_below_drewN | apply below_drew1) | exact HB.out)) hb)
                                 clear HO_6; clear HO_7; clear HO_8; clear HO_9; clear HB; have HO_6 := n0_; have HO_7 := n1_; have HO_8 := n2_; have HO_9 := n3_; have HB := n4_; clear n0_ n1_ n2_ n3_ n4_; (try clear hb); (try clear hb2); (try clear hk); (try clear hi)
                                 refine hK.out _ _ ⟨((HB.out.cell (World.block_lt_of_cell? w _ hw166_0)).trans hw166_0), ((HB.out.cell (World.block_lt_of_cell? w _ hw166_1)).trans hw166_1), ((HB.out.cell (World.block_lt_of_cell? w _ hw167_0)).trans hw167_0), ((HB.out.cell (World.block_lt_of_cell? w _ hw167_1)).trans hw167_1), ((HB.out.cell (World.block_lt_of_cell? w _ hw169_0)).trans hw169_0), ((HB.out.cell (World.block_lt_of_cell? w _ hw170_0)).trans hw170_0)⟩ (fun hHeld => ?_)
                                 clear hK K
                                 refine norm_ (a' := ?_) ?_ ?_
                                 rotate_left
                                 ·show Act.put _ (some 129) _ = _
                                  simp only [Act.put, sA_, sZ_, sS_, i64_w, i32_w]; rfl
                                 refine pure_ (i := 13) (N := some 134) (v := ?_) (a' := ?_) #[true, true, true, true, true, true, true, true, true, true, true, true, true, true, true, true, true, true, false, false] rfl rfl (any_of HT_.out (by kernel_rfl)) (fun _ _ _ h => h) (Or.inl ⟨by rfl, ?_⟩) ?_ ?_
                                 rotate_left; ·intro w'; go_simp; with_reducible rfl
                                 rotate_left; ·simp only [Act.put, sA_, sZ_, sS_, i64_w, i32_w]; rfl
                                 refine pure_ (i := 18) (N := some 139) (v := ?_) (a' := ?_) #[true, true, true, true, true, true, true, true, true, true, true, true, true, true, true, true, true, true, true, false] rfl rfl (any_of HT_.out (by kernel_rfl)) (fun _ _ _ h => h) (Or.inl ⟨by rfl, ?_⟩) ?_ ?_
                                 rotate_left; ·intro w'; go_simp; with_reducible rfl
                                 rotate_left; ·simp only [Act.put, sA_, sZ_, sS_, i64_w, i32_w]; rfl
                                 refine pure_ (i := 19) (N := some 15) (v := ?_) (a' := ?_) #[true, true, true, true, true, true, true, true, true, true, true, true, true, true, true, true, true, true, true, true] rfl rfl (any_of HT_.out (by kernel_rfl)) (fun _ _ _ h => h) (Or.inl ⟨by rfl, ?_⟩) ?_ ?_
                                 rotate_left; ·intro w'; go_simp; with_reducible rfl
                                 rotate_left; ·simp only [Act.put, sA_, sZ_, sS_, i64_w, i32_w]; rfl
                                 refine done_ (done_of HT_.out (by kernel_rfl)) ?_
                                 have p171 : 0 ≤ (x118_4 : Int) := of_decide_eq_true (by first | (with_reducible assumption) | assumption)
                                 have q171 : x118_4 < (y159.length : Int) := of_decide_eq_true (by first | (with_reducible assumption) | assumption)
                                 obtain ⟨ad171, e171, hx171_0⟩ := Kd.at_bool (Kd.R_reads' HO_7.out).2.2 x118_4 p171 q171
                                 (try rw [← Nbq78.out] at hx171_0)
                                 obtain rfl : (⟨go10, 0, none⟩ : Addr) = ad171 := (by injection e171)
                                 (first | simp only [add_plain] at hx171_0 | simp only [add_at] at hx171_0 | simp only [Addr.add, Nat.zero_add] at hx171_0 | skip)
                                 replace p171 := eq_true p171; replace q171 := eq_true q171
                                 try go_wp2
                                 (try simp only [← hl6_4, ← hl7_4, ← hl8_4, ← hl9_4])
                                 go_roundg k4
                                 case measure => have := HK1.out; have := HK2.out; have := HK3.out; have := HK4.out; omega
                                 case rel => exact ⟨(x8_4), (x9_4), (wrap64 (x118_4 + 1)), (by first | rfl | (simp; done) | (simp [*]; done)), H', ⟨by have := HK1.out; have := HK2.out; have := HK3.out; have := HK4.out; omega⟩, ⟨by (try simp only [hl7_1]); (try simp only [hl7_2]); (try simp only [hl6_4]); (try simp only [hl7_4]); (try simp only [hl8_4]); (try simp only [hl9_4]); (with_reducible repeat (first | apply Kd.R_alloc | apply Kd.R_drewN | apply Kd.R_drew)); exact HO_6.out⟩, ⟨by (try simp only [hl7_1]); (try simp only [hl7_2]); (try simp only [hl6_4]); (try simp only [hl7_4]); (try simp only [hl8_4]); (try simp only [hl9_4]); (with_reducible repeat (first | apply Kd.R_alloc | apply Kd.R_drewN | apply Kd.R_drew)); exact HO_7.out⟩, ⟨by (try simp only [hl7_1]); (try simp only [hl7_2]); (try simp only [hl6_4]); (try simp only [hl7_4]); (try simp only [hl8_4]); (try simp only [hl9_4]); (with_reducible repeat (first | apply Kd.R_alloc | apply Kd.R_drewN | apply Kd.R_drew)); exact HO_8.out⟩, ⟨by (try simp only [hl7_1]); (try simp only [hl7_2]); (try simp only [hl6_4]); (try simp only [hl7_4]); (try simp only [hl8_4]); (try simp only [hl9_4]); (with_reducible repeat (first | apply Kd.R_alloc | apply Kd.R_drewN | apply Kd.R_drew)); exact HO_9.out⟩, ⟨by repeat (first | (with_reducible first | exact HB.out | apply below_alloc | apply pw_below_drewN | apply below_drew1) | exact HB.out)⟩⟩
                                ·replace c79 := Bool.eq_false_iff.mpr c79
                                 subst c79
                                 have H1 : (if x118_4 < (x8_4.length : Int) then (if (wrap64 ((wrap64 (t168 + (rd l1 x12_3))) + (rd l1 x118_4))) < (rd x8_4 x118_4) then (if x118_4 < (x9_4.length : Int) then (tour_span.l3 k4 l0 l1 y165 y159 (x8_4.set (x118_4 : Int).toNat (wrap64 ((wrap64 (t168 + (rd l1 x12_3))) + (rd l1 x118_4)))) (x9_4.set (x118_4 : Int).toNat x12_3) (wrap64 (x11_2 + (rd x8_2 x12_3))) x12_3 (wrap64 ((l0.length : Int) - 1)) x63_2 (l0.length : Int) (wrap64 (x118_4 + 1))) else (none)) else (tour_span.l3 k4 l0 l1 y165 y159 x8_4 x9_4 (wrap64 (x11_2 + (rd x8_2 x12_3))) x12_3 (wrap64 ((l0.length : Int) - 1)) x63_2 (l0.length : Int) (wrap64 (x118_4 + 1)))) else (none)) = some (r1, r2) := by rw [if_neg (show ¬ (false = true) by decide)] at H; exact H
                                 clear H; have H := H1; clear H1
                                 by_cases c82 : x118_4 < (x8_4.length : Int)
                                 ·rw [if_pos c82] at H
                                  have c82b0 : decide (x118_4 < (x8_4.length : Int)) = true := decide_eq_true c82
                                  clear c82
                                  by_cases c83 : (wrap64 ((wrap64 (t168 + (rd l1 x12_3))) + (rd l1 x118_4))) < (rd x8_4 x118_4)
                                  ·rw [if_pos c83] at H
                                   have c83b0 : decide ((wrap64 ((wrap64 (t168 + (rd l1 x12_3))) + (rd l1 x118_4))) < (rd x8_4 x118_4)) = true := decide_eq_true c83
                                   clear c83
                                   obtain ⟨y173, hy173⟩ : ∃ y_ : List Int, y_ = (x8_4.set (x118_4 : Int).toNat (wrap64 ((wrap64 (t168 + (rd l1 x12_3))) + (rd l1 x118_4)))) := ⟨_, rfl⟩
                                   replace H : (if x118_4 < (x9_4.length : Int) then (tour_span.l3 k4 l0 l1 y165 y159 y173 (x9_4.set (x118_4 : Int).toNat x12_3) (wrap64 (x11_2 + (rd x8_2 x12_3))) x12_3 (wrap64 ((l0.length : Int) - 1)) x63_2 (l0.length : Int) (wrap64 (x118_4 + 1))) else (none)) = some (r1, r2) := by first | (rw [hy173]; with_reducible exact H) | (have H2_ := (Option.bind_some _ _).symm.trans H; rw [hy173]; with_reducible exact H2_) | (have H2_ := (Option.bind_some _ _).symm.trans H; with_reducible exact H2_) | with_reducible exact H | (rw [hy173]; exact H) | exact H
                                   have Ny173 := Aside0.mk hy173; clear hy173
                                   by_cases c85 : x118_4 < (x9_4.length : Int)
                                   ·rw [if_pos c85] at H
                                    have c85b0 : decide (x118_4 < (x9_4.length : Int)) = true := decide_eq_true c85
                                    clear c85
                                    obtain ⟨y174, hy174⟩ : ∃ y_ : List Int, y_ = (x9_4.set (x118_4 : Int).toNat x12_3) := ⟨_, rfl⟩
                                    replace H : (tour_span.l3 k4 l0 l1 y165 y159 y173 y174 (wrap64 (x11_2 + (rd x8_2 x12_3))) x12_3 (wrap64 ((l0.length : Int) - 1)) x63_2 (l0.length : Int) (wrap64 (x118_4 + 1))) = some (r1, r2) := by first | (rw [hy174]; with_reducible exact H) | (have H2_ := (Option.bind_some _ _).symm.trans H; rw [hy174]; with_reducible exact H2_) | (have H2_ := (Option.bind_some _ _).symm.trans H; with_reducible exact H2_) | with_reducible exact H | (rw [hy174]; exact H) | exact H
                                    have Ny174 := Aside0.mk hy174; clear hy174; have H' := Aside0.mk H; clear H
                                    try go_wp2
                                    have n0_ := Aside0.mk (Kd.R_drew HO_6.out)
                                    have n1_ := Aside0.mk (Kd.R_drew HO_7.out)
                                    have n2_ := Aside0.mk (Kd.R_drew HO_8.out)
                                    have n3_ := Aside0.mk (Kd.R_drew HO_9.out)
                                    have n4_ := Aside0.mk (below_drew1 HB.out)
                                    clear HO_6; clear HO_7; clear HO_8; clear HO_9; clear HB; have HO_6 := n0_; have HO_7 := n1_; have HO_8 := n2_; have HO_9 := n3_; have HB := n4_; clear n0_ n1_ n2_ n3_ n4_
                                    have p166 : 0 ≤ (x12_3 : Int) := of_decide_eq_true (by first | (with_reducible assumption) | assumption)
                                    have q166 : x12_3 < (l0.length : Int) := of_decide_eq_true (by first | (with_reducible assumption) | assumption)
                                    obtain ⟨ad166, e166, hx166_0, hx166_1⟩ := at_T31 HR0.out x12_3 p166 q166
                                    have hw166_1 := hx166_1; have hw166_0 := hx166_0; cases e166
                                    replace hx166_0 := (HB.out.cell (World.block_lt_of_cell? w _ hx166_0)).trans hx166_0
                                    replace hx166_1 := (HB.out.cell (World.block_lt_of_cell? w _ hx166_1)).trans hx166_1
                                    replace p166 := eq_true p166; replace q166 := eq_true q166
                                    have p167 : 0 ≤ (x118_4 : Int) := of_decide_eq_true (by first | (with_reducible assumption) | assumption)
                                    have q167 : x118_4 < (l0.length : Int) := of_decide_eq_true (by first | (with_reducible assumption) | assumption)
                                    obtain ⟨ad167, e167, hx167_0, hx167_1⟩ := at_T31 HR0.out x118_4 p167 q167
                                    have hw167_1 := hx167_1; have hw167_0 := hx167_0
                                    obtain rfl : ad166 = ad167 := (by injection e167)
                                    replace hx167_0 := (HB.out.cell (World.block_lt_of_cell? w _ hx167_0)).trans hx167_0
                                    replace hx167_1 := (HB.out.cell (World.block_lt_of_cell? w _ hx167_1)).trans hx167_1
                                    replace p167 := eq_true p167; replace q167 := eq_true q167
                                    have p169 : 0 ≤ (x12_3 : Int) := of_decide_eq_true (by first | (with_reducible assumption) | assumption)
                                    have q169 : x12_3 < (l1.length : Int) := of_decide_eq_true (by first | (with_reducible assumption) | assumption)
                                    obtain ⟨ad169, e169, hx169_0⟩ := Kd.at_int HR1.out x12_3 p169 q169
                                    have hw169_0 := hx169_0; cases e169
                                    replace hx169_0 := (HB.out.cell (World.block_lt_of_cell? w _ hx169_0)).trans hx169_0
                                    replace p169 := eq_true p169; replace q169 := eq_true q169
                                    have p170 : 0 ≤ (x118_4 : Int) := of_decide_eq_true (by first | (with_reducible assumption) | assumption)
                                    have q170 : x118_4 < (l1.length : Int) := of_decide_eq_true (by first | (with_reducible assumption) | assumption)
                                    obtain ⟨ad170, e170, hx170_0⟩ := Kd.at_int HR1.out x118_4 p170 q170
                                    have hw170_0 := hx170_0
                                    obtain rfl : ad169 = ad170 := (by injection e170)
                                    replace hx170_0 := (HB.out.cell (World.block_lt_of_cell? w _ hx170_0)).trans hx170_0
                                    replace p170 := eq_true p170; replace q170 := eq_true q170
                                    refine start_ (n := 20) (S := fun w' => w'.cell? (ad166.add ((x12_3).toNat * 2)) = some (.int .i64 ((rd_T31 l0 x12_3).f0)) ∧ w'.cell? ⟨(ad166.add ((x12_3).toNat * 2)).block, (ad166.add ((x12_3).toNat * 2)).off + 1, none⟩ = some (.int .i64 ((rd_T31 l0 x12_3).f1)) ∧ w'.cell? (ad166.add ((x118_4).toNat * 2)) = some (.int .i64 ((rd_T31 l0 x118_4).f0)) ∧ w'.cell? ⟨(ad166.add ((x118_4).toNat * 2)).block, (ad166.add ((x118_4).toNat * 2)).off + 1, none⟩ = some (.int .i64 ((rd_T31 l0 x118_4).f1)) ∧ w'.cell? (ad169.add (x12_3).toNat) = some (.int .i64 (rd l1 x12_3)) ∧ w'.cell? (ad169.add (x118_4).toNat) = some (.int .i64 (rd l1 x118_4))) (ds := []) #[false, false, false, false, false, false, false, false, false, false, false, false, false, false, false, false, false, false, false, false] (by kernel_rfl) rfl rfl ⟨((HB.out.cell (World.block_lt_of_cell? w _ hw166_0)).trans hw166_0), ((HB.out.cell (World.block_lt_of_cell? w _ hw166_1)).trans hw166_1), ((HB.out.cell (World.block_lt_of_cell? w _ hw167_0)).trans hw167_0), ((HB.out.cell (World.block_lt_of_cell? w _ hw167_1)).trans hw167_1), ((HB.out.cell (World.block_lt_of_cell? w _ hw169_0)).trans hw169_0), ((HB.out.cell (World.block_lt_of_cell? w _ hw170_0)).trans hw170_0)⟩ (fun hHeld => ?_); refine with_tabW tour_span.tab30 tour_span.bits30 (fun HT_ HW_ => ?_)
                                    generalize wr.drew = w87 at HO_6 HO_7 HO_8 HO_9 HB hx166_0 hx166_1 hx167_0 hx167_1 hx169_0 hx170_0 hHeld ⊢
                                    refine pure_ (i := 0) (N := some 121) (v := ?_) (a' := ?_) #[true, false, false, false, false, false, false, false, false, false, false, false, false, false, false, false, false, false, false, false] rfl rfl (any_of HT_.out (by kernel_rfl)) (fun _ _ _ h => h) (Or.inl ⟨by rfl, ?_⟩) ?_ ?_
                                    rotate_left; ·intro w'; go_simp; with_reducible rfl
                                    rotate_left; ·simp only [Act.put, sA_, sZ_, sS_, i64_w, i32_w]; rfl
                                    refine pure_ (i := 1) (N := some 122) (v := ?_) (a' := ?_) #[true, true, false, false, false, false, false, false, false, false, false, false, false, false, false, false, false, false, false, false] rfl rfl (any_of HT_.out (by kernel_rfl)) (fun _ _ _ h => h) (Or.inl ⟨by rfl, ?_⟩) ?_ ?_
                                    rotate_left; ·intro w'; go_simp; with_reducible rfl
                                    rotate_left; ·simp only [Act.put, sA_, sZ_, sS_, i64_w, i32_w]; rfl
                                    refine pure_ (i := 2) (N := some 123) (v := ?_) (a' := ?_) #[true, true, true, false, false, false, false, false, false, false, false, false, false, false, false, false, false, false, false, false] rfl rfl (any_of HT_.out (by kernel_rfl)) (fun _ _ _ h => h) (Or.inl ⟨by rfl, ?_⟩) ?_ ?_
                                    rotate_left; ·intro w'; go_simp; with_reducible rfl
                                    rotate_left; ·simp only [Act.put, sA_, sZ_, sS_, i64_w, i32_w]; rfl
                                    refine pure_ (i := 4) (N := some 125) (v := ?_) (a' := ?_) #[true, true, true, false, true, false, false, false, false, false, false, false, false, false, false, false, false, false, false, false] rfl rfl (any_of HT_.out (by kernel_rfl)) (fun _ _ _ h => h) (Or.inl ⟨by rfl, ?_⟩) ?_ ?_
                                    rotate_left; ·intro w'; go_simp; with_reducible rfl
                                    rotate_left; ·simp only [Act.put, sA_, sZ_, sS_, i64_w, i32_w]; rfl
                                    refine pure_ (i := 5) (N := some 126) (v := ?_) (a' := ?_) #[true, true, true, false, true, true, false, false, false, false, false, false, false, false, false, false, false, false, false, false] rfl rfl (any_of HT_.out (by kernel_rfl)) (fun _ _ _ h => h) (Or.inl ⟨by rfl, ?_⟩) ?_ ?_
                                    rotate_left; ·intro w'; go_simp; with_reducible rfl
                                    rotate_left; ·simp only [Act.put, sA_, sZ_, sS_, i64_w, i32_w]; rfl
                                    refine pure_ (i := 6) (N := some 127) (v := ?_) (a' := ?_) #[true, true, true, false, true, true, true, false, false, false, false, false, false, false, false, false, false, false, false, false] rfl rfl (any_of HT_.out (by kernel_rfl)) (fun _ _ _ h => h) (Or.inl ⟨by rfl, ?_⟩) ?_ ?_
                                    rotate_left; ·intro w'; go_simp; with_reducible rfl
                                    rotate_left; ·simp only [Act.put, sA_, sZ_, sS_, i64_w, i32_w]; rfl
                                    refine pure_ (i := 9) (N := some 130) (v := ?_) (a' := ?_) #[true, true, true, false, true, true, true, false, false, true, false, false, false, false, false, false, false, false, false, false] rfl rfl (any_of HT_.out (by kernel_rfl)) (fun _ _ _ h => h) (Or.inl ⟨by rfl, ?_⟩) ?_ ?_
                                    rotate_left; ·intro w'; go_simp; with_reducible rfl
                                    rotate_left; ·simp only [Act.put, sA_, sZ_, sS_, i64_w, i32_w]; rfl
                                    refine pure_ (i := 10) (N := some 131) (v := ?_) (a' := ?_) #[true, true, true, false, true, true, true, false, false, true, true, false, false, false, false, false, false, false, false, false] rfl rfl (any_of HT_.out (by kernel_rfl)) (fun _ _ _ h => h) (Or.inl ⟨by rfl, ?_⟩) ?_ ?_
                                    rotate_left; ·intro w'; go_simp; with_reducible rfl
                                    rotate_left; ·simp only [Act.put, sA_, sZ_, sS_, i64_w, i32_w]; rfl
                                    refine pure_ (i := 11) (N := some 132) (v := ?_) (a' := ?_) #[true, true, true, false, true, true, true, false, false, true, true, true, false, false, false, false, false, false, false, false] rfl rfl (any_of HT_.out (by kernel_rfl)) (fun _ _ _ h => h) (Or.inl ⟨by rfl, ?_⟩) ?_ ?_
                                    rotate_left; ·intro w'; go_simp; with_reducible rfl
                                    rotate_left; ·simp only [Act.put, sA_, sZ_, sS_, i64_w, i32_w]; rfl
                                    refine pure_ (i := 14) (N := some 135) (v := ?_) (a' := ?_) #[true, true, true, false, true, true, true, false, false, true, true, true, false, false, true, false, false, false, false, false] rfl rfl (any_of HT_.out (by kernel_rfl)) (fun _ _ _ h => h) (Or.inl ⟨by rfl, ?_⟩) ?_ ?_
                                    rotate_left; ·intro w'; go_simp; with_reducible rfl
                                    rotate_left; ·simp only [Act.put, sA_, sZ_, sS_, i64_w, i32_w]; rfl
                                    refine pure_ (i := 15) (N := some 136) (v := ?_) (a' := ?_) #[true, true, true, false, true, true, true, false, false, true, true, true, false, false, true, true, false, false, false, false] rfl rfl (any_of HT_.out (by kernel_rfl)) (fun _ _ _ h => h) (Or.inl ⟨by rfl, ?_⟩) ?_ ?_
                                    rotate_left; ·intro w'; go_simp; with_reducible rfl
                                    rotate_left; ·simp only [Act.put, sA_, sZ_, sS_, i64_w, i32_w]; rfl
                                    refine pure_ (i := 16) (N := some 137) (v := ?_) (a' := ?_) #[true, true, true, false, true, true, true, false, false, true, true, true, false, false, true, true, true, false, false, false] rfl rfl (any_of HT_.out (by kernel_rfl)) (fun _ _ _ h => h) (Or.inl ⟨by rfl, ?_⟩) ?_ ?_
                                    rotate_left; ·intro w'; go_simp; with_reducible rfl
                                    rotate_left; ·simp only [Act.put, sA_, sZ_, sS_, i64_w, i32_w]; rfl
                                    refine take_ (i := 3) (N := some 124) (v := ?_) (a' := ?_) #[true, true, true, true, true, true, true, false, false, true, true, true, false, false, true, true, true, false, false, false] rfl rfl (take_ofW HT_.out HW_.out (by kernel_rfl)) (fun _ _ _ h => h) (Or.inl ⟨by rfl, ?_⟩) hHeld ?_ ?_
                                    rotate_left
                                    ·rintro w' ⟨s0, s1, s2, s3, s4, s5⟩; go_simp; with_reducible rfl
                                    rotate_left; ·simp only [Act.put, sA_, sZ_, sS_, i64_w, i32_w]; rfl
                                    refine take_ (i := 7) (N := some 128) (v := ?_) (a' := ?_) #[true, true, true, true, true, true, true, true, false, true, true, true, false, false, true, true, true, false, false, false] rfl rfl (take_ofW HT_.out HW_.out (by kernel_rfl)) (fun _ _ _ h => h) (Or.inl ⟨by rfl, ?_⟩) hHeld ?_ ?_
                                    rotate_left
                                    ·rintro w' ⟨s0, s1, s2, s3, s4, s5⟩; go_simp; with_reducible rfl
                                    rotate_left; ·simp only [Act.put, sA_, sZ_, sS_, i64_w, i32_w]; rfl
                                    refine take_ (i := 12) (N := some 133) (v := ?_) (a' := ?_) #[true, true, true, true, true, true, true, true, false, true, true, true, true, false, true, true, true, false, false, false] rfl rfl (take_ofW HT_.out HW_.out (by kernel_rfl)) (fun _ _ _ h => h) (Or.inl ⟨by rfl, ?_⟩) hHeld ?_ ?_
                                    rotate_left
                                    ·rintro w' ⟨s0, s1, s2, s3, s4, s5⟩; go_simp; with_reducible rfl
                                    rotate_left; ·simp only [Act.put, sA_, sZ_, sS_, i64_w, i32_w]; rfl
                                    refine take_ (i := 17) (N := some 138) (v := ?_) (a' := ?_) #[true, true, true, true, true, true, true, true, false, true, true, true, true, false, true, true, true, true, false, false] rfl rfl (take_ofW HT_.out HW_.out (by kernel_rfl)) (fun _ _ _ h => h) (Or.inl ⟨by rfl, ?_⟩) hHeld ?_ ?_
                                    rotate_left
                                    ·rintro w' ⟨s0, s1, s2, s3, s4, s5⟩; go_simp; with_reducible rfl
                                    rotate_left; ·simp only [Act.put, sA_, sZ_, sS_, i64_w, i32_w]; rfl
                                    refine one_ (i := 8) (N := some 129) #[true, true, true, true, true, true, true, true, true, true, true, true, true, false, true, true, true, true, false, false] rfl rfl (one_of HT_.out (by kernel_rfl)) (by decide) (fun K hK => ?_)
                                    refine goes_ Try.func15 (by kernel_rfl) rfl #[.agg #[.int .i64 ((rd_T31 l0 x12_3).f0), .int .i64 ((rd_T31 l0 x12_3).f1)], .agg #[.int .i64 ((rd_T31 l0 x118_4).f0), .int .i64 ((rd_T31 l0 x118_4).f1)]] (by rfl) rfl rfl (by (try simp only [List.map_toArray, List.map_cons, List.map_nil]); first | done | rfl | (simp only [List.length_drop, List.length_take]; rfl)) ?_
                                    with_reducible refine (tour_Distance.calls ((rd_T31 l0 x12_3).f0) ((rd_T31 l0 x12_3).f1) ((rd_T31 l0 x118_4).f0) ((rd_T31 l0 x118_4).f1) t168 _ A74.out).mono ?_
                                    rintro e w88 ⟨rfl, hb⟩
                                    refine ⟨_, rfl, ?_⟩
                                    have n0_ := Aside0.mk (Kd.R_below (by (with_reducible repeat (first | apply Kd.R_alloc | apply Kd.R_drewN | apply Kd.R_drew)); exact HO_6.out) hb)
                                    have n1_ := Aside0.mk (Kd.R_below (by (with_reducible repeat (first | apply Kd.R_alloc | apply Kd.R_drewN | apply Kd.R_drew)); exact HO_7.out) hb)
                                    have n2_ := Aside0.mk (Kd.R_below (by (with_reducible repeat (first | apply Kd.R_alloc | apply Kd.R_drewN | apply Kd.R_drew)); exact HO_8.out) hb)
                                    have n3_ := Aside0.mk (Kd.R_below (by (with_reducible repeat (first | apply Kd.R_alloc | apply Kd.R_drewN | apply Kd.R_drew)); exact HO_9.out) hb)
                                    have n4_ := Aside0.mk (below_step (by repeat (first | (with_reducible first | exact HB.out | apply below_alloc | apply pw_below_drewN | apply below_drew1) | exact HB.out)) hb)
                                    clear HO_6; clear HO_7; clear HO_8; clear HO_9; clear HB; have HO_6 := n0_; have HO_7 := n1_; have HO_8 := n2_; have HO_9 := n3_; have HB := n4_; clear n0_ n1_ n2_ n3_ n4_; (try clear hb); (try clear hb2); (try clear hk); (try clear hi)
                                    refine hK.out _ _ ⟨((HB.out.cell (World.block_lt_of_cell? w _ hw166_0)).trans hw166_0), ((HB.out.cell (World.block_lt_of_cell? w _ hw166_1)).trans hw166_1), ((HB.out.cell (World.block_lt_of_cell? w _ hw167_0)).trans hw167_0), ((HB.out.cell (World.block_lt_of_cell? w _ hw167_1)).trans hw167_1), ((HB.out.cell (World.block_lt_of_cell? w _ hw169_0)).trans hw169_0), ((HB.out.cell (World.block_lt_of_cell? w _ hw170_0)).trans hw170_0)⟩ (fun hHeld => ?_)
                                    clear hK K
                                    refine norm_ (a' := ?_) ?_ ?_
                                    rotate_left
                                    ·show Act.put _ (some 129) _ = _
                                     simp only [Act.put, sA_, sZ_, sS_, i64_w, i32_w]; rfl
                                    refine pure_ (i := 13) (N := some 134) (v := ?_) (a' := ?_) #[true, true, true, true, true, true, true, true, true, true, true, true, true, true, true, true, true, true, false, false] rfl rfl (any_of HT_.out (by kernel_rfl)) (fun _ _ _ h => h) (Or.inl ⟨by rfl, ?_⟩) ?_ ?_
                                    rotate_left; ·intro w'; go_simp; with_reducible rfl
                                    rotate_left; ·simp only [Act.put, sA_, sZ_, sS_, i64_w, i32_w]; rfl
                                    refine pure_ (i := 18) (N := some 139) (v := ?_) (a' := ?_) #[true, true, true, true, true, true, true, true, true, true, true, true, true, true, true, true, true, true, true, false] rfl rfl (any_of HT_.out (by kernel_rfl)) (fun _ _ _ h => h) (Or.inl ⟨by rfl, ?_⟩) ?_ ?_
                                    rotate_left; ·intro w'; go_simp; with_reducible rfl
                                    rotate_left; ·simp only [Act.put, sA_, sZ_, sS_, i64_w, i32_w]; rfl
                                    refine pure_ (i := 19) (N := some 15) (v := ?_) (a' := ?_) #[true, true, true, true, true, true, true, true, true, true, true, true, true, true, true, true, true, true, true, true] rfl rfl (any_of HT_.out (by kernel_rfl)) (fun _ _ _ h => h) (Or.inl ⟨by rfl, ?_⟩) ?_ ?_
                                    rotate_left; ·intro w'; go_simp; with_reducible rfl
                                    rotate_left; ·simp only [Act.put, sA_, sZ_, sS_, i64_w, i32_w]; rfl
                                    refine done_ (done_of HT_.out (by kernel_rfl)) ?_
                                    have p171 : 0 ≤ (x118_4 : Int) := of_decide_eq_true (by first | (with_reducible assumption) | assumption)
                                    have q171 : x118_4 < (y159.length : Int) := of_decide_eq_true (by first | (with_reducible assumption) | assumption)
                                    obtain ⟨ad171, e171, hx171_0⟩ := Kd.at_bool (Kd.R_reads' HO_7.out).2.2 x118_4 p171 q171
                                    (try rw [← Nbq78.out] at hx171_0)
                                    obtain rfl : (⟨go10, 0, none⟩ : Addr) = ad171 := (by injection e171)
                                    (first | simp only [add_plain] at hx171_0 | simp only [add_at] at hx171_0 | simp only [Addr.add, Nat.zero_add] at hx171_0 | skip)
                                    replace p171 := eq_true p171; replace q171 := eq_true q171
                                    have p172 : 0 ≤ (x118_4 : Int) := of_decide_eq_true (by first | (with_reducible assumption) | assumption)
                                    have q172 : x118_4 < (x8_4.length : Int) := of_decide_eq_true (by first | (with_reducible assumption) | assumption)
                                    obtain ⟨ad172, e172, hx172_0⟩ := Kd.at_int (Kd.R_reads' HO_8.out).2.2 x118_4 p172 q172
                                    obtain rfl : ad160 = ad172 := (by injection e172)
                                    replace p172 := eq_true p172; replace q172 := eq_true q172
                                    have p84 : 0 ≤ (x118_4 : Int) := of_decide_eq_true (by first | (with_reducible assumption) | assumption)
                                    have q84 : (x118_4 : Int) < ((x8_4.length : Int) : Int) := of_decide_eq_true (by first | (with_reducible assumption) | assumption)
                                    obtain ⟨go84, co84, eo84, gb84, gl84, cl84, HG84⟩ := Kd.R_form HO_8.out (by omega)
                                    (first | cases eo84 | (injection eo84 with ea_ en_ ec_; (first | subst ea_ | (injection ea_ with ea_; subst ea_)); subst ec_; clear en_))
                                    have GB84 := Aside0.mk gb84; have GG84 := Aside0.mk HG84; clear gb84 gl84 HG84
                                    (first | simp only [add_plain] at hx160_0 | skip)
                                    (first | simp only [add_plain] at hx172_0 | skip)
                                    obtain ⟨hx84_0, hf84_0⟩ := Kd.R_celln 0 HO_8.out (x118_4 : Int) p84 q84
                                    replace p84 := eq_true p84; replace q84 := eq_true q84
                                    obtain ⟨hy89_, hz89_⟩ := Kd.R_celln 0 HO_8.out (x118_4 : Int) (of_decide_eq_true (by first | (with_reducible assumption) | assumption)) (of_decide_eq_true (by first | (with_reducible assumption) | assumption))
                                    have HP89 := Kd.R_putg HO_8.out (x118_4 : Int) (wrap64 ((wrap64 (t168 + (rd l1 x12_3))) + (rd l1 x118_4)))
                                    try go_wp2_with (first | ((with_reducible refine gate_store (t := 2) (p := 159) rfl ?_); refine store_event (t := 2) (p := 159) (v := ?vo_w90) (w1 := (w88.setCell ⟨go84, (x118_4 : Int).toNat, none⟩ (.int .i64 (wrap64 ((wrap64 (t168 + (rd l1 x12_3))) + (rd l1 x118_4)))))) ?hg ?ho ?hn ?hr ?_; (case ho => rfl); (case hg => rfl); (case hn => rfl); (case hr => first | (go_simp; done) | (go_simp; rfl)); intro w90 hw; have hg : w88.grownBy w90 (some go84) := (by rw [hw]; exact HP89.2); have hp_ : Kd.R (Kd.int .i64) 2 w90 w.heap.size (fun _ => True) (.slice (some ⟨go84, 0, none⟩) x8_4.length co62) y173 := (by rw [hw, Ny173.out]; exact HP89.1); clear HP89; have n0_ := Aside0.mk (Kd.R_over' (v := (.slice (some ⟨go84, 0, none⟩) x8_4.length co62)) (by (with_reducible repeat (first | apply Kd.R_alloc | apply Kd.R_drewN | apply Kd.R_drew)); exact HO_6.out) (Kd.R_typed HO_8.out) (by decide) hg); have n1_ := Aside0.mk (Kd.R_over' (v := (.slice (some ⟨go84, 0, none⟩) x8_4.length co62)) (by (with_reducible repeat (first | apply Kd.R_alloc | apply Kd.R_drewN | apply Kd.R_drew)); exact HO_7.out) (Kd.R_typed HO_8.out) (by decide) hg); have n2_ := Aside0.mk (hp_); have n3_ := Aside0.mk (Kd.R_over' (v := (.slice (some ⟨go84, 0, none⟩) x8_4.length co62)) (by (with_reducible repeat (first | apply Kd.R_alloc | apply Kd.R_drewN | apply Kd.R_drew)); exact HO_9.out) (Kd.R_typed HO_8.out) (by decide) hg); have n4_ := Aside0.mk ((by rw [hw]; exact below_set (HB.out) GB84.out : Below w.heap.size w w90)); clear HO_6; clear HO_7; clear HO_8; clear HO_9; clear HB; have HO_6 := n0_; have HO_7 := n1_; have HO_8 := n2_; have HO_9 := n3_; have HB := n4_; clear n0_ n1_ n2_ n3_ n4_; clear hg hw hp_; have p86 : 0 ≤ (x118_4 : Int) := of_decide_eq_true (by first | (with_reducible assumption) | assumption); have q86 : (x118_4 : Int) < ((x9_4.length : Int) : Int) := of_decide_eq_true (by first | (with_reducible assumption) | assumption); obtain ⟨go86, co86, eo86, gb86, gl86, cl86, HG86⟩ := Kd.R_form HO_9.out (by omega); (first | cases eo86 | (injection eo86 with ea_ en_ ec_; (first | subst ea_ | (injection ea_ with ea_; subst ea_)); subst ec_; clear en_)); have GB86 := Aside0.mk gb86; have GG86 := Aside0.mk HG86; clear gb86 gl86 HG86; (first | simp only [add_plain] at hx163_0 | skip); obtain ⟨hx86_0, hf86_0⟩ := Kd.R_celln 0 HO_9.out (x118_4 : Int) p86 q86; replace p86 := eq_true p86; replace q86 := eq_true q86; obtain ⟨hy91_, hz91_⟩ := Kd.R_celln 0 HO_9.out (x118_4 : Int) (of_decide_eq_true (by first | (with_reducible assumption) | assumption)) (of_decide_eq_true (by first | (with_reducible assumption) | assumption)); have HP91 := Kd.R_putg HO_9.out (x118_4 : Int) x12_3) | ((with_reducible refine gate_store (t := 3) (p := 160) rfl ?_); refine store_event (t := 3) (p := 160) (v := ?vo_w92) (w1 := (w90.setCell ⟨go86, (x118_4 : Int).toNat, none⟩ (.int .i64 x12_3))) ?hg ?ho ?hn ?hr ?_; (case ho => rfl); (case hg => rfl); (case hn => rfl); (case hr => first | (go_simp; done) | (go_simp; rfl)); intro w92 hw; have hg : w90.grownBy w92 (some go86) := (by rw [hw]; exact HP91.2); have hp_ : Kd.R (Kd.int .i64) 3 w92 w.heap.size (fun k_ => some k_ ≠ (.slice (some ⟨go55, 0, none⟩) y165.length co63 : Value).ownBlock) (.slice (some ⟨go86, 0, none⟩) x9_4.length co66) y174 := (by rw [hw, Ny174.out]; exact HP91.1); clear HP91; have n0_ := Aside0.mk (Kd.R_after (v := (.slice (some ⟨go86, 0, none⟩) x9_4.length co66)) (v1 := (.slice (some ⟨go86, 0, none⟩) x9_4.length co66)) (ok := (fun _ => True)) (by (with_reducible repeat (first | apply Kd.R_alloc | apply Kd.R_drewN | apply Kd.R_drew)); exact Kd.R_mono HO_6.out (fun _ hk => ⟨trivial, hk⟩)) hg (.inl rfl)); have n1_ := Aside0.mk (Kd.R_over' (v := (.slice (some ⟨go86, 0, none⟩) x9_4.length co66)) (by (with_reducible repeat (first | apply Kd.R_alloc | apply Kd.R_drewN | apply Kd.R_drew)); exact HO_7.out) (Kd.R_typed HO_9.out) (by decide) hg); have n2_ := Aside0.mk (Kd.R_over' (v := (.slice (some ⟨go86, 0, none⟩) x9_4.length co66)) (by (with_reducible repeat (first | apply Kd.R_alloc | apply Kd.R_drewN | apply Kd.R_drew)); exact HO_8.out) (Kd.R_typed HO_9.out) (by decide) hg); have n3_ := Aside0.mk (hp_); have n4_ := Aside0.mk ((by rw [hw]; exact below_set (HB.out) GB86.out : Below w.heap.size w w92)); clear HO_6; clear HO_7; clear HO_8; clear HO_9; clear HB; have HO_6 := n0_; have HO_7 := n1_; have HO_8 := n2_; have HO_9 := n3_; have HB := n4_; clear n0_ n1_ n2_ n3_ n4_; clear hg hw hp_))
                                    (try simp only [← hl6_4, ← hl7_4, ← hl8_4, ← hl9_4])
                                    (try rw [show (⟨go84, (x12_3 : Int).toNat, none⟩ : Addr) = Addr.add ⟨go84, 0, none⟩ (x12_3 : Int).toNat from by simp [Addr.add]])
                                    (try rw [show (⟨go86, (x12_3 : Int).toNat, none⟩ : Addr) = Addr.add ⟨go86, 0, none⟩ (x12_3 : Int).toNat from by simp [Addr.add]])
                                    go_roundg k4
                                    case measure => have := HK1.out; have := HK2.out; have := HK3.out; have := HK4.out; omega
                                    case rel => exact ⟨(y173), (y174), (wrap64 (x118_4 + 1)), (by first | rfl | (simp; done) | (simp [*]; done)), H', ⟨by have := HK1.out; have := HK2.out; have := HK3.out; have := HK4.out; omega⟩, ⟨by (try simp only [hl7_1]); (try simp only [hl7_2]); (try simp only [hl6_4]); (try simp only [hl7_4]); (try simp only [hl8_4]); (try simp only [hl9_4]); (with_reducible repeat (first | apply Kd.R_alloc | apply Kd.R_drewN | apply Kd.R_drew)); exact Kd.R_mono HO_6.out (fun _ hk => hk.2)⟩, ⟨by (try simp only [hl7_1]); (try simp only [hl7_2]); (try simp only [hl6_4]); (try simp only [hl7_4]); (try simp only [hl8_4]); (try simp only [hl9_4]); (with_reducible repeat (first | apply Kd.R_alloc | apply Kd.R_drewN | apply Kd.R_drew)); exact HO_7.out⟩, ⟨by (try simp only [hl7_1]); (try simp only [hl7_2]); (try simp only [hl6_4]); (try simp only [hl7_4]); (try simp only [hl8_4]); (try simp only [hl9_4]); (with_reducible repeat (first | apply Kd.R_alloc | apply Kd.R_drewN | apply Kd.R_drew)); exact HO_8.out⟩, ⟨by (try simp only [hl7_1]); (try simp only [hl7_2]); (try simp only [hl6_4]); (try simp only [hl7_4]); (try simp only [hl8_4]); (try simp only [hl9_4]); (with_reducible repeat (first | apply Kd.R_alloc | apply Kd.R_drewN | apply Kd.R_drew)); exact HO_9.out⟩, ⟨by repeat (first | (with_reducible first | exact HB.out | apply below_alloc | apply pw_below_drewN | apply below_drew1) | exact HB.out)⟩⟩
                                   ·rw [if_neg c85] at H
                                    exact absurd H (by simp)
                                  ·rw [if_neg c83] at H
                                   have c83b0 : decide ((wrap64 ((wrap64 (t168 + (rd l1 x12_3))) + (rd l1 x118_4))) < (rd x8_4 x118_4)) = false := decide_eq_false c83
                                   clear c83; have H' := Aside0.mk H; clear H
                                   try go_wp2
                                   have n0_ := Aside0.mk (Kd.R_drew HO_6.out)
                                   have n1_ := Aside0.mk (Kd.R_drew HO_7.out)
                                   have n2_ := Aside0.mk (Kd.R_drew HO_8.out)
                                   have n3_ := Aside0.mk (Kd.R_drew HO_9.out)
                                   have n4_ := Aside0.mk (below_drew1 HB.out)
                                   clear HO_6; clear HO_7; clear HO_8; clear HO_9; clear HB; have HO_6 := n0_; have HO_7 := n1_; have HO_8 := n2_; have HO_9 := n3_; have HB := n4_; clear n0_ n1_ n2_ n3_ n4_
                                   have p166 : 0 ≤ (x12_3 : Int) := of_decide_eq_true (by first | (with_reducible assumption) | assumption)
                                   have q166 : x12_3 < (l0.length : Int) := of_decide_eq_true (by first | (with_reducible assumption) | assumption)
                                   obtain ⟨ad166, e166, hx166_0, hx166_1⟩ := at_T31 HR0.out x12_3 p166 q166
                                   have hw166_1 := hx166_1; have hw166_0 := hx166_0; cases e166
                                   replace hx166_0 := (HB.out.cell (World.block_lt_of_cell? w _ hx166_0)).trans hx166_0
                                   replace hx166_1 := (HB.out.cell (World.block_lt_of_cell? w _ hx166_1)).trans hx166_1
                                   replace p166 := eq_true p166; replace q166 := eq_true q166
                                   have p167 : 0 ≤ (x118_4 : Int) := of_decide_eq_true (by first | (with_reducible assumption) | assumption)
                                   have q167 : x118_4 < (l0.length : Int) := of_decide_eq_true (by first | (with_reducible assumption) | assumption)
                                   obtain ⟨ad167, e167, hx167_0, hx167_1⟩ := at_T31 HR0.out x118_4 p167 q167
                                   have hw167_1 := hx167_1; have hw167_0 := hx167_0
                                   obtain rfl : ad166 = ad167 := (by injection e167)
                                   replace hx167_0 := (HB.out.cell (World.block_lt_of_cell? w _ hx167_0)).trans hx167_0
                                   replace hx167_1 := (HB.out.cell (World.block_lt_of_cell? w _ hx167_1)).trans hx167_1
                                   replace p167 := eq_true p167; replace q167 := eq_true q167
                                   have p169 : 0 ≤ (x12_3 : Int) := of_decide_eq_true (by first | (with_reducible assumption) | assumption)
                                   have q169 : x12_3 < (l1.length : Int) := of_decide_eq_true (by first | (with_reducible assumption) | assumption)
                                   obtain ⟨ad169, e169, hx169_0⟩ := Kd.at_int HR1.out x12_3 p169 q169
                                   have hw169_0 := hx169_0; cases e169
                                   replace hx169_0 := (HB.out.cell (World.block_lt_of_cell? w _ hx169_0)).trans hx169_0
                                   replace p169 := eq_true p169; replace q169 := eq_true q169
                                   have p170 : 0 ≤ (x118_4 : Int) := of_decide_eq_true (by first | (with_reducible assumption) | assumption)
                                   have q170 : x118_4 < (l1.length : Int) := of_decide_eq_true (by first | (with_reducible assumption) | assumption)
                                   obtain ⟨ad170, e170, hx170_0⟩ := Kd.at_int HR1.out x118_4 p170 q170
                                   have hw170_0 := hx170_0
                                   obtain rfl : ad169 = ad170 := (by injection e170)
                                   replace hx170_0 := (HB.out.cell (World.block_lt_of_cell? w _ hx170_0)).trans hx170_0
                                   replace p170 := eq_true p170; replace q170 := eq_true q170
                                   refine start_ (n := 20) (S := fun w' => w'.cell? (ad166.add ((x12_3).toNat * 2)) = some (.int .i64 ((rd_T31 l0 x12_3).f0)) ∧ w'.cell? ⟨(ad166.add ((x12_3).toNat * 2)).block, (ad166.add ((x12_3).toNat * 2)).off + 1, none⟩ = some (.int .i64 ((rd_T31 l0 x12_3).f1)) ∧ w'.cell? (ad166.add ((x118_4).toNat * 2)) = some (.int .i64 ((rd_T31 l0 x118_4).f0)) ∧ w'.cell? ⟨(ad166.add ((x118_4).toNat * 2)).block, (ad166.add ((x118_4).toNat * 2)).off + 1, none⟩ = some (.int .i64 ((rd_T31 l0 x118_4).f1)) ∧ w'.cell? (ad169.add (x12_3).toNat) = some (.int .i64 (rd l1 x12_3)) ∧ w'.cell? (ad169.add (x118_4).toNat) = some (.int .i64 (rd l1 x118_4))) (ds := []) #[false, false, false, false, false, false, false, false, false, false, false, false, false, false, false, false, false, false, false, false] (by kernel_rfl) rfl rfl ⟨((HB.out.cell (World.block_lt_of_cell? w _ hw166_0)).trans hw166_0), ((HB.out.cell (World.block_lt_of_cell? w _ hw166_1)).trans hw166_1), ((HB.out.cell (World.block_lt_of_cell? w _ hw167_0)).trans hw167_0), ((HB.out.cell (World.block_lt_of_cell? w _ hw167_1)).trans hw167_1), ((HB.out.cell (World.block_lt_of_cell? w _ hw169_0)).trans hw169_0), ((HB.out.cell (World.block_lt_of_cell? w _ hw170_0)).trans hw170_0)⟩ (fun hHeld => ?_); refine with_tabW tour_span.tab30 tour_span.bits30 (fun HT_ HW_ => ?_)
                                   generalize wr.drew = w93 at HO_6 HO_7 HO_8 HO_9 HB hx166_0 hx166_1 hx167_0 hx167_1 hx169_0 hx170_0 hHeld ⊢
                                   refine pure_ (i := 0) (N := some 121) (v := ?_) (a' := ?_) #[true, false, false, false, false, false, false, false, false, false, false, false, false, false, false, false, false, false, false, false] rfl rfl (any_of HT_.out (by kernel_rfl)) (fun _ _ _ h => h) (Or.inl ⟨by rfl, ?_⟩) ?_ ?_
                                   rotate_left; ·intro w'; go_simp; with_reducible rfl
                                   rotate_left; ·simp only [Act.put, sA_, sZ_, sS_, i64_w, i32_w]; rfl
                                   refine pure_ (i := 1) (N := some 122) (v := ?_) (a' := ?_) #[true, true, false, false, false, false, false, false, false, false, false, false, false, false, false, false, false, false, false, false] rfl rfl (any_of HT_.out (by kernel_rfl)) (fun _ _ _ h => h) (Or.inl ⟨by rfl, ?_⟩) ?_ ?_
                                   rotate_left; ·intro w'; go_simp; with_reducible rfl
                                   rotate_left; ·simp only [Act.put, sA_, sZ_, sS_, i64_w, i32_w]; rfl
                                   refine pure_ (i := 2) (N := some 123) (v := ?_) (a' := ?_) #[true, true, true, false, false, false, false, false, false, false, false, false, false, false, false, false, false, false, false, false] rfl rfl (any_of HT_.out (by kernel_rfl)) (fun _ _ _ h => h) (Or.inl ⟨by rfl, ?_⟩) ?_ ?_
                                   rotate_left; ·intro w'; go_simp; with_reducible rfl
                                   rotate_left; ·simp only [Act.put, sA_, sZ_, sS_, i64_w, i32_w]; rfl
                                   refine pure_ (i := 4) (N := some 125) (v := ?_) (a' := ?_) #[true, true, true, false, true, false, false, false, false, false, false, false, false, false, false, false, false, false, false, false] rfl rfl (any_of HT_.out (by kernel_rfl)) (fun _ _ _ h => h) (Or.inl ⟨by rfl, ?_⟩) ?_ ?_
                                   rotate_left; ·intro w'; go_simp; with_reducible rfl
                                   rotate_left; ·simp only [Act.put, sA_, sZ_, sS_, i64_w, i32_w]; rfl
                                   refine pure_ (i := 5) (N := some 126) (v := ?_) (a' := ?_) #[true, true, true, false, true, true, false, false, false, false, false, false, false, false, false, false, false, false, false, false] rfl rfl (any_of HT_.out (by kernel_rfl)) (fun _ _ _ h => h) (Or.inl ⟨by rfl, ?_⟩) ?_ ?_
                                   rotate_left; ·intro w'; go_simp; with_reducible rfl
                                   rotate_left; ·simp only [Act.put, sA_, sZ_, sS_, i64_w, i32_w]; rfl
                                   refine pure_ (i := 6) (N := some 127) (v := ?_) (a' := ?_) #[true, true, true, false, true, true, true, false, false, false, false, false, false, false, false, false, false, false, false, false] rfl rfl (any_of HT_.out (by kernel_rfl)) (fun _ _ _ h => h) (Or.inl ⟨by rfl, ?_⟩) ?_ ?_
                                   rotate_left; ·intro w'; go_simp; with_reducible rfl
                                   rotate_left; ·simp only [Act.put, sA_, sZ_, sS_, i64_w, i32_w]; rfl
                                   refine pure_ (i := 9) (N := some 130) (v := ?_) (a' := ?_) #[true, true, true, false, true, true, true, false, false, true, false, false, false, false, false, false, false, false, false, false] rfl rfl (any_of HT_.out (by kernel_rfl)) (fun _ _ _ h => h) (Or.inl ⟨by rfl, ?_⟩) ?_ ?_
                                   rotate_left; ·intro w'; go_simp; with_reducible rfl
                                   rotate_left; ·simp only [Act.put, sA_, sZ_, sS_, i64_w, i32_w]; rfl
                                   refine pure_ (i := 10) (N := some 131) (v := ?_) (a' := ?_) #[true, true, true, false, true, true, true, false, false, true, true, false, false, false, false, false, false, false, false, false] rfl rfl (any_of HT_.out (by kernel_rfl)) (fun _ _ _ h => h) (Or.inl ⟨by rfl, ?_⟩) ?_ ?_
                                   rotate_left; ·intro w'; go_simp; with_reducible rfl
                                   rotate_left; ·simp only [Act.put, sA_, sZ_, sS_, i64_w, i32_w]; rfl
                                   refine pure_ (i := 11) (N := some 132) (v := ?_) (a' := ?_) #[true, true, true, false, true, true, true, false, false, true, true, true, false, false, false, false, false, false, false, false] rfl rfl (any_of HT_.out (by kernel_rfl)) (fun _ _ _ h => h) (Or.inl ⟨by rfl, ?_⟩) ?_ ?_
                                   rotate_left; ·intro w'; go_simp; with_reducible rfl
                                   rotate_left; ·simp only [Act.put, sA_, sZ_, sS_, i64_w, i32_w]; rfl
                                   refine pure_ (i := 14) (N := some 135) (v := ?_) (a' := ?_) #[true, true, true, false, true, true, true, false, false, true, true, true, false, false, true, false, false, false, false, false] rfl rfl (any_of HT_.out (by kernel_rfl)) (fun _ _ _ h => h) (Or.inl ⟨by rfl, ?_⟩) ?_ ?_
                                   rotate_left; ·intro w'; go_simp; with_reducible rfl
                                   rotate_left; ·simp only [Act.put, sA_, sZ_, sS_, i64_w, i32_w]; rfl
                                   refine pure_ (i := 15) (N := some 136) (v := ?_) (a' := ?_) #[true, true, true, false, true, true, true, false, false, true, true, true, false, false, true, true, false, false, false, false] rfl rfl (any_of HT_.out (by kernel_rfl)) (fun _ _ _ h => h) (Or.inl ⟨by rfl, ?_⟩) ?_ ?_
                                   rotate_left; ·intro w'; go_simp; with_reducible rfl
                                   rotate_left; ·simp only [Act.put, sA_, sZ_, sS_, i64_w, i32_w]; rfl
                                   refine pure_ (i := 16) (N := some 137) (v := ?_) (a' := ?_) #[true, true, true, false, true, true, true, false, false, true, true, true, false, false, true, true, true, false, false, false] rfl rfl (any_of HT_.out (by kernel_rfl)) (fun _ _ _ h => h) (Or.inl ⟨by rfl, ?_⟩) ?_ ?_
                                   rotate_left; ·intro w'; go_simp; with_reducible rfl
                                   rotate_left; ·simp only [Act.put, sA_, sZ_, sS_, i64_w, i32_w]; rfl
                                   refine take_ (i := 3) (N := some 124) (v := ?_) (a' := ?_) #[true, true, true, true, true, true, true, false, false, true, true, true, false, false, true, true, true, false, false, false] rfl rfl (take_ofW HT_.out HW_.out (by kernel_rfl)) (fun _ _ _ h => h) (Or.inl ⟨by rfl, ?_⟩) hHeld ?_ ?_
                                   rotate_left
                                   ·rintro w' ⟨s0, s1, s2, s3, s4, s5⟩; go_simp; with_reducible rfl
                                   rotate_left; ·simp only [Act.put, sA_, sZ_, sS_, i64_w, i32_w]; rfl
                                   refine take_ (i := 7) (N := some 128) (v := ?_) (a' := ?_) #[true, true, true, true, true, true, true, true, false, true, true, true, false, false, true, true, true, false, false, false] rfl rfl (take_ofW HT_.out HW_.out (by kernel_rfl)) (fun _ _ _ h => h) (Or.inl ⟨by rfl, ?_⟩) hHeld ?_ ?_
                                   rotate_left
                                   ·rintro w' ⟨s0, s1, s2, s3, s4, s5⟩; go_simp; with_reducible rfl
                                   rotate_left; ·simp only [Act.put, sA_, sZ_, sS_, i64_w, i32_w]; rfl
                                   refine take_ (i := 12) (N := some 133) (v := ?_) (a' := ?_) #[true, true, true, true, true, true, true, true, false, true, true, true, true, false, true, true, true, false, false, false] rfl rfl (take_ofW HT_.out HW_.out (by kernel_rfl)) (fun _ _ _ h => h) (Or.inl ⟨by rfl, ?_⟩) hHeld ?_ ?_
                                   rotate_left
                                   ·rintro w' ⟨s0, s1, s2, s3, s4, s5⟩; go_simp; with_reducible rfl
                                   rotate_left; ·simp only [Act.put, sA_, sZ_, sS_, i64_w, i32_w]; rfl
                                   refine take_ (i := 17) (N := some 138) (v := ?_) (a' := ?_) #[true, true, true, true, true, true, true, true, false, true, true, true, true, false, true, true, true, true, false, false] rfl rfl (take_ofW HT_.out HW_.out (by kernel_rfl)) (fun _ _ _ h => h) (Or.inl ⟨by rfl, ?_⟩) hHeld ?_ ?_
                                   rotate_left
                                   ·rintro w' ⟨s0, s1, s2, s3, s4, s5⟩; go_simp; with_reducible rfl
                                   rotate_left; ·simp only [Act.put, sA_, sZ_, sS_, i64_w, i32_w]; rfl
                                   refine one_ (i := 8) (N := some 129) #[true, true, true, true, true, true, true, true, true, true, true, true, true, false, true, true, true, true, false, false] rfl rfl (one_of HT_.out (by kernel_rfl)) (by decide) (fun K hK => ?_)
                                   refine goes_ Try.func15 (by kernel_rfl) rfl #[.agg #[.int .i64 ((rd_T31 l0 x12_3).f0), .int .i64 ((rd_T31 l0 x12_3).f1)], .agg #[.int .i64 ((rd_T31 l0 x118_4).f0), .int .i64 ((rd_T31 l0 x118_4).f1)]] (by rfl) rfl rfl (by (try simp only [List.map_toArray, List.map_cons, List.map_nil]); first | done | rfl | (simp only [List.length_drop, List.length_take]; rfl)) ?_
                                   with_reducible refine (tour_Distance.calls ((rd_T31 l0 x12_3).f0) ((rd_T31 l0 x12_3).f1) ((rd_T31 l0 x118_4).f0) ((rd_T31 l0 x118_4).f1) t168 _ A74.out).mono ?_
                                   rintro e w94 ⟨rfl, hb⟩
                                   refine ⟨_, rfl, ?_⟩
                                   have n0_ := Aside0.mk (Kd.R_below (by (with_reducible repeat (first | apply Kd.R_alloc | apply Kd.R_drewN | apply Kd.R_drew)); exact HO_6.out) hb)
                                   have n1_ := Aside0.mk (Kd.R_below (by (with_reducible repeat (first | apply Kd.R_alloc | apply Kd.R_drewN | apply Kd.R_drew)); exact HO_7.out) hb)
                                   have n2_ := Aside0.mk (Kd.R_below (by (with_reducible repeat (first | apply Kd.R_alloc | apply Kd.R_drewN | apply Kd.R_drew)); exact HO_8.out) hb)
                                   have n3_ := Aside0.mk (Kd.R_below (by (with_reducible repeat (first | apply Kd.R_alloc | apply Kd.R_drewN | apply Kd.R_drew)); exact HO_9.out) hb)
                                   have n4_ := Aside0.mk (below_step (by repeat (first | (with_reducible first | exact HB.out | apply below_alloc | apply pw_below_drewN | apply below_drew1) | exact HB.out)) hb)
                                   clear HO_6; clear HO_7; clear HO_8; clear HO_9; clear HB; have HO_6 := n0_; have HO_7 := n1_; have HO_8 := n2_; have HO_9 := n3_; have HB := n4_; clear n0_ n1_ n2_ n3_ n4_; (try clear hb); (try clear hb2); (try clear hk); (try clear hi)
                                   refine hK.out _ _ ⟨((HB.out.cell (World.block_lt_of_cell? w _ hw166_0)).trans hw166_0), ((HB.out.cell (World.block_lt_of_cell? w _ hw166_1)).trans hw166_1), ((HB.out.cell (World.block_lt_of_cell? w _ hw167_0)).trans hw167_0), ((HB.out.cell (World.block_lt_of_cell? w _ hw167_1)).trans hw167_1), ((HB.out.cell (World.block_lt_of_cell? w _ hw169_0)).trans hw169_0), ((HB.out.cell (World.block_lt_of_cell? w _ hw170_0)).trans hw170_0)⟩ (fun hHeld => ?_)
                                   clear hK K
                                   refine norm_ (a' := ?_) ?_ ?_
                                   rotate_left
                                   ·show Act.put _ (some 129) _ = _
                                    simp only [Act.put, sA_, sZ_, sS_, i64_w, i32_w]; rfl
                                   refine pure_ (i := 13) (N := some 134) (v := ?_) (a' := ?_) #[true, true, true, true, true, true, true, true, true, true, true, true, true, true, true, true, true, true, false, false] rfl rfl (any_of HT_.out (by kernel_rfl)) (fun _ _ _ h => h) (Or.inl ⟨by rfl, ?_⟩) ?_ ?_
                                   rotate_left; ·intro w'; go_simp; with_reducible rfl
                                   rotate_left; ·simp only [Act.put, sA_, sZ_, sS_, i64_w, i32_w]; rfl
                                   refine pure_ (i := 18) (N := some 139) (v := ?_) (a' := ?_) #[true, true, true, true, true, true, true, true, true, true, true, true, true, true, true, true, true, true, true, false] rfl rfl (any_of HT_.out (by kernel_rfl)) (fun _ _ _ h => h) (Or.inl ⟨by rfl, ?_⟩) ?_ ?_
                                   rotate_left; ·intro w'; go_simp; with_reducible rfl
                                   rotate_left; ·simp only [Act.put, sA_, sZ_, sS_, i64_w, i32_w]; rfl
                                   refine pure_ (i := 19) (N := some 15) (v := ?_) (a' := ?_) #[true, true, true, true, true, true, true, true, true, true, true, true, true, true, true, true, true, true, true, true] rfl rfl (any_of HT_.out (by kernel_rfl)) (fun _ _ _ h => h) (Or.inl ⟨by rfl, ?_⟩) ?_ ?_
                                   rotate_left; ·intro w'; go_simp; with_reducible rfl
                                   rotate_left; ·simp only [Act.put, sA_, sZ_, sS_, i64_w, i32_w]; rfl
                                   refine done_ (done_of HT_.out (by kernel_rfl)) ?_
                                   have p171 : 0 ≤ (x118_4 : Int) := of_decide_eq_true (by first | (with_reducible assumption) | assumption)
                                   have q171 : x118_4 < (y159.length : Int) := of_decide_eq_true (by first | (with_reducible assumption) | assumption)
                                   obtain ⟨ad171, e171, hx171_0⟩ := Kd.at_bool (Kd.R_reads' HO_7.out).2.2 x118_4 p171 q171
                                   (try rw [← Nbq78.out] at hx171_0)
                                   obtain rfl : (⟨go10, 0, none⟩ : Addr) = ad171 := (by injection e171)
                                   (first | simp only [add_plain] at hx171_0 | simp only [add_at] at hx171_0 | simp only [Addr.add, Nat.zero_add] at hx171_0 | skip)
                                   replace p171 := eq_true p171; replace q171 := eq_true q171
                                   have p172 : 0 ≤ (x118_4 : Int) := of_decide_eq_true (by first | (with_reducible assumption) | assumption)
                                   have q172 : x118_4 < (x8_4.length : Int) := of_decide_eq_true (by first | (with_reducible assumption) | assumption)
                                   obtain ⟨ad172, e172, hx172_0⟩ := Kd.at_int (Kd.R_reads' HO_8.out).2.2 x118_4 p172 q172
                                   obtain rfl : ad160 = ad172 := (by injection e172)
                                   replace p172 := eq_true p172; replace q172 := eq_true q172
                                   try go_wp2
                                   (try simp only [← hl6_4, ← hl7_4, ← hl8_4, ← hl9_4])
                                   go_roundg k4
                                   case measure => have := HK1.out; have := HK2.out; have := HK3.out; have := HK4.out; omega
                                   case rel => exact ⟨(x8_4), (x9_4), (wrap64 (x118_4 + 1)), (by first | rfl | (simp; done) | (simp [*]; done)), H', ⟨by have := HK1.out; have := HK2.out; have := HK3.out; have := HK4.out; omega⟩, ⟨by (try simp only [hl7_1]); (try simp only [hl7_2]); (try simp only [hl6_4]); (try simp only [hl7_4]); (try simp only [hl8_4]); (try simp only [hl9_4]); (with_reducible repeat (first | apply Kd.R_alloc | apply Kd.R_drewN | apply Kd.R_drew)); exact HO_6.out⟩, ⟨by (try simp only [hl7_1]); (try simp only [hl7_2]); (try simp only [hl6_4]); (try simp only [hl7_4]); (try simp only [hl8_4]); (try simp only [hl9_4]); (with_reducible repeat (first | apply Kd.R_alloc | apply Kd.R_drewN | apply Kd.R_drew)); exact HO_7.out⟩, ⟨by (try simp only [hl7_1]); (try simp only [hl7_2]); (try simp only [hl6_4]); (try simp only [hl7_4]); (try simp only [hl8_4]); (try simp only [hl9_4]); (with_reducible repeat (first | apply Kd.R_alloc | apply Kd.R_drewN | apply Kd.R_drew)); exact HO_8.out⟩, ⟨by (try simp only [hl7_1]); (try simp only [hl7_2]); (try simp only [hl6_4]); (try simp only [hl7_4]); (try simp only [hl8_4]); (try simp only [hl9_4]); (with_reducible repeat (first | apply Kd.R_alloc | apply Kd.R_drewN | apply Kd.R_drew)); exact HO_9.out⟩, ⟨by repeat (first | (with_reducible first | exact HB.out | apply below_alloc | apply pw_below_drewN | apply below_drew1) | exact HB.out)⟩⟩
                                 ·rw [if_neg c82] at H
                                  exact absurd H (by simp)
                               ·rw [if_neg c77] at H
                                exact absurd H (by simp)
                              ·rw [if_neg c76] at H
                               exact absurd H (by simp)
                             ·rw [if_neg c75] at H
                              exact absurd H (by simp)
                            ·rw [if_neg c73] at H
                             exact absurd H (by simp)
                           ·rw [if_neg c72] at H
                            exact absurd H (by simp)
                          ·rw [if_neg c71] at H
                           exact absurd H (by simp)
                         ·rw [if_neg c70] at H
                          exact absurd H (by simp)
                        ·rw [if_neg c69] at H
                         have c69b0 : decide (x118_4 < (l0.length : Int)) = false := decide_eq_false c69
                         clear c69; have H' := Aside0.mk H; clear H; go_wp2
                         (try simp only [← hl7_2, ← hl6_4, ← hl7_4, ← hl8_4, ← hl9_4])
                         go_roundg k4
                         case measure => have := HK1.out; have := HK2.out; have := HK3.out; have := HK4.out; omega
                         case rel => exact ⟨(y165), (y159), (x8_4), (x9_4), ((wrap64 (x11_2 + (rd x8_2 x12_3)))), (wrap64 (x63_2 + 1)), (by first | rfl | (simp; done) | (simp [*]; done)), (by first | rfl | (simp; done) | (simp [*]; done)), H', ⟨by have := HK1.out; have := HK2.out; have := HK3.out; have := HK4.out; omega⟩, ⟨by (try simp only [hl7_1]); (try simp only [hl7_2]); (try simp only [hl6_4]); (try simp only [hl7_4]); (try simp only [hl8_4]); (try simp only [hl9_4]); (with_reducible repeat (first | apply Kd.R_alloc | apply Kd.R_drewN | apply Kd.R_drew)); exact HO_6.out⟩, ⟨by (try simp only [hl7_1]); (try simp only [hl7_2]); (try simp only [hl6_4]); (try simp only [hl7_4]); (try simp only [hl8_4]); (try simp only [hl9_4]); (with_reducible repeat (first | apply Kd.R_alloc | apply Kd.R_drewN | apply Kd.R_drew)); exact HO_7.out⟩, ⟨by (try simp only [hl7_1]); (try simp only [hl7_2]); (try simp only [hl6_4]); (try simp only [hl7_4]); (try simp only [hl8_4]); (try simp only [hl9_4]); (with_reducible repeat (first | apply Kd.R_alloc | apply Kd.R_drewN | apply Kd.R_drew)); exact HO_8.out⟩, ⟨by (try simp only [hl7_1]); (try simp only [hl7_2]); (try simp only [hl6_4]); (try simp only [hl7_4]); (try simp only [hl8_4]); (try simp only [hl9_4]); (with_reducible repeat (first | apply Kd.R_alloc | apply Kd.R_drewN | apply Kd.R_drew)); exact HO_9.out⟩, ⟨by repeat (first | (with_reducible first | exact HB.out | apply below_alloc | apply pw_below_drewN | apply below_drew1) | exact HB.out)⟩⟩
                     ·rw [if_neg c58] at H
                      exact absurd H (by simp)
                    ·rw [if_neg c57] at H
                     exact absurd H (by simp)
                   ·rw [if_neg c56] at H
                    exact absurd H (by simp)
                  ·rw [if_neg c54] at H
                   exact absurd H (by simp)
                 ·rw [if_neg c53] at H
                  exact absurd H (by simp)
                ·rw [if_neg c51] at H
                 exact absurd H (by simp)
               ·rw [if_neg c50] at H
                exact absurd H (by simp)
           ·rw [if_neg c33] at H
            have c33b0 : decide (x63_2 < (wrap64 ((l0.length : Int) - 1))) = false := decide_eq_false c33
            clear c33
            simp only [Option.some.injEq, Prod.mk.injEq] at H
            obtain ⟨rfl, rfl⟩ := H
            go_wp2
            go_ret2
            exact ⟨_, by first | rfl | (simp [errW_none, errW_some] <;> rfl) | (simp [*, errW_none, errW_some] <;> rfl), by (with_reducible repeat (first | apply Kd.R_alloc | apply Kd.R_drewN | apply Kd.R_drew)); exact Kd.R_mono HO_6.out (fun _ hk => trivial), by repeat (first | (with_reducible first | exact HB.out | apply below_alloc | apply pw_below_drewN | apply below_drew1) | exact HB.out)⟩
     ·rw [if_neg c9] at H
      exact absurd H (by simp)
    ·rw [if_neg c8] at H
     exact absurd H (by simp)
  ·rw [if_neg c4] at H
   exact absurd H (by simp)
 ·rw [if_neg c3] at H
  exact absurd H (by simp)

end Go.Proofs.Ytohjocajaanhaaa.P
