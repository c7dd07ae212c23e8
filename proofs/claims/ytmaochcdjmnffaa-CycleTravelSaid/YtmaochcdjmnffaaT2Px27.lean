-- PRINTED by print.py (a twelfth state) out of the translation. Not trusted: Lean checks it.
import Derived.Test.YtmaochcdjmnffaaT2Px0
import Derived.Test.YtmaochcdjmnffaaT2Px19
import Derived.Test.YtmaochcdjmnffaaT2Px25
import Derived.Test.YtmaochcdjmnffaaT2Px26
namespace Go.Proofs.Ytmaochcdjmnffaa.P
open Go.RowKit Go.Proofs.YtmaochcdjmnffaaW.PrintWords Go.Proofs.YtmaochcdjmnffaaW.PrintLast Go.Proofs.YtmaochcdjmnffaaW.PrintMore
attribute [local go_sem] max2_int min2_int max_two min_two max_three min_three max_four min_four   -- for this text's walks alone
set_option linter.unusedVariables false
set_option linter.unusedSimpArgs false

/-! ### swarfref44_one: function 29 -/
def swarfref44_one.l0 : Nat → List Int → Int → Int → Int → Int → Int → Int → Int → Bool → Int → Int → Int → List (S45) → Option (Int × Int × Int × (List (S45)))
  | 0, _, _, _, _, _, _, _, _, _, _, _, _, _ => none
  | k + 1, x7, x9, x259000, x259001, x259002, x259003, x259004, x259005, x259006, x260000, x260001, x260002, x260003 => if x9 < (x7.length : Int) then (if 0 ≤ x9 then ((swarfref44_up.f x260000 x260001 x260002 (rd x7 x9)).bind fun bt291 => ((swarfref44_to.f x260000 x260001 x260002 x260003 bt291.1 bt291.2.1 bt291.2.2 x259004).bind fun bt294 => ((swarfref44_up.f bt294.1 bt294.2.1 bt294.2.2.1 x259001).bind fun bt300 => ((swarfref44_to.f bt294.1 bt294.2.1 bt294.2.2.1 bt294.2.2.2 bt300.1 bt300.2.1 bt300.2.2 0).bind fun bt303 => (swarfref44_one.l0 k x7 (wrap64 (x9 + 1)) x259000 x259001 x259002 x259003 x259004 x259005 x259006 bt303.1 bt303.2.1 bt303.2.2.1 bt303.2.2.2))))) else (none)) else (if x259006 = true then ((swarfref44_up.f x260000 x260001 x260002 x259005).bind fun bt309 => ((swarfref44_to.f x260000 x260001 x260002 x260003 bt309.1 bt309.2.1 bt309.2.2 0).bind fun bt312 => (some (bt312.1, bt312.2.1, bt312.2.2.1, bt312.2.2.2)))) else (some (x260000, x260001, x260002, x260003)))
def swarfref44_one.f (k : Nat) (a0_0 : Int) (a0_1 : Int) (a0_2 : Int) (a0_3 : Int) (a0_4 : Int) (a0_5 : Int) (a0_6 : Bool) (a1_0 : Int) (a1_1 : Int) (a1_2 : Int) (l1_3 : List (S45)) (a2_0 : Int) (a2_1 : Int) : Option (Int × Int × Int × (List (S45))) := (swarfref44_Depths.f k a0_0 a0_1 a0_2 a0_3 a0_4 a0_5 a0_6).bind fun bt262 => ((swarfref44_up.f a1_0 a1_1 a1_2 (mx a1_2 a0_1)).bind fun bt266 => ((swarfref44_to.f a1_0 a1_1 a1_2 l1_3 bt266.1 bt266.2.1 bt266.2.2 0).bind fun bt269 => ((swarfref44_to.f bt269.1 bt269.2.1 bt269.2.2.1 bt269.2.2.2 a2_0 a2_1 bt269.2.2.1 0).bind fun bt275 => ((swarfref44_up.f bt275.1 bt275.2.1 bt275.2.2.1 a0_1).bind fun bt281 => ((swarfref44_to.f bt275.1 bt275.2.1 bt275.2.2.1 bt275.2.2.2 bt281.1 bt281.2.1 bt281.2.2 0).bind fun bt284 => (swarfref44_one.l0 k bt262.1 0 a0_0 a0_1 a0_2 a0_3 a0_4 a0_5 a0_6 bt284.1 bt284.2.1 bt284.2.2.1 bt284.2.2.2))))))
theorem swarfref44_one.mono_l : ∀ k, (∀ y0 y1 y2 y3 y4 y5 y6 y7 y8 y9 y10 y11 y12, LeO (swarfref44_one.l0 k y0 y1 y2 y3 y4 y5 y6 y7 y8 y9 y10 y11 y12) (swarfref44_one.l0 (k + 1) y0 y1 y2 y3 y4 y5 y6 y7 y8 y9 y10 y11 y12))
  | 0 => fun _ _ _ _ _ _ _ _ _ _ _ _ _ r h => by simp [swarfref44_one.l0] at h
  | k + 1 => by
    have ih0 := swarfref44_one.mono_l k
    · intro y0 y1 y2 y3 y4 y5 y6 y7 y8 y9 y10 y11 y12
      unfold swarfref44_one.l0
      repeat' first
      | (with_reducible exact ih0 _ _ _ _ _ _ _ _ _ _ _ _ _)
      | (with_reducible exact swarfref44_Depths.mono _ _ _ _ _ _ _ _)
      | (with_reducible exact LeO.refl _)
      | (with_reducible exact LeO.none _)
      | (with_reducible refine LeO.ite ?_ ?_)
      | (with_reducible refine LeO.bind ?_ (fun _ => ?_))
      | exact ih0 _ _ _ _ _ _ _ _ _ _ _ _ _
      | exact swarfref44_Depths.mono _ _ _ _ _ _ _ _
      | exact LeO.none _
      | refine LeO.ite ?_ ?_
      | refine LeO.bind ?_ (fun _ => ?_)
theorem swarfref44_one.mono : ∀ a0 a1 a2 a3 a4 a5 a6 a7 a8 a9 a10 a11 a12 k, LeO (swarfref44_one.f k a0 a1 a2 a3 a4 a5 a6 a7 a8 a9 a10 a11 a12) (swarfref44_one.f (k + 1) a0 a1 a2 a3 a4 a5 a6 a7 a8 a9 a10 a11 a12) := by
  intro a0 a1 a2 a3 a4 a5 a6 a7 a8 a9 a10 a11 a12 k
  have ih0 := swarfref44_one.mono_l k
  unfold swarfref44_one.f
  repeat' first
      | (with_reducible exact ih0 _ _ _ _ _ _ _ _ _ _ _ _ _)
      | (with_reducible exact swarfref44_Depths.mono _ _ _ _ _ _ _ _)
      | (with_reducible exact LeO.refl _)
      | (with_reducible exact LeO.none _)
      | (with_reducible refine LeO.ite ?_ ?_)
      | (with_reducible refine LeO.bind ?_ (fun _ => ?_))
      | exact ih0 _ _ _ _ _ _ _ _ _ _ _ _ _
      | exact swarfref44_Depths.mono _ _ _ _ _ _ _ _
      | exact LeO.none _
      | refine LeO.ite ?_ ?_
      | refine LeO.bind ?_ (fun _ => ?_)
def swarfref44_one.T2 : Bool × List (List Nat × List Nat) := (true, [([], []), ([], []), ([1], [1]), ([], []), ([3], [3]), ([4], [4]), ([], []), ([6], [6]), ([5, 7], [5, 7]), ([2, 8], [2, 8]), ([0, 9, 9], [0, 9]), ([10, 10, 0, 1, 2, 3, 4, 5, 6, 7, 8, 9, 10], [10])])
def swarfref44_one.B2 : List Nat := [0, 0, 2, 0, 8, 24, 0, 64, 248, 510, 1023, 2047]
theorem swarfref44_one.tab2 : rtab .any (opsOf Try.f29 2) = swarfref44_one.T2 := by kernel_rfl
theorem swarfref44_one.bits2 : waitsOk swarfref44_one.T2.2 swarfref44_one.B2 = true := by kernel_rfl
def swarfref44_one.T4 : Bool × List (List Nat × List Nat) := (true, [([], []), ([], []), ([1], [1]), ([], []), ([3], [3]), ([2, 4], [2, 4]), ([0, 5, 5], [0, 5]), ([6, 6, 0, 1, 2, 3, 4, 5, 6], [6])])
def swarfref44_one.B4 : List Nat := [0, 0, 2, 0, 8, 30, 63, 127]
theorem swarfref44_one.tab4 : rtab .any (opsOf Try.f29 4) = swarfref44_one.T4 := by kernel_rfl
theorem swarfref44_one.bits4 : waitsOk swarfref44_one.T4.2 swarfref44_one.B4 = true := by kernel_rfl
def swarfref44_one.T8 : Bool × List (List Nat × List Nat) := (true, [([], []), ([], []), ([1], [1]), ([], []), ([], []), ([3, 4], [3, 4]), ([5], [5]), ([2, 6], [2, 6]), ([], []), ([8], [8]), ([0, 7, 9, 7], [0, 7, 9]), ([10, 10, 0, 1, 2, 3, 4, 5, 6, 7, 8, 9, 10], [10])])
def swarfref44_one.B8 : List Nat := [0, 0, 2, 0, 0, 24, 56, 126, 0, 256, 1023, 2047]
theorem swarfref44_one.tab8 : rtab .any (opsOf Try.f29 8) = swarfref44_one.T8 := by kernel_rfl
theorem swarfref44_one.bits8 : waitsOk swarfref44_one.T8.2 swarfref44_one.B8 = true := by kernel_rfl
def swarfref44_one.T9 : Bool × List (List Nat × List Nat) := (true, [([], []), ([], []), ([1], [1]), ([], []), ([3], [3]), ([2, 4], [2, 4]), ([0, 5, 5], [0, 5]), ([6, 6, 0, 1, 2, 3, 4, 5, 6], [6])])
def swarfref44_one.B9 : List Nat := [0, 0, 2, 0, 8, 30, 63, 127]
theorem swarfref44_one.tab9 : rtab .any (opsOf Try.f29 9) = swarfref44_one.T9 := by kernel_rfl
theorem swarfref44_one.bits9 : waitsOk swarfref44_one.T9.2 swarfref44_one.B9 = true := by kernel_rfl
def swarfref44_one.T11 : Bool × List (List Nat × List Nat) := (true, [([], []), ([], []), ([1], [1]), ([], []), ([3], [3]), ([2, 4], [2, 4]), ([0, 5, 5], [0, 5]), ([6, 6, 0, 1, 2, 3, 4, 5, 6], [6])])
def swarfref44_one.B11 : List Nat := [0, 0, 2, 0, 8, 30, 63, 127]
theorem swarfref44_one.tab11 : rtab .any (opsOf Try.f29 11) = swarfref44_one.T11 := by kernel_rfl
theorem swarfref44_one.bits11 : waitsOk swarfref44_one.T11.2 swarfref44_one.B11 = true := by kernel_rfl
set_option maxHeartbeats 8000000 in
set_option maxRecDepth 100000 in
theorem swarfref44_one.calls (k : Nat) (a0_0 : Int) (a0_1 : Int) (a0_2 : Int) (a0_3 : Int) (a0_4 : Int) (a0_5 : Int) (a0_6 : Bool) (a1_0 : Int) (a1_1 : Int) (a1_2 : Int) (P1_3_ : Nat → Prop) (u9000_ : Value) (l1_3 : List (S45)) (a2_0 : Int) (a2_1 : Int) (r1 : Int) (r2 : Int) (r3 : Int) (r4 : List (S45)) (w0 w : World) (hB : Below w0.heap.size w0 w) (ho1_3 : Kd.R k45 45 w w0.heap.size P1_3_ u9000_ l1_3) (h : swarfref44_one.f k a0_0 a0_1 a0_2 a0_3 a0_4 a0_5 a0_6 a1_0 a1_1 a1_2 l1_3 a2_0 a2_1 = some (r1, r2, r3, r4)) :
    Calls Try.prog 29 #[.agg #[.int .i64 a0_0, .int .i64 a0_1, .int .i64 a0_2, .int .i64 a0_3, .int .i64 a0_4, .int .i64 a0_5, .bool a0_6], .agg #[.int .i64 a1_0, .int .i64 a1_1, .int .i64 a1_2, u9000_], .agg #[.int .i64 a2_0, .int .i64 a2_1]] w fun e w' => ∃ v3_ : Value, e = .returned (.agg #[.int .i64 r1, .int .i64 r2, .int .i64 r3, v3_]) ∧ Kd.R k45 45 w' w0.heap.size (fun k_ => (P1_3_ k_ ∨ w.heap.size ≤ k_)) v3_ r4 ∧ Below w0.heap.size w0 w' ∧ Kept w w' (fun k_ => P1_3_ k_) := by
  have hu23 := Try.underlying23
  have hu73 := Try.underlying73
  have hu43 := Try.underlying43
  have hu36 := Try.underlying36
  have HO1_3 := Aside0.mk (show Kd.R k45 45 w w0.heap.size (fun k_ => (P1_3_ k_ ∨ w.heap.size ≤ k_)) u9000_ l1_3 from Kd.R_mono ho1_3 (fun k_ hk => (.inl hk)))
  have HK := Aside0.mk (Kept.refl w (fun k_ => P1_3_ k_))
  have HW0 := Aside0.mk hB.size
  have HB := Aside0.mk hB
  clear hB
  have H : ((swarfref44_Depths.f k a0_0 a0_1 a0_2 a0_3 a0_4 a0_5 a0_6).bind fun bt262 => ((swarfref44_up.f a1_0 a1_1 a1_2 (mx a1_2 a0_1)).bind fun bt266 => ((swarfref44_to.f a1_0 a1_1 a1_2 l1_3 bt266.1 bt266.2.1 bt266.2.2 0).bind fun bt269 => ((swarfref44_to.f bt269.1 bt269.2.1 bt269.2.2.1 bt269.2.2.2 a2_0 a2_1 bt269.2.2.1 0).bind fun bt275 => ((swarfref44_up.f bt275.1 bt275.2.1 bt275.2.2.1 a0_1).bind fun bt281 => ((swarfref44_to.f bt275.1 bt275.2.1 bt275.2.2.1 bt275.2.2.2 bt281.1 bt281.2.1 bt281.2.2 0).bind fun bt284 => (swarfref44_one.l0 k bt262.1 0 a0_0 a0_1 a0_2 a0_3 a0_4 a0_5 a0_6 bt284.1 bt284.2.1 bt284.2.2.1 bt284.2.2.2))))))) = some (r1, r2, r3, r4) := h
  clear h
  replace H := Option.bind_eq_some_iff.mp H
  obtain ⟨⟨t262, t265⟩, A40, H⟩ := H
  replace H : ((swarfref44_up.f a1_0 a1_1 a1_2 (mx a1_2 a0_1)).bind fun bt266 => ((swarfref44_to.f a1_0 a1_1 a1_2 l1_3 bt266.1 bt266.2.1 bt266.2.2 0).bind fun bt269 => ((swarfref44_to.f bt269.1 bt269.2.1 bt269.2.2.1 bt269.2.2.2 a2_0 a2_1 bt269.2.2.1 0).bind fun bt275 => ((swarfref44_up.f bt275.1 bt275.2.1 bt275.2.2.1 a0_1).bind fun bt281 => ((swarfref44_to.f bt275.1 bt275.2.1 bt275.2.2.1 bt275.2.2.2 bt281.1 bt281.2.1 bt281.2.2 0).bind fun bt284 => (swarfref44_one.l0 k t262 0 a0_0 a0_1 a0_2 a0_3 a0_4 a0_5 a0_6 bt284.1 bt284.2.1 bt284.2.2.1 bt284.2.2.2)))))) = some (r1, r2, r3, r4) := H
  have A4 := Aside0.mk A40
  clear A40
  obtain ⟨ji5, hji5⟩ : ∃ j_ : Int, (mx a1_2 a0_1) = j_ := ⟨_, rfl⟩
  replace H : ((swarfref44_up.f a1_0 a1_1 a1_2 (ji5)).bind fun bt266 => ((swarfref44_to.f a1_0 a1_1 a1_2 l1_3 bt266.1 bt266.2.1 bt266.2.2 0).bind fun bt269 => ((swarfref44_to.f bt269.1 bt269.2.1 bt269.2.2.1 bt269.2.2.2 a2_0 a2_1 bt269.2.2.1 0).bind fun bt275 => ((swarfref44_up.f bt275.1 bt275.2.1 bt275.2.2.1 a0_1).bind fun bt281 => ((swarfref44_to.f bt275.1 bt275.2.1 bt275.2.2.1 bt275.2.2.2 bt281.1 bt281.2.1 bt281.2.2 0).bind fun bt284 => (swarfref44_one.l0 k t262 0 a0_0 a0_1 a0_2 a0_3 a0_4 a0_5 a0_6 bt284.1 bt284.2.1 bt284.2.2.1 bt284.2.2.2)))))) = some (r1, r2, r3, r4) := by first | (rw [hji5] at H; exact H) | (simp only [hji5] at H ⊢; exact H)
  (try rw [hji5] at A4)
  have hji5_ : (if a1_2 < a0_1 then a0_1 else a1_2) = ji5 := hji5
  replace H := Option.bind_eq_some_iff.mp H
  obtain ⟨⟨t266, t267, t268⟩, A60, H⟩ := H
  replace H : ((swarfref44_to.f a1_0 a1_1 a1_2 l1_3 t266 t267 t268 0).bind fun bt269 => ((swarfref44_to.f bt269.1 bt269.2.1 bt269.2.2.1 bt269.2.2.2 a2_0 a2_1 bt269.2.2.1 0).bind fun bt275 => ((swarfref44_up.f bt275.1 bt275.2.1 bt275.2.2.1 a0_1).bind fun bt281 => ((swarfref44_to.f bt275.1 bt275.2.1 bt275.2.2.1 bt275.2.2.2 bt281.1 bt281.2.1 bt281.2.2 0).bind fun bt284 => (swarfref44_one.l0 k t262 0 a0_0 a0_1 a0_2 a0_3 a0_4 a0_5 a0_6 bt284.1 bt284.2.1 bt284.2.2.1 bt284.2.2.2))))) = some (r1, r2, r3, r4) := H
  have A6 := Aside0.mk A60
  clear A60
  replace H := Option.bind_eq_some_iff.mp H
  obtain ⟨⟨t269, t270, t271, t272⟩, A70, H⟩ := H
  replace H : ((swarfref44_to.f t269 t270 t271 t272 a2_0 a2_1 t271 0).bind fun bt275 => ((swarfref44_up.f bt275.1 bt275.2.1 bt275.2.2.1 a0_1).bind fun bt281 => ((swarfref44_to.f bt275.1 bt275.2.1 bt275.2.2.1 bt275.2.2.2 bt281.1 bt281.2.1 bt281.2.2 0).bind fun bt284 => (swarfref44_one.l0 k t262 0 a0_0 a0_1 a0_2 a0_3 a0_4 a0_5 a0_6 bt284.1 bt284.2.1 bt284.2.2.1 bt284.2.2.2)))) = some (r1, r2, r3, r4) := H
  have A7 := Aside0.mk A70
  clear A70
  replace H := Option.bind_eq_some_iff.mp H
  obtain ⟨⟨t275, t276, t277, t278⟩, A80, H⟩ := H
  replace H : ((swarfref44_up.f t275 t276 t277 a0_1).bind fun bt281 => ((swarfref44_to.f t275 t276 t277 t278 bt281.1 bt281.2.1 bt281.2.2 0).bind fun bt284 => (swarfref44_one.l0 k t262 0 a0_0 a0_1 a0_2 a0_3 a0_4 a0_5 a0_6 bt284.1 bt284.2.1 bt284.2.2.1 bt284.2.2.2))) = some (r1, r2, r3, r4) := H
  have A8 := Aside0.mk A80
  clear A80
  replace H := Option.bind_eq_some_iff.mp H
  obtain ⟨⟨t281, t282, t283⟩, A90, H⟩ := H
  replace H : ((swarfref44_to.f t275 t276 t277 t278 t281 t282 t283 0).bind fun bt284 => (swarfref44_one.l0 k t262 0 a0_0 a0_1 a0_2 a0_3 a0_4 a0_5 a0_6 bt284.1 bt284.2.1 bt284.2.2.1 bt284.2.2.2)) = some (r1, r2, r3, r4) := H
  have A9 := Aside0.mk A90
  clear A90
  replace H := Option.bind_eq_some_iff.mp H
  obtain ⟨⟨t284, t285, t286, t287⟩, A100, H⟩ := H
  replace H : (swarfref44_one.l0 k t262 0 a0_0 a0_1 a0_2 a0_3 a0_4 a0_5 a0_6 t284 t285 t286 t287) = some (r1, r2, r3, r4) := H
  have A10 := Aside0.mk A100
  clear A100
  have H' := Aside0.mk H
  clear H
  go_enter Try.func29, Try.ntmps29
  try go_wp2_with (first | ((with_reducible refine gate_dst (N := 3) rfl ?_); refine box_event ?hg (N := 3) ?hd (cs := #[.int .i64 a0_0, .int .i64 a0_1, .int .i64 a0_2, .int .i64 a0_3, .int .i64 a0_4, .int .i64 a0_5, .bool a0_6]) (t := 23) ?hr ?_; (case hd => rfl); (case hg => rfl); (case hr => first | (go_simp; done) | (go_simp; rfl)); intro gb258 hg w11 hbox hb; have n0_ := Aside0.mk (Kd.R_below (by (with_reducible repeat (first | apply Kd.R_alloc | apply Kd.R_drewN | apply Kd.R_drew)); exact HO1_3.out) hb); have n1_ := Aside0.mk (Kept.below (S := (fun k_ => P1_3_ k_)) (by repeat (first | (with_reducible first | exact HK.out | apply Kept.alloc | apply Kept.drewN | apply Kept.drew) | exact HK.out)) hb); have n2_ := Aside0.mk (below_step (by repeat (first | (with_reducible first | exact HB.out | apply below_alloc | apply pw_below_drewN | apply below_drew1) | exact HB.out)) hb); have n3_ := Aside0.mk (hbox); have n4_ := Aside0.mk ((by rw [hg]; exact (by first | exact HK.out.1 | exact (show Kept w _ (fun k_ => P1_3_ k_) from by repeat (first | (with_reducible first | exact HK.out | apply Kept.alloc | apply Kept.drewN | apply Kept.drew) | exact HK.out)).1) : w.heap.size ≤ gb258)); have n5_ := Aside0.mk ((by rw [hg]; exact (below_size (by repeat (first | (with_reducible first | exact HB.out | apply below_alloc | apply pw_below_drewN | apply below_drew1) | exact HB.out))) : w0.heap.size ≤ gb258)); clear HO1_3; clear HK; clear HB; have HO1_3 := n0_; have HK := n1_; have HB := n2_; have BK258 := n3_; have GW258 := n4_; have GE258 := n5_; clear n0_ n1_ n2_ n3_ n4_ n5_; clear hb hbox hg; obtain ⟨Ao12, co12, eo12⟩ := Kd.R_slice HO1_3.out; subst eo12) | ((with_reducible refine gate_dst (N := 4) rfl ?_); refine box_event ?hg (N := 4) ?hd (cs := #[.int .i64 a1_0, .int .i64 a1_1, .int .i64 a1_2, .slice Ao12 l1_3.length co12]) (t := 73) ?hr ?_; (case hd => rfl); (case hg => rfl); (case hr => first | (go_simp; done) | (go_simp; rfl)); intro gb259 hg w13 hbox hb; have n0_ := Aside0.mk (Kd.R_below (by (with_reducible repeat (first | apply Kd.R_alloc | apply Kd.R_drewN | apply Kd.R_drew)); exact HO1_3.out) hb); have n1_ := Aside0.mk (blk_below (g := gb258) (o := .cells #[.int .i64 a0_0, .int .i64 a0_1, .int .i64 a0_2, .int .i64 a0_3, .int .i64 a0_4, .int .i64 a0_5, .bool a0_6] 23 (0, 0)) (by (with_reducible repeat (first | refine blk_drewN ?_ _ | refine blk_drew ?_ | refine blk_alloc ?_ _)); exact BK258.out) hb); have n2_ := Aside0.mk (Kept.below (S := (fun k_ => P1_3_ k_)) (by repeat (first | (with_reducible first | exact HK.out | apply Kept.alloc | apply Kept.drewN | apply Kept.drew | refine Kept.setCell ?_ (.inr GW258.out) _) | exact HK.out)) hb); have n3_ := Aside0.mk (below_step (by repeat (first | (with_reducible first | exact HB.out | apply below_alloc | apply pw_below_drewN | apply below_drew1 | refine below_set ?_ GE258.out) | exact HB.out)) hb); have n4_ := Aside0.mk (hbox); have n5_ := Aside0.mk ((by rw [hg]; exact (by first | exact HK.out.1 | exact (show Kept w _ (fun k_ => P1_3_ k_) from by repeat (first | (with_reducible first | exact HK.out | apply Kept.alloc | apply Kept.drewN | apply Kept.drew | refine Kept.setCell ?_ (.inr GW258.out) _) | exact HK.out)).1) : w.heap.size ≤ gb259)); have n6_ := Aside0.mk ((by rw [hg]; exact (below_size (by repeat (first | (with_reducible first | exact HB.out | apply below_alloc | apply pw_below_drewN | apply below_drew1 | refine below_set ?_ GE258.out) | exact HB.out))) : w0.heap.size ≤ gb259)); have n7_ := Aside0.mk ((by rw [hg]; exact Nat.ne_of_lt (blk_lt (g := gb258) (o := .cells #[.int .i64 a0_0, .int .i64 a0_1, .int .i64 a0_2, .int .i64 a0_3, .int .i64 a0_4, .int .i64 a0_5, .bool a0_6] 23 (0, 0)) (by (with_reducible repeat (first | refine blk_drewN ?_ _ | refine blk_drew ?_ | refine blk_alloc ?_ _)); exact BK258.out)) : gb258 ≠ gb259)); have n8_ := Aside0.mk ((by rw [hg]; exact Nat.ne_of_gt (blk_lt (g := gb258) (o := .cells #[.int .i64 a0_0, .int .i64 a0_1, .int .i64 a0_2, .int .i64 a0_3, .int .i64 a0_4, .int .i64 a0_5, .bool a0_6] 23 (0, 0)) (by (with_reducible repeat (first | refine blk_drewN ?_ _ | refine blk_drew ?_ | refine blk_alloc ?_ _)); exact BK258.out)) : gb259 ≠ gb258)); clear HO1_3; clear BK258; clear HK; clear HB; have HO1_3 := n0_; have BK258 := n1_; have HK := n2_; have HB := n3_; have BK259 := n4_; have GW259 := n5_; have GE259 := n6_; have NB258_259 := n7_; have NB259_258 := n8_; clear n0_ n1_ n2_ n3_ n4_ n5_ n6_ n7_ n8_; clear hb hbox hg) | ((with_reducible refine gate_dst (N := 5) rfl ?_); refine box_event ?hg (N := 5) ?hd (cs := #[.int .i64 a2_0, .int .i64 a2_1]) (t := 43) ?hr ?_; (case hd => rfl); (case hg => rfl); (case hr => first | (go_simp; done) | (go_simp; rfl)); intro gb260 hg w14 hbox hb; have n0_ := Aside0.mk (Kd.R_below (by (with_reducible repeat (first | apply Kd.R_alloc | apply Kd.R_drewN | apply Kd.R_drew)); exact HO1_3.out) hb); have n1_ := Aside0.mk (blk_below (g := gb258) (o := .cells #[.int .i64 a0_0, .int .i64 a0_1, .int .i64 a0_2, .int .i64 a0_3, .int .i64 a0_4, .int .i64 a0_5, .bool a0_6] 23 (0, 0)) (by (with_reducible repeat (first | refine blk_drewN ?_ _ | refine blk_drew ?_ | refine blk_alloc ?_ _)); exact BK258.out) hb); have n2_ := Aside0.mk (blk_below (g := gb259) (o := .cells #[.int .i64 a1_0, .int .i64 a1_1, .int .i64 a1_2, .slice Ao12 l1_3.length co12] 73 (0, 0)) (by (with_reducible repeat (first | refine blk_drewN ?_ _ | refine blk_drew ?_ | refine blk_alloc ?_ _)); exact BK259.out) hb); have n3_ := Aside0.mk (Kept.below (S := (fun k_ => P1_3_ k_)) (by repeat (first | (with_reducible first | exact HK.out | apply Kept.alloc | apply Kept.drewN | apply Kept.drew | refine Kept.setCell ?_ (.inr GW258.out) _ | refine Kept.setCell ?_ (.inr GW259.out) _) | exact HK.out)) hb); have n4_ := Aside0.mk (below_step (by repeat (first | (with_reducible first | exact HB.out | apply below_alloc | apply pw_below_drewN | apply below_drew1 | refine below_set ?_ GE258.out | refine below_set ?_ GE259.out) | exact HB.out)) hb); have n5_ := Aside0.mk (hbox); have n6_ := Aside0.mk ((by rw [hg]; exact (by first | exact HK.out.1 | exact (show Kept w _ (fun k_ => P1_3_ k_) from by repeat (first | (with_reducible first | exact HK.out | apply Kept.alloc | apply Kept.drewN | apply Kept.drew | refine Kept.setCell ?_ (.inr GW258.out) _ | refine Kept.setCell ?_ (.inr GW259.out) _) | exact HK.out)).1) : w.heap.size ≤ gb260)); have n7_ := Aside0.mk ((by rw [hg]; exact (below_size (by repeat (first | (with_reducible first | exact HB.out | apply below_alloc | apply pw_below_drewN | apply below_drew1 | refine below_set ?_ GE258.out | refine below_set ?_ GE259.out) | exact HB.out))) : w0.heap.size ≤ gb260)); have n8_ := Aside0.mk ((by rw [hg]; exact Nat.ne_of_lt (blk_lt (g := gb258) (o := .cells #[.int .i64 a0_0, .int .i64 a0_1, .int .i64 a0_2, .int .i64 a0_3, .int .i64 a0_4, .int .i64 a0_5, .bool a0_6] 23 (0, 0)) (by (with_reducible repeat (first | refine blk_drewN ?_ _ | refine blk_drew ?_ | refine blk_alloc ?_ _)); exact BK258.out)) : gb258 ≠ gb260)); have n9_ := Aside0.mk ((by rw [hg]; exact Nat.ne_of_gt (blk_lt (g := gb258) (o := .cells #[.int .i64 a0_0, .int .i64 a0_1, .int .i64 a0_2, .int .i64 a0_3, .int .i64 a0_4, .int .i64 a0_5, .bool a0_6] 23 (0, 0)) (by (with_reducible repeat (first | refine blk_drewN ?_ _ | refine blk_drew ?_ | refine blk_alloc ?_ _)); exact BK258.out)) : gb260 ≠ gb258)); have n10_ := Aside0.mk ((by rw [hg]; exact Nat.ne_of_lt (blk_lt (g := gb259) (o := .cells #[.int .i64 a1_0, .int .i64 a1_1, .int .i64 a1_2, .slice Ao12 l1_3.length co12] 73 (0, 0)) (by (with_reducible repeat (first | refine blk_drewN ?_ _ | refine blk_drew ?_ | refine blk_alloc ?_ _)); exact BK259.out)) : gb259 ≠ gb260)); have n11_ := Aside0.mk ((by rw [hg]; exact Nat.ne_of_gt (blk_lt (g := gb259) (o := .cells #[.int .i64 a1_0, .int .i64 a1_1, .int .i64 a1_2, .slice Ao12 l1_3.length co12] 73 (0, 0)) (by (with_reducible repeat (first | refine blk_drewN ?_ _ | refine blk_drew ?_ | refine blk_alloc ?_ _)); exact BK259.out)) : gb260 ≠ gb259)); clear HO1_3; clear BK258; clear BK259; clear HK; clear HB; have HO1_3 := n0_; have BK258 := n1_; have BK259 := n2_; have HK := n3_; have HB := n4_; have BK260 := n5_; have GW260 := n6_; have GE260 := n7_; have NB258_260 := n8_; have NB260_258 := n9_; have NB259_260 := n10_; have NB260_259 := n11_; clear n0_ n1_ n2_ n3_ n4_ n5_ n6_ n7_ n8_ n9_ n10_ n11_; clear hb hbox hg) | ((with_reducible refine gate_dst (N := 6) rfl ?_); refine box_event ?hg (N := 6) ?hd (cs := #[.int .i64 0, .int .i64 0, .int .i64 0, .slice none 0 0]) (t := 73) ?hr ?_; (case hd => rfl); (case hg => rfl); (case hr => first | (go_simp; done) | (go_simp; rfl)); intro gb261 hg w15 hbox hb; have n0_ := Aside0.mk (Kd.R_below (by (with_reducible repeat (first | apply Kd.R_alloc | apply Kd.R_drewN | apply Kd.R_drew)); exact HO1_3.out) hb); have n1_ := Aside0.mk (blk_below (g := gb258) (o := .cells #[.int .i64 a0_0, .int .i64 a0_1, .int .i64 a0_2, .int .i64 a0_3, .int .i64 a0_4, .int .i64 a0_5, .bool a0_6] 23 (0, 0)) (by (with_reducible repeat (first | refine blk_drewN ?_ _ | refine blk_drew ?_ | refine blk_alloc ?_ _)); exact BK258.out) hb); have n2_ := Aside0.mk (blk_below (g := gb259) (o := .cells #[.int .i64 a1_0, .int .i64 a1_1, .int .i64 a1_2, .slice Ao12 l1_3.length co12] 73 (0, 0)) (by (with_reducible repeat (first | refine blk_drewN ?_ _ | refine blk_drew ?_ | refine blk_alloc ?_ _)); exact BK259.out) hb); have n3_ := Aside0.mk (blk_below (g := gb260) (o := .cells #[.int .i64 a2_0, .int .i64 a2_1] 43 (0, 0)) (by (with_reducible repeat (first | refine blk_drewN ?_ _ | refine blk_drew ?_ | refine blk_alloc ?_ _)); exact BK260.out) hb); have n4_ := Aside0.mk (Kept.below (S := (fun k_ => P1_3_ k_)) (by repeat (first | (with_reducible first | exact HK.out | apply Kept.alloc | apply Kept.drewN | apply Kept.drew | refine Kept.setCell ?_ (.inr GW258.out) _ | refine Kept.setCell ?_ (.inr GW259.out) _ | refine Kept.setCell ?_ (.inr GW260.out) _) | exact HK.out)) hb); have n5_ := Aside0.mk (below_step (by repeat (first | (with_reducible first | exact HB.out | apply below_alloc | apply pw_below_drewN | apply below_drew1 | refine below_set ?_ GE258.out | refine below_set ?_ GE259.out | refine below_set ?_ GE260.out) | exact HB.out)) hb); have n6_ := Aside0.mk (hbox); have n7_ := Aside0.mk ((by rw [hg]; exact (by first | exact HK.out.1 | exact (show Kept w _ (fun k_ => P1_3_ k_) from by repeat (first | (with_reducible first | exact HK.out | apply Kept.alloc | apply Kept.drewN | apply Kept.drew | refine Kept.setCell ?_ (.inr GW258.out) _ | refine Kept.setCell ?_ (.inr GW259.out) _ | refine Kept.setCell ?_ (.inr GW260.out) _) | exact HK.out)).1) : w.heap.size ≤ gb261)); have n8_ := Aside0.mk ((by rw [hg]; exact (below_size (by repeat (first | (with_reducible first | exact HB.out | apply below_alloc | apply pw_below_drewN | apply below_drew1 | refine below_set ?_ GE258.out | refine below_set ?_ GE259.out | refine below_set ?_ GE260.out) | exact HB.out))) : w0.heap.size ≤ gb261)); have n9_ := Aside0.mk ((by rw [hg]; exact Nat.ne_of_lt (blk_lt (g := gb258) (o := .cells #[.int .i64 a0_0, .int .i64 a0_1, .int .i64 a0_2, .int .i64 a0_3, .int .i64 a0_4, .int .i64 a0_5, .bool a0_6] 23 (0, 0)) (by (with_reducible repeat (first | refine blk_drewN ?_ _ | refine blk_drew ?_ | refine blk_alloc ?_ _)); exact BK258.out)) : gb258 ≠ gb261)); have n10_ := Aside0.mk ((by rw [hg]; exact Nat.ne_of_gt (blk_lt (g := gb258) (o := .cells #[.int .i64 a0_0, .int .i64 a0_1, .int .i64 a0_2, .int .i64 a0_3, .int .i64 a0_4, .int .i64 a0_5, .bool a0_6] 23 (0, 0)) (by (with_reducible repeat (first | refine blk_drewN ?_ _ | refine blk_drew ?_ | refine blk_alloc ?_ _)); exact BK258.out)) : gb261 ≠ gb258)); have n11_ := Aside0.mk ((by rw [hg]; exact Nat.ne_of_lt (blk_lt (g := gb259) (o := .cells #[.int .i64 a1_0, .int .i64 a1_1, .int .i64 a1_2, .slice Ao12 l1_3.length co12] 73 (0, 0)) (by (with_reducible repeat (first | refine blk_drewN ?_ _ | refine blk_drew ?_ | refine blk_alloc ?_ _)); exact BK259.out)) : gb259 ≠ gb261)); have n12_ := Aside0.mk ((by rw [hg]; exact Nat.ne_of_gt (blk_lt (g := gb259) (o := .cells #[.int .i64 a1_0, .int .i64 a1_1, .int .i64 a1_2, .slice Ao12 l1_3.length co12] 73 (0, 0)) (by (with_reducible repeat (first | refine blk_drewN ?_ _ | refine blk_drew ?_ | refine blk_alloc ?_ _)); exact BK259.out)) : gb261 ≠ gb259)); have n13_ := Aside0.mk ((by rw [hg]; exact Nat.ne_of_lt (blk_lt (g := gb260) (o := .cells #[.int .i64 a2_0, .int .i64 a2_1] 43 (0, 0)) (by (with_reducible repeat (first | refine blk_drewN ?_ _ | refine blk_drew ?_ | refine blk_alloc ?_ _)); exact BK260.out)) : gb260 ≠ gb261)); have n14_ := Aside0.mk ((by rw [hg]; exact Nat.ne_of_gt (blk_lt (g := gb260) (o := .cells #[.int .i64 a2_0, .int .i64 a2_1] 43 (0, 0)) (by (with_reducible repeat (first | refine blk_drewN ?_ _ | refine blk_drew ?_ | refine blk_alloc ?_ _)); exact BK260.out)) : gb261 ≠ gb260)); clear HO1_3; clear BK258; clear BK259; clear BK260; clear HK; clear HB; have HO1_3 := n0_; have BK258 := n1_; have BK259 := n2_; have BK260 := n3_; have HK := n4_; have HB := n5_; have BK261 := n6_; have GW261 := n7_; have GE261 := n8_; have NB258_261 := n9_; have NB261_258 := n10_; have NB259_261 := n11_; have NB261_259 := n12_; have NB260_261 := n13_; have NB261_260 := n14_; clear n0_ n1_ n2_ n3_ n4_ n5_ n6_ n7_ n8_ n9_ n10_ n11_ n12_ n13_ n14_; clear hb hbox hg; have hnb16 := NB258_259.out; have hnc16 := NB259_258.out; have hnb17 := NB258_260.out; have hnc17 := NB260_258.out; have hnb18 := NB258_261.out; have hnc18 := NB261_258.out; have hcz19_0 : w15.cell? ⟨gb258, 0, none⟩ = some (.int .i64 a0_0) := (blk_cell BK258.out 0).trans rfl; have hcz19_1 : w15.cell? ⟨gb258, 1, none⟩ = some (.int .i64 a0_1) := (blk_cell BK258.out 1).trans rfl; have hcz19_2 : w15.cell? ⟨gb258, 2, none⟩ = some (.int .i64 a0_2) := (blk_cell BK258.out 2).trans rfl; have hcz19_3 : w15.cell? ⟨gb258, 3, none⟩ = some (.int .i64 a0_3) := (blk_cell BK258.out 3).trans rfl; have hcz19_4 : w15.cell? ⟨gb258, 4, none⟩ = some (.int .i64 a0_4) := (blk_cell BK258.out 4).trans rfl; have hcz19_5 : w15.cell? ⟨gb258, 5, none⟩ = some (.int .i64 a0_5) := (blk_cell BK258.out 5).trans rfl; have hcz19_6 : w15.cell? ⟨gb258, 6, none⟩ = some (.bool a0_6) := (blk_cell BK258.out 6).trans rfl; have hfz19_0 := blk_frozen BK258.out 0; have hfz19_1 := blk_frozen BK258.out 1; have hfz19_2 := blk_frozen BK258.out 2; have hfz19_3 := blk_frozen BK258.out 3; have hfz19_4 := blk_frozen BK258.out 4; have hfz19_5 := blk_frozen BK258.out 5; have hfz19_6 := blk_frozen BK258.out 6) | ((with_reducible refine gate_callee (f := 11) rfl ?_); refine goesL_ (some 12) rfl rfl Try.func11 (by kernel_rfl) rfl #[.agg #[.int .i64 a0_0, .int .i64 a0_1, .int .i64 a0_2, .int .i64 a0_3, .int .i64 a0_4, .int .i64 a0_5, .bool a0_6]] rfl (by (try simp only [List.map_toArray, List.map_cons, List.map_nil]); first | done | rfl | (simp only [List.length_drop, List.length_take]; rfl)) ?_; (with_reducible refine (swarfref44_Depths.calls k a0_0 a0_1 a0_2 a0_3 a0_4 a0_5 a0_6 t262 t265 _ A4.out).mono ?_); rintro e w20 ⟨v263, rfl, ho0, hb⟩; refine ⟨_, rfl, ?_⟩; have n0_ := Aside0.mk (Kd.R_below (by (with_reducible repeat (first | apply Kd.R_alloc | apply Kd.R_drewN | apply Kd.R_drew)); exact HO1_3.out) hb); have n1_ := Aside0.mk (Kd.R_lower (Kd.R_newM (M := fun k_ => (P1_3_ k_ ∨ w.heap.size ≤ k_)) ho0 (by first | exact HK.out.1 | exact (show Kept w _ (fun k_ => P1_3_ k_) from by repeat (first | (with_reducible first | exact HK.out | apply Kept.alloc | apply Kept.drewN | apply Kept.drew | refine Kept.setCell ?_ (.inr GW258.out) _ | refine Kept.setCell ?_ (.inr GW259.out) _ | refine Kept.setCell ?_ (.inr GW260.out) _ | refine Kept.setCell ?_ (.inr GW261.out) _) | exact HK.out)).1) (fun k_ h_ => .inr h_)) (below_size (by repeat (first | (with_reducible first | exact HB.out | apply below_alloc | apply pw_below_drewN | apply below_drew1 | refine below_set ?_ GE258.out | refine below_set ?_ GE259.out | refine below_set ?_ GE260.out | refine below_set ?_ GE261.out) | exact HB.out)))); have n2_ := Aside0.mk (blk_below (g := gb258) (o := .cells #[.int .i64 a0_0, .int .i64 a0_1, .int .i64 a0_2, .int .i64 a0_3, .int .i64 a0_4, .int .i64 a0_5, .bool a0_6] 23 (0, 0)) (by (with_reducible repeat (first | refine blk_drewN ?_ _ | refine blk_drew ?_ | refine blk_alloc ?_ _)); exact BK258.out) hb); have n3_ := Aside0.mk (blk_below (g := gb259) (o := .cells #[.int .i64 a1_0, .int .i64 a1_1, .int .i64 a1_2, .slice Ao12 l1_3.length co12] 73 (0, 0)) (by (with_reducible repeat (first | refine blk_drewN ?_ _ | refine blk_drew ?_ | refine blk_alloc ?_ _)); exact BK259.out) hb); have n4_ := Aside0.mk (blk_below (g := gb260) (o := .cells #[.int .i64 a2_0, .int .i64 a2_1] 43 (0, 0)) (by (with_reducible repeat (first | refine blk_drewN ?_ _ | refine blk_drew ?_ | refine blk_alloc ?_ _)); exact BK260.out) hb); have n5_ := Aside0.mk (blk_below (g := gb261) (o := .cells #[.int .i64 0, .int .i64 0, .int .i64 0, .slice none 0 0] 73 (0, 0)) (by (with_reducible repeat (first | refine blk_drewN ?_ _ | refine blk_drew ?_ | refine blk_alloc ?_ _)); exact BK261.out) hb); have n6_ := Aside0.mk (Kept.below (S := (fun k_ => P1_3_ k_)) (by repeat (first | (with_reducible first | exact HK.out | apply Kept.alloc | apply Kept.drewN | apply Kept.drew | refine Kept.setCell ?_ (.inr GW258.out) _ | refine Kept.setCell ?_ (.inr GW259.out) _ | refine Kept.setCell ?_ (.inr GW260.out) _ | refine Kept.setCell ?_ (.inr GW261.out) _) | exact HK.out)) hb); have n7_ := Aside0.mk (below_step (by repeat (first | (with_reducible first | exact HB.out | apply below_alloc | apply pw_below_drewN | apply below_drew1 | refine below_set ?_ GE258.out | refine below_set ?_ GE259.out | refine below_set ?_ GE260.out | refine below_set ?_ GE261.out) | exact HB.out)) hb); clear HO1_3; clear BK258; clear BK259; clear BK260; clear BK261; clear HK; clear HB; have HO1_3 := n0_; have HO264 := n1_; have BK258 := n2_; have BK259 := n3_; have BK260 := n4_; have BK261 := n5_; have HK := n6_; have HB := n7_; clear n0_ n1_ n2_ n3_ n4_ n5_ n6_ n7_; (try clear hb); (try clear hb2); (try clear hk); (try clear hi); (try clear ho0)))
  have n0_ := Aside0.mk (Kd.R_drew HO1_3.out)
  have n1_ := Aside0.mk (Kd.R_drew HO264.out)
  have n2_ := Aside0.mk (blk_drew BK258.out)
  have n3_ := Aside0.mk (blk_drew BK259.out)
  have n4_ := Aside0.mk (blk_drew BK260.out)
  have n5_ := Aside0.mk (blk_drew BK261.out)
  have n6_ := Aside0.mk (Kept.drew HK.out)
  have n7_ := Aside0.mk (below_drew1 HB.out)
  clear HO1_3
  clear HO264
  clear BK258
  clear BK259
  clear BK260
  clear BK261
  clear HK
  clear HB
  have HO1_3 := n0_
  have HO264 := n1_
  have BK258 := n2_
  have BK259 := n3_
  have BK260 := n4_
  have BK261 := n5_
  have HK := n6_
  have HB := n7_
  clear n0_ n1_ n2_ n3_ n4_ n5_ n6_ n7_
  refine start_ (n := 12) (S := fun w' => w'.cell? ⟨gb259, 0, none⟩ = some (.int .i64 a1_0) ∧ w'.cell? ⟨gb259, 1, none⟩ = some (.int .i64 a1_1) ∧ w'.cell? ⟨gb259, 2, none⟩ = some (.int .i64 a1_2) ∧ w'.cell? ⟨gb259, 3, none⟩ = some (.slice Ao12 l1_3.length co12) ∧ w'.cell? ⟨gb258, 0, none⟩ = some (.int .i64 a0_0) ∧ w'.cell? ⟨gb258, 1, none⟩ = some (.int .i64 a0_1) ∧ w'.cell? ⟨gb258, 2, none⟩ = some (.int .i64 a0_2) ∧ w'.cell? ⟨gb258, 3, none⟩ = some (.int .i64 a0_3) ∧ w'.cell? ⟨gb258, 4, none⟩ = some (.int .i64 a0_4) ∧ w'.cell? ⟨gb258, 5, none⟩ = some (.int .i64 a0_5) ∧ w'.cell? ⟨gb258, 6, none⟩ = some (.bool a0_6)) (ds := [11]) #[false, false, false, false, false, false, false, false, false, false, false, false] (by kernel_rfl) rfl rfl ⟨(blk_cell BK259.out 0).trans rfl, (blk_cell BK259.out 1).trans rfl, (blk_cell BK259.out 2).trans rfl, (blk_cell BK259.out 3).trans rfl, (blk_cell BK258.out 0).trans rfl, (blk_cell BK258.out 1).trans rfl, (blk_cell BK258.out 2).trans rfl, (blk_cell BK258.out 3).trans rfl, (blk_cell BK258.out 4).trans rfl, (blk_cell BK258.out 5).trans rfl, (blk_cell BK258.out 6).trans rfl⟩ (fun hHeld => ?_); refine with_tabW swarfref44_one.tab2 swarfref44_one.bits2 (fun HT_ HW_ => ?_)
  generalize w20.drew = w21 at HO1_3 HO264 BK258 BK259 BK260 BK261 HK HB hHeld ⊢
  refine pure_ (i := 1) (N := some 16) (v := ?_) (a' := ?_) #[false, true, false, false, false, false, false, false, false, false, false, false] rfl rfl (any_of HT_.out (by kernel_rfl)) (fun _ _ _ h => h) (Or.inl ⟨by rfl, ?_⟩) ?_ ?_
  rotate_left
  · intro w'
    go_simp
    with_reducible rfl
  rotate_left
  · simp only [Act.put, List.setIfInBounds_toArray, List.set_cons_zero, List.set_cons_succ, i64_w, i32_w]
    rfl
  refine pure_ (i := 3) (N := some 18) (v := ?_) (a' := ?_) #[false, true, false, true, false, false, false, false, false, false, false, false] rfl rfl (any_of HT_.out (by kernel_rfl)) (fun _ _ _ h => h) (Or.inl ⟨by rfl, ?_⟩) ?_ ?_
  rotate_left
  · intro w'
    go_simp
    with_reducible rfl
  rotate_left
  · simp only [Act.put, List.setIfInBounds_toArray, List.set_cons_zero, List.set_cons_succ, i64_w, i32_w]
    rfl
  refine pure_ (i := 4) (N := some 19) (v := ?_) (a' := ?_) #[false, true, false, true, true, false, false, false, false, false, false, false] rfl rfl (any_of HT_.out (by kernel_rfl)) (fun _ _ _ h => h) (Or.inl ⟨by rfl, ?_⟩) ?_ ?_
  rotate_left
  · intro w'
    go_simp
    with_reducible rfl
  rotate_left
  · simp only [Act.put, List.setIfInBounds_toArray, List.set_cons_zero, List.set_cons_succ, i64_w, i32_w]
    rfl
  refine pure_ (i := 6) (N := some 21) (v := ?_) (a' := ?_) #[false, true, false, true, true, false, true, false, false, false, false, false] rfl rfl (any_of HT_.out (by kernel_rfl)) (fun _ _ _ h => h) (Or.inl ⟨by rfl, ?_⟩) ?_ ?_
  rotate_left
  · intro w'
    go_simp
    with_reducible rfl
  rotate_left
  · simp only [Act.put, List.setIfInBounds_toArray, List.set_cons_zero, List.set_cons_succ, i64_w, i32_w]
    rfl
  refine take_ (i := 0) (N := some 15) (v := ?_) (a' := ?_) #[true, true, false, true, true, false, true, false, false, false, false, false] rfl rfl (take_ofW HT_.out HW_.out (by kernel_rfl)) (fun _ _ _ h => h) (Or.inl ⟨by rfl, ?_⟩) hHeld ?_ ?_
  rotate_left
  · rintro w' ⟨s0, s1, s2, s3, s4, s5, s6, s7, s8, s9, s10⟩
    go_simp
    with_reducible rfl
  rotate_left
  · simp only [Act.put, List.setIfInBounds_toArray, List.set_cons_zero, List.set_cons_succ, i64_w, i32_w]
    rfl
  refine take_ (i := 2) (N := some 17) (v := ?_) (a' := ?_) #[true, true, true, true, true, false, true, false, false, false, false, false] rfl rfl (take_ofW HT_.out HW_.out (by kernel_rfl)) (fun _ _ _ h => h) (Or.inl ⟨by rfl, ?_⟩) hHeld ?_ ?_
  rotate_left
  · rintro w' ⟨s0, s1, s2, s3, s4, s5, s6, s7, s8, s9, s10⟩
    go_simp
    with_reducible rfl
  rotate_left
  · simp only [Act.put, List.setIfInBounds_toArray, List.set_cons_zero, List.set_cons_succ, i64_w, i32_w]
    rfl
  refine take_ (i := 5) (N := some 20) (v := ?_) (a' := ?_) #[true, true, true, true, true, true, true, false, false, false, false, false] rfl rfl (take_ofW HT_.out HW_.out (by kernel_rfl)) (fun _ _ _ h => h) (Or.inl ⟨by rfl, ?_⟩) hHeld ?_ ?_
  rotate_left
  · rintro w' ⟨s0, s1, s2, s3, s4, s5, s6, s7, s8, s9, s10⟩
    go_simp
    with_reducible rfl
  rotate_left
  · simp only [Act.put, List.setIfInBounds_toArray, List.set_cons_zero, List.set_cons_succ, i64_w, i32_w]
    rfl
  refine take_ (i := 7) (N := some 22) (v := ?_) (a' := ?_) #[true, true, true, true, true, true, true, true, false, false, false, false] rfl rfl (take_ofW HT_.out HW_.out (by kernel_rfl)) (fun _ _ _ h => h) (Or.inl ⟨by rfl, ?_⟩) hHeld ?_ ?_
  rotate_left
  · rintro w' ⟨s0, s1, s2, s3, s4, s5, s6, s7, s8, s9, s10⟩
    go_simp
    with_reducible rfl
  rotate_left
  · simp only [Act.put, List.setIfInBounds_toArray, List.set_cons_zero, List.set_cons_succ, i64_w, i32_w]
    rfl
  refine pure_ (i := 8) (N := some 23) (v := ?_) (a' := ?_) #[true, true, true, true, true, true, true, true, true, false, false, false] rfl rfl (any_of HT_.out (by kernel_rfl)) (fun _ _ _ h => h) (Or.inl ⟨by rfl, ?_⟩) ?_ ?_
  rotate_left
  · intro w'
    go_simp
    with_reducible rfl
  rotate_left
  · simp only [Act.put, List.setIfInBounds_toArray, List.set_cons_zero, List.set_cons_succ, i64_w, i32_w]
    rfl
  refine one_ (i := 9) (N := some 24) #[true, true, true, true, true, true, true, true, true, true, false, false] rfl rfl (one_of HT_.out (by kernel_rfl)) (by decide) (fun K hK => ?_)
  refine goes_ Try.func37 (by kernel_rfl) rfl #[.agg #[.int .i64 a1_0, .int .i64 a1_1, .int .i64 a1_2], .int .i64 ji5] (by rfl) rfl rfl (by (try simp only [List.map_toArray, List.map_cons, List.map_nil]); first | done | (simp only [hji5]; rfl) | rfl | (simp only [List.length_drop, List.length_take]; rfl)) ?_
  with_reducible refine (swarfref44_up.calls a1_0 a1_1 a1_2 ji5 t266 t267 t268 _ A6.out).mono ?_
  rintro e w22 ⟨rfl, hb⟩
  refine ⟨_, rfl, ?_⟩
  have n0_ := Aside0.mk (Kd.R_below (by (with_reducible repeat (first | apply Kd.R_alloc | apply Kd.R_drewN | apply Kd.R_drew)); exact HO1_3.out) hb)
  have n1_ := Aside0.mk (Kd.R_below (by (with_reducible repeat (first | apply Kd.R_alloc | apply Kd.R_drewN | apply Kd.R_drew)); exact HO264.out) hb)
  have n2_ := Aside0.mk (blk_below (g := gb258) (o := .cells #[.int .i64 a0_0, .int .i64 a0_1, .int .i64 a0_2, .int .i64 a0_3, .int .i64 a0_4, .int .i64 a0_5, .bool a0_6] 23 (0, 0)) (by (with_reducible repeat (first | refine blk_drewN ?_ _ | refine blk_drew ?_ | refine blk_alloc ?_ _)); exact BK258.out) hb)
  have n3_ := Aside0.mk (blk_below (g := gb259) (o := .cells #[.int .i64 a1_0, .int .i64 a1_1, .int .i64 a1_2, .slice Ao12 l1_3.length co12] 73 (0, 0)) (by (with_reducible repeat (first | refine blk_drewN ?_ _ | refine blk_drew ?_ | refine blk_alloc ?_ _)); exact BK259.out) hb)
  have n4_ := Aside0.mk (blk_below (g := gb260) (o := .cells #[.int .i64 a2_0, .int .i64 a2_1] 43 (0, 0)) (by (with_reducible repeat (first | refine blk_drewN ?_ _ | refine blk_drew ?_ | refine blk_alloc ?_ _)); exact BK260.out) hb)
  have n5_ := Aside0.mk (blk_below (g := gb261) (o := .cells #[.int .i64 0, .int .i64 0, .int .i64 0, .slice none 0 0] 73 (0, 0)) (by (with_reducible repeat (first | refine blk_drewN ?_ _ | refine blk_drew ?_ | refine blk_alloc ?_ _)); exact BK261.out) hb)
  have n6_ := Aside0.mk (Kept.below (S := (fun k_ => P1_3_ k_)) (by repeat (first | (with_reducible first | exact HK.out | apply Kept.alloc | apply Kept.drewN | apply Kept.drew | refine Kept.setCell ?_ (.inr GW258.out) _ | refine Kept.setCell ?_ (.inr GW259.out) _ | refine Kept.setCell ?_ (.inr GW260.out) _ | refine Kept.setCell ?_ (.inr GW261.out) _) | exact HK.out)) hb)
  have n7_ := Aside0.mk (below_step (by repeat (first | (with_reducible first | exact HB.out | apply below_alloc | apply pw_below_drewN | apply below_drew1 | refine below_set ?_ GE258.out | refine below_set ?_ GE259.out | refine below_set ?_ GE260.out | refine below_set ?_ GE261.out) | exact HB.out)) hb)
  clear HO1_3
  clear HO264
  clear BK258
  clear BK259
  clear BK260
  clear BK261
  clear HK
  clear HB
  have HO1_3 := n0_
  have HO264 := n1_
  have BK258 := n2_
  have BK259 := n3_
  have BK260 := n4_
  have BK261 := n5_
  have HK := n6_
  have HB := n7_
  clear n0_ n1_ n2_ n3_ n4_ n5_ n6_ n7_
  (try clear hb)
  (try clear hb2)
  (try clear hk)
  (try clear hi)
  refine hK.out _ _ ⟨(blk_cell BK259.out 0).trans rfl, (blk_cell BK259.out 1).trans rfl, (blk_cell BK259.out 2).trans rfl, (blk_cell BK259.out 3).trans rfl, (blk_cell BK258.out 0).trans rfl, (blk_cell BK258.out 1).trans rfl, (blk_cell BK258.out 2).trans rfl, (blk_cell BK258.out 3).trans rfl, (blk_cell BK258.out 4).trans rfl, (blk_cell BK258.out 5).trans rfl, (blk_cell BK258.out 6).trans rfl⟩ (fun hHeld => ?_)
  clear hK K
  refine norm_ (a' := ?_) ?_ ?_
  rotate_left
  · show Act.put _ (some 24) _ = _
    simp only [Act.put, List.setIfInBounds_toArray, List.set_cons_zero, List.set_cons_succ, i64_w, i32_w]
    rfl
  refine one_ (i := 10) (N := some 25) #[true, true, true, true, true, true, true, true, true, true, true, false] rfl rfl (one_of HT_.out (by kernel_rfl)) (by decide) (fun K hK => ?_)
  refine goes_ Try.func36 (by kernel_rfl) rfl #[.agg #[.int .i64 a1_0, .int .i64 a1_1, .int .i64 a1_2, .slice Ao12 l1_3.length co12], .agg #[.int .i64 t266, .int .i64 t267, .int .i64 t268], .int .i64 0] (by rfl) rfl rfl (by (try simp only [List.map_toArray, List.map_cons, List.map_nil]); first | done | rfl | (simp only [List.length_drop, List.length_take]; rfl)) ?_
  with_reducible refine (swarfref44_to.calls a1_0 a1_1 a1_2 (fun k_ => some k_ = (.slice Ao12 l1_3.length co12 : Value).ownBlock) (.slice Ao12 l1_3.length co12) l1_3 t266 t267 t268 0 t269 t270 t271 t272 w0 _ ?side1 ?side2 A7.out).mono ?_
  (case side1 => repeat (first | (with_reducible first | exact HB.out | apply below_alloc | apply pw_below_drewN | apply below_drew1 | refine below_set ?_ GE258.out | refine below_set ?_ GE259.out | refine below_set ?_ GE260.out | refine below_set ?_ GE261.out) | exact HB.out))
  (case side2 => exact Kd.R_tight rfl HO1_3.out)
  rintro e w23 ⟨v273, rfl, ho0, hb, hkp⟩
  refine ⟨_, rfl, ?_⟩
  have n0_ := Aside0.mk (blk_kept (by (with_reducible repeat (first | refine blk_drewN ?_ _ | refine blk_drew ?_ | refine blk_alloc ?_ _)); exact BK258.out) hkp (fun hs_ => (fun e_ => (Kd.R_ne HO1_3.out BK258.out (by decide)) e_) hs_))
  have n1_ := Aside0.mk (blk_kept (by (with_reducible repeat (first | refine blk_drewN ?_ _ | refine blk_drew ?_ | refine blk_alloc ?_ _)); exact BK259.out) hkp (fun hs_ => (fun e_ => (Kd.R_ne HO1_3.out BK259.out (by decide)) e_) hs_))
  have n2_ := Aside0.mk (blk_kept (by (with_reducible repeat (first | refine blk_drewN ?_ _ | refine blk_drew ?_ | refine blk_alloc ?_ _)); exact BK260.out) hkp (fun hs_ => (fun e_ => (Kd.R_ne HO1_3.out BK260.out (by decide)) e_) hs_))
  have n3_ := Aside0.mk (blk_kept (by (with_reducible repeat (first | refine blk_drewN ?_ _ | refine blk_drew ?_ | refine blk_alloc ?_ _)); exact BK261.out) hkp (fun hs_ => (fun e_ => (Kd.R_ne HO1_3.out BK261.out (by decide)) e_) hs_))
  have n4_ := Aside0.mk (Kd.R_mono (ok' := fun k_ => (P1_3_ k_ ∨ w.heap.size ≤ k_)) (Kd.R_keptB ((Kd.R_apart' HO264.out (Kd.R_typed HO1_3.out) (by decide))) hkp (fun k_ hk_ hs_ => (hk_.2) hs_)) (fun k_ hk_ => hk_.1.1.1))
  have n5_ := Aside0.mk (Kd.R_mono (ok' := fun k_ => (P1_3_ k_ ∨ w.heap.size ≤ k_)) ho0 (fun k_ hk_ => Or.elim hk_ (fun hs_ => (HO1_3.out.1 k_ (hs_).symm)) (fun hn_ => (.inr (Nat.le_trans (by first | exact HK.out.1 | exact (show Kept w _ (fun k_ => P1_3_ k_) from by repeat (first | (with_reducible first | exact HK.out | apply Kept.alloc | apply Kept.drewN | apply Kept.drew | refine Kept.setCell ?_ (.inr GW258.out) _ | refine Kept.setCell ?_ (.inr GW259.out) _ | refine Kept.setCell ?_ (.inr GW260.out) _ | refine Kept.setCell ?_ (.inr GW261.out) _) | exact HK.out)).1) hn_)))))
  have n6_ := Aside0.mk (Kept.then_ (S := (fun k_ => P1_3_ k_)) (by repeat (first | (with_reducible first | exact HK.out | apply Kept.alloc | apply Kept.drewN | apply Kept.drew | refine Kept.setCell ?_ (.inr GW258.out) _ | refine Kept.setCell ?_ (.inr GW259.out) _ | refine Kept.setCell ?_ (.inr GW260.out) _ | refine Kept.setCell ?_ (.inr GW261.out) _) | exact HK.out)) hkp (fun k_ hs_ => (fun e_ => (HO1_3.out.1 k_ e_.symm)) hs_))
  have n7_ := Aside0.mk (hb)
  clear BK258
  clear BK259
  clear BK260
  clear BK261
  clear HO264
  clear HK
  clear HB
  clear HO1_3
  have BK258 := n0_
  have BK259 := n1_
  have BK260 := n2_
  have BK261 := n3_
  have HO264 := n4_
  have HO274 := n5_
  have HK := n6_
  have HB := n7_
  clear n0_ n1_ n2_ n3_ n4_ n5_ n6_ n7_
  (try clear hb)
  (try clear hkp)
  (try clear ho0)
  obtain ⟨Ao27, co27, eo27⟩ := Kd.R_slice HO274.out
  (first | subst eo27 | (injection eo27 with f1_ f2_ f3_; have f4_ := f1_.symm; have f5_ := f3_.symm; clear f1_ f2_ f3_; subst f4_; subst f5_))
  refine hK.out _ _ ⟨(blk_cell BK259.out 0).trans rfl, (blk_cell BK259.out 1).trans rfl, (blk_cell BK259.out 2).trans rfl, (blk_cell BK259.out 3).trans rfl, (blk_cell BK258.out 0).trans rfl, (blk_cell BK258.out 1).trans rfl, (blk_cell BK258.out 2).trans rfl, (blk_cell BK258.out 3).trans rfl, (blk_cell BK258.out 4).trans rfl, (blk_cell BK258.out 5).trans rfl, (blk_cell BK258.out 6).trans rfl⟩ (fun hHeld => ?_)
  clear hK K
  refine norm_ (a' := ?_) ?_ ?_
  rotate_left
  · show Act.put _ (some 25) _ = _
    simp only [Act.put, List.setIfInBounds_toArray, List.set_cons_zero, List.set_cons_succ, i64_w, i32_w]
    rfl
  refine last_ (i := 11) (N := none) #[true, true, true, true, true, true, true, true, true, true, true, true] rfl rfl (one_of HT_.out (by kernel_rfl)) (by decide) (fun K hK => ?_)
  have hs24 : w23.cell? ⟨gb259, 0, none⟩ = some (.int .i64 a1_0) := (blk_cell BK259.out 0).trans rfl
  have hfs24 := blk_frozen BK259.out 0
  have hns24_0 := NB258_259.out
  have hns24_2 := NB260_259.out
  have hns24_3 := NB261_259.out
  have hms24_0 := NB259_258.out
  have hms24_2 := NB259_260.out
  have hms24_3 := NB259_261.out
  have hs25 : w23.cell? ⟨gb259, 1, none⟩ = some (.int .i64 a1_1) := (blk_cell BK259.out 1).trans rfl
  have hfs25 := blk_frozen BK259.out 1
  have hns25_0 := NB258_259.out
  have hns25_2 := NB260_259.out
  have hns25_3 := NB261_259.out
  have hms25_0 := NB259_258.out
  have hms25_2 := NB259_260.out
  have hms25_3 := NB259_261.out
  have hs26 : w23.cell? ⟨gb259, 2, none⟩ = some (.int .i64 a1_2) := (blk_cell BK259.out 2).trans rfl
  have hfs26 := blk_frozen BK259.out 2
  have hns26_0 := NB258_259.out
  have hns26_2 := NB260_259.out
  have hns26_3 := NB261_259.out
  have hms26_0 := NB259_258.out
  have hms26_2 := NB259_260.out
  have hms26_3 := NB259_261.out
  have hs28 : w23.cell? ⟨gb259, 3, none⟩ = some (.slice Ao12 l1_3.length co12) := (blk_cell BK259.out 3).trans rfl
  have hfs28 := blk_frozen BK259.out 3
  have hns28_0 := NB258_259.out
  have hns28_2 := NB260_259.out
  have hns28_3 := NB261_259.out
  have hms28_0 := NB259_258.out
  have hms28_2 := NB259_260.out
  have hms28_3 := NB259_261.out
  refine skip_ (w1 := ?_) (by rfl) rfl ?_ ?_
  rotate_left
  · go_simp
    rfl
  refine hK.out _ _ ?_
  clear hK K
  refine done_ (done_of HT_.out (by kernel_rfl)) ?_
  have n0_ : Aside0 (Kd.R (Kd.int .i64) 2 ((((w23.setCell ⟨gb259, 0, none⟩ (.int .i64 t269)).setCell ⟨gb259, 1, none⟩ (.int .i64 t270)).setCell ⟨gb259, 2, none⟩ (.int .i64 t271)).setCell ⟨gb259, 3, none⟩ (.slice Ao27 t272.length co27)) w0.heap.size (fun k_ => (P1_3_ k_ ∨ w.heap.size ≤ k_)) v263 t262) := ⟨by (with_reducible repeat (first | apply Kd.R_alloc | apply Kd.R_drewN | apply Kd.R_drew)); exact Kd.R_mono (Kd.R_far (p := ⟨gb259, 3, none⟩) (Kd.R_far (p := ⟨gb259, 2, none⟩) (Kd.R_far (p := ⟨gb259, 1, none⟩) (Kd.R_far (p := ⟨gb259, 0, none⟩) (Kd.R_types HO264.out BK259.out (by decide)) (fun _ hk => hk.2) (.int .i64 t269)) (fun _ hk => hk.2) (.int .i64 t270)) (fun _ hk => hk.2) (.int .i64 t271)) (fun _ hk => hk.2) (.slice Ao27 t272.length co27)) (fun _ hk => hk.1)⟩
  have n1_ : Aside0 (Kd.R k45 45 ((((w23.setCell ⟨gb259, 0, none⟩ (.int .i64 t269)).setCell ⟨gb259, 1, none⟩ (.int .i64 t270)).setCell ⟨gb259, 2, none⟩ (.int .i64 t271)).setCell ⟨gb259, 3, none⟩ (.slice Ao27 t272.length co27)) w0.heap.size (fun k_ => (P1_3_ k_ ∨ w.heap.size ≤ k_)) (.slice Ao27 t272.length co27) t272) := ⟨by (with_reducible repeat (first | apply Kd.R_alloc | apply Kd.R_drewN | apply Kd.R_drew)); exact Kd.R_mono (Kd.R_far (p := ⟨gb259, 3, none⟩) (Kd.R_far (p := ⟨gb259, 2, none⟩) (Kd.R_far (p := ⟨gb259, 1, none⟩) (Kd.R_far (p := ⟨gb259, 0, none⟩) (Kd.R_types HO274.out BK259.out (by decide)) (fun _ hk => hk.2) (.int .i64 t269)) (fun _ hk => hk.2) (.int .i64 t270)) (fun _ hk => hk.2) (.int .i64 t271)) (fun _ hk => hk.2) (.slice Ao27 t272.length co27)) (fun _ hk => hk.1)⟩
  have n2_ : Aside0 (((((w23.setCell ⟨gb259, 0, none⟩ (.int .i64 t269)).setCell ⟨gb259, 1, none⟩ (.int .i64 t270)).setCell ⟨gb259, 2, none⟩ (.int .i64 t271)).setCell ⟨gb259, 3, none⟩ (.slice Ao27 t272.length co27)).heap[gb258]? = some (.cells #[.int .i64 a0_0, .int .i64 a0_1, .int .i64 a0_2, .int .i64 a0_3, .int .i64 a0_4, .int .i64 a0_5, .bool a0_6] 23 (0, 0))) := ⟨by (with_reducible repeat (first | refine blk_drewN ?_ _ | refine blk_drew ?_ | refine blk_alloc ?_ _)); refine blk_far ?_ NB258_259.out _; (with_reducible repeat (first | refine blk_drewN ?_ _ | refine blk_drew ?_ | refine blk_alloc ?_ _)); refine blk_far ?_ NB258_259.out _; (with_reducible repeat (first | refine blk_drewN ?_ _ | refine blk_drew ?_ | refine blk_alloc ?_ _)); refine blk_far ?_ NB258_259.out _; (with_reducible repeat (first | refine blk_drewN ?_ _ | refine blk_drew ?_ | refine blk_alloc ?_ _)); refine blk_far ?_ NB258_259.out _; (with_reducible repeat (first | refine blk_drewN ?_ _ | refine blk_drew ?_ | refine blk_alloc ?_ _)); exact BK258.out⟩
  have n3_ : Aside0 (((((w23.setCell ⟨gb259, 0, none⟩ (.int .i64 t269)).setCell ⟨gb259, 1, none⟩ (.int .i64 t270)).setCell ⟨gb259, 2, none⟩ (.int .i64 t271)).setCell ⟨gb259, 3, none⟩ (.slice Ao27 t272.length co27)).heap[gb259]? = some (.cells #[.int .i64 t269, .int .i64 t270, .int .i64 t271, .slice Ao27 t272.length co27] 73 (0, 0))) := ⟨by (with_reducible repeat (first | refine blk_drewN ?_ _ | refine blk_drew ?_ | refine blk_alloc ?_ _)); refine blk_put (cs := #[.int .i64 t269, .int .i64 t270, .int .i64 t271, .slice Ao12 l1_3.length co12]) ?_ 3 _ rfl; (with_reducible repeat (first | refine blk_drewN ?_ _ | refine blk_drew ?_ | refine blk_alloc ?_ _)); refine blk_put (cs := #[.int .i64 t269, .int .i64 t270, .int .i64 a1_2, .slice Ao12 l1_3.length co12]) ?_ 2 _ rfl; (with_reducible repeat (first | refine blk_drewN ?_ _ | refine blk_drew ?_ | refine blk_alloc ?_ _)); refine blk_put (cs := #[.int .i64 t269, .int .i64 a1_1, .int .i64 a1_2, .slice Ao12 l1_3.length co12]) ?_ 1 _ rfl; (with_reducible repeat (first | refine blk_drewN ?_ _ | refine blk_drew ?_ | refine blk_alloc ?_ _)); refine blk_put (cs := #[.int .i64 a1_0, .int .i64 a1_1, .int .i64 a1_2, .slice Ao12 l1_3.length co12]) ?_ 0 _ rfl; (with_reducible repeat (first | refine blk_drewN ?_ _ | refine blk_drew ?_ | refine blk_alloc ?_ _)); exact BK259.out⟩
  have n4_ : Aside0 (((((w23.setCell ⟨gb259, 0, none⟩ (.int .i64 t269)).setCell ⟨gb259, 1, none⟩ (.int .i64 t270)).setCell ⟨gb259, 2, none⟩ (.int .i64 t271)).setCell ⟨gb259, 3, none⟩ (.slice Ao27 t272.length co27)).heap[gb260]? = some (.cells #[.int .i64 a2_0, .int .i64 a2_1] 43 (0, 0))) := ⟨by (with_reducible repeat (first | refine blk_drewN ?_ _ | refine blk_drew ?_ | refine blk_alloc ?_ _)); refine blk_far ?_ NB260_259.out _; (with_reducible repeat (first | refine blk_drewN ?_ _ | refine blk_drew ?_ | refine blk_alloc ?_ _)); refine blk_far ?_ NB260_259.out _; (with_reducible repeat (first | refine blk_drewN ?_ _ | refine blk_drew ?_ | refine blk_alloc ?_ _)); refine blk_far ?_ NB260_259.out _; (with_reducible repeat (first | refine blk_drewN ?_ _ | refine blk_drew ?_ | refine blk_alloc ?_ _)); refine blk_far ?_ NB260_259.out _; (with_reducible repeat (first | refine blk_drewN ?_ _ | refine blk_drew ?_ | refine blk_alloc ?_ _)); exact BK260.out⟩
  have n5_ : Aside0 (((((w23.setCell ⟨gb259, 0, none⟩ (.int .i64 t269)).setCell ⟨gb259, 1, none⟩ (.int .i64 t270)).setCell ⟨gb259, 2, none⟩ (.int .i64 t271)).setCell ⟨gb259, 3, none⟩ (.slice Ao27 t272.length co27)).heap[gb261]? = some (.cells #[.int .i64 0, .int .i64 0, .int .i64 0, .slice none 0 0] 73 (0, 0))) := ⟨by (with_reducible repeat (first | refine blk_drewN ?_ _ | refine blk_drew ?_ | refine blk_alloc ?_ _)); refine blk_far ?_ NB261_259.out _; (with_reducible repeat (first | refine blk_drewN ?_ _ | refine blk_drew ?_ | refine blk_alloc ?_ _)); refine blk_far ?_ NB261_259.out _; (with_reducible repeat (first | refine blk_drewN ?_ _ | refine blk_drew ?_ | refine blk_alloc ?_ _)); refine blk_far ?_ NB261_259.out _; (with_reducible repeat (first | refine blk_drewN ?_ _ | refine blk_drew ?_ | refine blk_alloc ?_ _)); refine blk_far ?_ NB261_259.out _; (with_reducible repeat (first | refine blk_drewN ?_ _ | refine blk_drew ?_ | refine blk_alloc ?_ _)); exact BK261.out⟩
  have n6_ : Aside0 (Kept w ((((w23.setCell ⟨gb259, 0, none⟩ (.int .i64 t269)).setCell ⟨gb259, 1, none⟩ (.int .i64 t270)).setCell ⟨gb259, 2, none⟩ (.int .i64 t271)).setCell ⟨gb259, 3, none⟩ (.slice Ao27 t272.length co27)) (fun k_ => P1_3_ k_)) := ⟨by repeat (first | (with_reducible first | exact HK.out | apply Kept.alloc | apply Kept.drewN | apply Kept.drew | refine Kept.setCell ?_ (.inr GW258.out) _ | refine Kept.setCell ?_ (.inr GW259.out) _ | refine Kept.setCell ?_ (.inr GW260.out) _ | refine Kept.setCell ?_ (.inr GW261.out) _) | exact HK.out)⟩
  have n7_ : Aside0 (Below w0.heap.size w0 ((((w23.setCell ⟨gb259, 0, none⟩ (.int .i64 t269)).setCell ⟨gb259, 1, none⟩ (.int .i64 t270)).setCell ⟨gb259, 2, none⟩ (.int .i64 t271)).setCell ⟨gb259, 3, none⟩ (.slice Ao27 t272.length co27))) := ⟨by repeat (first | (with_reducible first | exact HB.out | apply below_alloc | apply pw_below_drewN | apply below_drew1 | refine below_set ?_ GE258.out | refine below_set ?_ GE259.out | refine below_set ?_ GE260.out | refine below_set ?_ GE261.out) | exact HB.out)⟩
  (try clear HO264)
  (try clear HO274)
  (try clear BK258)
  (try clear BK259)
  (try clear BK260)
  (try clear BK261)
  (try clear HK)
  (try clear HB)
  generalize ((((w23.setCell ⟨gb259, 0, none⟩ (.int .i64 t269)).setCell ⟨gb259, 1, none⟩ (.int .i64 t270)).setCell ⟨gb259, 2, none⟩ (.int .i64 t271)).setCell ⟨gb259, 3, none⟩ (.slice Ao27 t272.length co27)) = w29 at n0_ n1_ n2_ n3_ n4_ n5_ n6_ n7_ ⊢
  have HO264 := n0_
  have HO274 := n1_
  have BK258 := n2_
  have BK259 := n3_
  have BK260 := n4_
  have BK261 := n5_
  have HK := n6_
  have HB := n7_
  clear n0_ n1_ n2_ n3_ n4_ n5_ n6_ n7_
  have hnb30 := NB259_260.out
  have hnc30 := NB260_259.out
  have hnb31 := NB259_261.out
  have hnc31 := NB261_259.out
  have hcz32_0 : w29.cell? ⟨gb259, 0, none⟩ = some (.int .i64 t269) := (blk_cell BK259.out 0).trans rfl
  have hcz32_1 : w29.cell? ⟨gb259, 1, none⟩ = some (.int .i64 t270) := (blk_cell BK259.out 1).trans rfl
  have hcz32_2 : w29.cell? ⟨gb259, 2, none⟩ = some (.int .i64 t271) := (blk_cell BK259.out 2).trans rfl
  have hcz32_3 : w29.cell? ⟨gb259, 3, none⟩ = some (.slice Ao27 t272.length co27) := (blk_cell BK259.out 3).trans rfl
  have hfz32_0 := blk_frozen BK259.out 0
  have hfz32_1 := blk_frozen BK259.out 1
  have hfz32_2 := blk_frozen BK259.out 2
  have hfz32_3 := blk_frozen BK259.out 3
  have hnb33 := NB260_261.out
  have hnc33 := NB261_260.out
  have hcz34_0 : w29.cell? ⟨gb260, 0, none⟩ = some (.int .i64 a2_0) := (blk_cell BK260.out 0).trans rfl
  have hcz34_1 : w29.cell? ⟨gb260, 1, none⟩ = some (.int .i64 a2_1) := (blk_cell BK260.out 1).trans rfl
  have hfz34_0 := blk_frozen BK260.out 0
  have hfz34_1 := blk_frozen BK260.out 1
  try go_wp2_with (first | ((with_reducible refine gate_callee (f := 36) rfl ?_); refine goesL_ (some 35) rfl rfl Try.func36 (by kernel_rfl) rfl #[.agg #[.int .i64 t269, .int .i64 t270, .int .i64 t271, .slice Ao27 t272.length co27], .agg #[.int .i64 a2_0, .int .i64 a2_1, .int .i64 t271], .int .i64 0] rfl (by (try simp only [List.map_toArray, List.map_cons, List.map_nil]); first | done | rfl | (simp only [List.length_drop, List.length_take]; rfl)) ?_; (with_reducible refine (swarfref44_to.calls t269 t270 t271 (fun k_ => some k_ = (.slice Ao27 t272.length co27 : Value).ownBlock) (.slice Ao27 t272.length co27) t272 a2_0 a2_1 t271 0 t275 t276 t277 t278 w0 _ ?side1 ?side2 A8.out).mono ?_); (case side1 => repeat (first | (with_reducible first | exact HB.out | apply below_alloc | apply pw_below_drewN | apply below_drew1 | refine below_set ?_ GE258.out | refine below_set ?_ GE259.out | refine below_set ?_ GE260.out | refine below_set ?_ GE261.out) | exact HB.out)); (case side2 => exact Kd.R_tight rfl HO274.out); rintro e w35 ⟨v279, rfl, ho0, hb, hkp⟩; refine ⟨_, rfl, ?_⟩; have n0_ := Aside0.mk (blk_kept (by (with_reducible repeat (first | refine blk_drewN ?_ _ | refine blk_drew ?_ | refine blk_alloc ?_ _)); exact BK258.out) hkp (fun hs_ => (fun e_ => (Kd.R_ne HO274.out BK258.out (by decide)) e_) hs_)); have n1_ := Aside0.mk (blk_kept (by (with_reducible repeat (first | refine blk_drewN ?_ _ | refine blk_drew ?_ | refine blk_alloc ?_ _)); exact BK259.out) hkp (fun hs_ => (fun e_ => (Kd.R_ne HO274.out BK259.out (by decide)) e_) hs_)); have n2_ := Aside0.mk (blk_kept (by (with_reducible repeat (first | refine blk_drewN ?_ _ | refine blk_drew ?_ | refine blk_alloc ?_ _)); exact BK260.out) hkp (fun hs_ => (fun e_ => (Kd.R_ne HO274.out BK260.out (by decide)) e_) hs_)); have n3_ := Aside0.mk (blk_kept (by (with_reducible repeat (first | refine blk_drewN ?_ _ | refine blk_drew ?_ | refine blk_alloc ?_ _)); exact BK261.out) hkp (fun hs_ => (fun e_ => (Kd.R_ne HO274.out BK261.out (by decide)) e_) hs_)); have n4_ := Aside0.mk (Kd.R_mono (ok' := fun k_ => (P1_3_ k_ ∨ w.heap.size ≤ k_)) (Kd.R_keptB ((Kd.R_apart' HO264.out (Kd.R_typed HO274.out) (by decide))) hkp (fun k_ hk_ hs_ => (hk_.2) hs_)) (fun k_ hk_ => hk_.1.1)); have n5_ := Aside0.mk (Kd.R_mono (ok' := fun k_ => (P1_3_ k_ ∨ w.heap.size ≤ k_)) ho0 (fun k_ hk_ => Or.elim hk_ (fun hs_ => (HO274.out.1 k_ (hs_).symm)) (fun hn_ => (.inr (Nat.le_trans (by first | exact HK.out.1 | exact (show Kept w _ (fun k_ => P1_3_ k_) from by repeat (first | (with_reducible first | exact HK.out | apply Kept.alloc | apply Kept.drewN | apply Kept.drew | refine Kept.setCell ?_ (.inr GW258.out) _ | refine Kept.setCell ?_ (.inr GW259.out) _ | refine Kept.setCell ?_ (.inr GW260.out) _ | refine Kept.setCell ?_ (.inr GW261.out) _) | exact HK.out)).1) hn_))))); have n6_ := Aside0.mk (Kept.then_ (S := (fun k_ => P1_3_ k_)) (by repeat (first | (with_reducible first | exact HK.out | apply Kept.alloc | apply Kept.drewN | apply Kept.drew | refine Kept.setCell ?_ (.inr GW258.out) _ | refine Kept.setCell ?_ (.inr GW259.out) _ | refine Kept.setCell ?_ (.inr GW260.out) _ | refine Kept.setCell ?_ (.inr GW261.out) _) | exact HK.out)) hkp (fun k_ hs_ => (fun e_ => (HO274.out.1 k_ e_.symm)) hs_)); have n7_ := Aside0.mk (hb); clear BK258; clear BK259; clear BK260; clear BK261; clear HO264; clear HK; clear HB; clear HO274; have BK258 := n0_; have BK259 := n1_; have BK260 := n2_; have BK261 := n3_; have HO264 := n4_; have HO280 := n5_; have HK := n6_; have HB := n7_; clear n0_ n1_ n2_ n3_ n4_ n5_ n6_ n7_; (try clear hb); (try clear hkp); (try clear ho0); have hcz36_0 : w35.cell? ⟨gb259, 0, none⟩ = some (.int .i64 t269) := (blk_cell BK259.out 0).trans rfl; have hcz36_1 : w35.cell? ⟨gb259, 1, none⟩ = some (.int .i64 t270) := (blk_cell BK259.out 1).trans rfl; have hcz36_2 : w35.cell? ⟨gb259, 2, none⟩ = some (.int .i64 t271) := (blk_cell BK259.out 2).trans rfl; have hcz36_3 : w35.cell? ⟨gb259, 3, none⟩ = some (.slice Ao27 t272.length co27) := (blk_cell BK259.out 3).trans rfl; have hfz36_0 := blk_frozen BK259.out 0; have hfz36_1 := blk_frozen BK259.out 1; have hfz36_2 := blk_frozen BK259.out 2; have hfz36_3 := blk_frozen BK259.out 3; obtain ⟨Ao37, co37, eo37⟩ := Kd.R_slice HO280.out; subst eo37))
  have n0_ : Aside0 (Kd.R (Kd.int .i64) 2 ((((w35.setCell ⟨gb259, 0, none⟩ (.int .i64 t275)).setCell ⟨gb259, 1, none⟩ (.int .i64 t276)).setCell ⟨gb259, 2, none⟩ (.int .i64 t277)).setCell ⟨gb259, 3, none⟩ (.slice Ao37 t278.length co37)) w0.heap.size (fun k_ => (P1_3_ k_ ∨ w.heap.size ≤ k_)) v263 t262) := ⟨by (with_reducible repeat (first | apply Kd.R_alloc | apply Kd.R_drewN | apply Kd.R_drew)); exact Kd.R_mono (Kd.R_far (p := ⟨gb259, 3, none⟩) (Kd.R_far (p := ⟨gb259, 2, none⟩) (Kd.R_far (p := ⟨gb259, 1, none⟩) (Kd.R_far (p := ⟨gb259, 0, none⟩) (Kd.R_types HO264.out BK259.out (by decide)) (fun _ hk => hk.2) (.int .i64 t275)) (fun _ hk => hk.2) (.int .i64 t276)) (fun _ hk => hk.2) (.int .i64 t277)) (fun _ hk => hk.2) (.slice Ao37 t278.length co37)) (fun _ hk => hk.1)⟩
  have n1_ : Aside0 (Kd.R k45 45 ((((w35.setCell ⟨gb259, 0, none⟩ (.int .i64 t275)).setCell ⟨gb259, 1, none⟩ (.int .i64 t276)).setCell ⟨gb259, 2, none⟩ (.int .i64 t277)).setCell ⟨gb259, 3, none⟩ (.slice Ao37 t278.length co37)) w0.heap.size (fun k_ => (P1_3_ k_ ∨ w.heap.size ≤ k_)) (.slice Ao37 t278.length co37) t278) := ⟨by (with_reducible repeat (first | apply Kd.R_alloc | apply Kd.R_drewN | apply Kd.R_drew)); exact Kd.R_mono (Kd.R_far (p := ⟨gb259, 3, none⟩) (Kd.R_far (p := ⟨gb259, 2, none⟩) (Kd.R_far (p := ⟨gb259, 1, none⟩) (Kd.R_far (p := ⟨gb259, 0, none⟩) (Kd.R_types HO280.out BK259.out (by decide)) (fun _ hk => hk.2) (.int .i64 t275)) (fun _ hk => hk.2) (.int .i64 t276)) (fun _ hk => hk.2) (.int .i64 t277)) (fun _ hk => hk.2) (.slice Ao37 t278.length co37)) (fun _ hk => hk.1)⟩
  have n2_ : Aside0 (((((w35.setCell ⟨gb259, 0, none⟩ (.int .i64 t275)).setCell ⟨gb259, 1, none⟩ (.int .i64 t276)).setCell ⟨gb259, 2, none⟩ (.int .i64 t277)).setCell ⟨gb259, 3, none⟩ (.slice Ao37 t278.length co37)).heap[gb258]? = some (.cells #[.int .i64 a0_0, .int .i64 a0_1, .int .i64 a0_2, .int .i64 a0_3, .int .i64 a0_4, .int .i64 a0_5, .bool a0_6] 23 (0, 0))) := ⟨by (with_reducible repeat (first | refine blk_drewN ?_ _ | refine blk_drew ?_ | refine blk_alloc ?_ _)); refine blk_far ?_ NB258_259.out _; (with_reducible repeat (first | refine blk_drewN ?_ _ | refine blk_drew ?_ | refine blk_alloc ?_ _)); refine blk_far ?_ NB258_259.out _; (with_reducible repeat (first | refine blk_drewN ?_ _ | refine blk_drew ?_ | refine blk_alloc ?_ _)); refine blk_far ?_ NB258_259.out _; (with_reducible repeat (first | refine blk_drewN ?_ _ | refine blk_drew ?_ | refine blk_alloc ?_ _)); refine blk_far ?_ NB258_259.out _; (with_reducible repeat (first | refine blk_drewN ?_ _ | refine blk_drew ?_ | refine blk_alloc ?_ _)); exact BK258.out⟩
  have n3_ : Aside0 (((((w35.setCell ⟨gb259, 0, none⟩ (.int .i64 t275)).setCell ⟨gb259, 1, none⟩ (.int .i64 t276)).setCell ⟨gb259, 2, none⟩ (.int .i64 t277)).setCell ⟨gb259, 3, none⟩ (.slice Ao37 t278.length co37)).heap[gb259]? = some (.cells #[.int .i64 t275, .int .i64 t276, .int .i64 t277, .slice Ao37 t278.length co37] 73 (0, 0))) := ⟨by (with_reducible repeat (first | refine blk_drewN ?_ _ | refine blk_drew ?_ | refine blk_alloc ?_ _)); refine blk_put (cs := #[.int .i64 t275, .int .i64 t276, .int .i64 t277, .slice Ao27 t272.length co27]) ?_ 3 _ rfl; (with_reducible repeat (first | refine blk_drewN ?_ _ | refine blk_drew ?_ | refine blk_alloc ?_ _)); refine blk_put (cs := #[.int .i64 t275, .int .i64 t276, .int .i64 t271, .slice Ao27 t272.length co27]) ?_ 2 _ rfl; (with_reducible repeat (first | refine blk_drewN ?_ _ | refine blk_drew ?_ | refine blk_alloc ?_ _)); refine blk_put (cs := #[.int .i64 t275, .int .i64 t270, .int .i64 t271, .slice Ao27 t272.length co27]) ?_ 1 _ rfl; (with_reducible repeat (first | refine blk_drewN ?_ _ | refine blk_drew ?_ | refine blk_alloc ?_ _)); refine blk_put (cs := #[.int .i64 t269, .int .i64 t270, .int .i64 t271, .slice Ao27 t272.length co27]) ?_ 0 _ rfl; (with_reducible repeat (first | refine blk_drewN ?_ _ | refine blk_drew ?_ | refine blk_alloc ?_ _)); exact BK259.out⟩
  have n4_ : Aside0 (((((w35.setCell ⟨gb259, 0, none⟩ (.int .i64 t275)).setCell ⟨gb259, 1, none⟩ (.int .i64 t276)).setCell ⟨gb259, 2, none⟩ (.int .i64 t277)).setCell ⟨gb259, 3, none⟩ (.slice Ao37 t278.length co37)).heap[gb260]? = some (.cells #[.int .i64 a2_0, .int .i64 a2_1] 43 (0, 0))) := ⟨by (with_reducible repeat (first | refine blk_drewN ?_ _ | refine blk_drew ?_ | refine blk_alloc ?_ _)); refine blk_far ?_ NB260_259.out _; (with_reducible repeat (first | refine blk_drewN ?_ _ | refine blk_drew ?_ | refine blk_alloc ?_ _)); refine blk_far ?_ NB260_259.out _; (with_reducible repeat (first | refine blk_drewN ?_ _ | refine blk_drew ?_ | refine blk_alloc ?_ _)); refine blk_far ?_ NB260_259.out _; (with_reducible repeat (first | refine blk_drewN ?_ _ | refine blk_drew ?_ | refine blk_alloc ?_ _)); refine blk_far ?_ NB260_259.out _; (with_reducible repeat (first | refine blk_drewN ?_ _ | refine blk_drew ?_ | refine blk_alloc ?_ _)); exact BK260.out⟩
  have n5_ : Aside0 (((((w35.setCell ⟨gb259, 0, none⟩ (.int .i64 t275)).setCell ⟨gb259, 1, none⟩ (.int .i64 t276)).setCell ⟨gb259, 2, none⟩ (.int .i64 t277)).setCell ⟨gb259, 3, none⟩ (.slice Ao37 t278.length co37)).heap[gb261]? = some (.cells #[.int .i64 0, .int .i64 0, .int .i64 0, .slice none 0 0] 73 (0, 0))) := ⟨by (with_reducible repeat (first | refine blk_drewN ?_ _ | refine blk_drew ?_ | refine blk_alloc ?_ _)); refine blk_far ?_ NB261_259.out _; (with_reducible repeat (first | refine blk_drewN ?_ _ | refine blk_drew ?_ | refine blk_alloc ?_ _)); refine blk_far ?_ NB261_259.out _; (with_reducible repeat (first | refine blk_drewN ?_ _ | refine blk_drew ?_ | refine blk_alloc ?_ _)); refine blk_far ?_ NB261_259.out _; (with_reducible repeat (first | refine blk_drewN ?_ _ | refine blk_drew ?_ | refine blk_alloc ?_ _)); refine blk_far ?_ NB261_259.out _; (with_reducible repeat (first | refine blk_drewN ?_ _ | refine blk_drew ?_ | refine blk_alloc ?_ _)); exact BK261.out⟩
  have n6_ : Aside0 (Kept w ((((w35.setCell ⟨gb259, 0, none⟩ (.int .i64 t275)).setCell ⟨gb259, 1, none⟩ (.int .i64 t276)).setCell ⟨gb259, 2, none⟩ (.int .i64 t277)).setCell ⟨gb259, 3, none⟩ (.slice Ao37 t278.length co37)) (fun k_ => P1_3_ k_)) := ⟨by repeat (first | (with_reducible first | exact HK.out | apply Kept.alloc | apply Kept.drewN | apply Kept.drew | refine Kept.setCell ?_ (.inr GW258.out) _ | refine Kept.setCell ?_ (.inr GW259.out) _ | refine Kept.setCell ?_ (.inr GW260.out) _ | refine Kept.setCell ?_ (.inr GW261.out) _) | exact HK.out)⟩
  have n7_ : Aside0 (Below w0.heap.size w0 ((((w35.setCell ⟨gb259, 0, none⟩ (.int .i64 t275)).setCell ⟨gb259, 1, none⟩ (.int .i64 t276)).setCell ⟨gb259, 2, none⟩ (.int .i64 t277)).setCell ⟨gb259, 3, none⟩ (.slice Ao37 t278.length co37))) := ⟨by repeat (first | (with_reducible first | exact HB.out | apply below_alloc | apply pw_below_drewN | apply below_drew1 | refine below_set ?_ GE258.out | refine below_set ?_ GE259.out | refine below_set ?_ GE260.out | refine below_set ?_ GE261.out) | exact HB.out)⟩
  (try clear HO264)
  (try clear HO280)
  (try clear BK258)
  (try clear BK259)
  (try clear BK260)
  (try clear BK261)
  (try clear HK)
  (try clear HB)
  generalize ((((w35.setCell ⟨gb259, 0, none⟩ (.int .i64 t275)).setCell ⟨gb259, 1, none⟩ (.int .i64 t276)).setCell ⟨gb259, 2, none⟩ (.int .i64 t277)).setCell ⟨gb259, 3, none⟩ (.slice Ao37 t278.length co37)) = w38 at n0_ n1_ n2_ n3_ n4_ n5_ n6_ n7_ ⊢
  have HO264 := n0_
  have HO280 := n1_
  have BK258 := n2_
  have BK259 := n3_
  have BK260 := n4_
  have BK261 := n5_
  have HK := n6_
  have HB := n7_
  clear n0_ n1_ n2_ n3_ n4_ n5_ n6_ n7_
  have n0_ := Aside0.mk (Kd.R_drew HO264.out)
  have n1_ := Aside0.mk (Kd.R_drew HO280.out)
  have n2_ := Aside0.mk (blk_drew BK258.out)
  have n3_ := Aside0.mk (blk_drew BK259.out)
  have n4_ := Aside0.mk (blk_drew BK260.out)
  have n5_ := Aside0.mk (blk_drew BK261.out)
  have n6_ := Aside0.mk (Kept.drew HK.out)
  have n7_ := Aside0.mk (below_drew1 HB.out)
  clear HO264
  clear HO280
  clear BK258
  clear BK259
  clear BK260
  clear BK261
  clear HK
  clear HB
  have HO264 := n0_
  have HO280 := n1_
  have BK258 := n2_
  have BK259 := n3_
  have BK260 := n4_
  have BK261 := n5_
  have HK := n6_
  have HB := n7_
  clear n0_ n1_ n2_ n3_ n4_ n5_ n6_ n7_
  refine start_ (n := 8) (S := fun w' => w'.cell? ⟨gb259, 0, none⟩ = some (.int .i64 t275) ∧ w'.cell? ⟨gb259, 1, none⟩ = some (.int .i64 t276) ∧ w'.cell? ⟨gb259, 2, none⟩ = some (.int .i64 t277) ∧ w'.cell? ⟨gb259, 3, none⟩ = some (.slice Ao37 t278.length co37) ∧ w'.cell? ⟨gb258, 0, none⟩ = some (.int .i64 a0_0) ∧ w'.cell? ⟨gb258, 1, none⟩ = some (.int .i64 a0_1) ∧ w'.cell? ⟨gb258, 2, none⟩ = some (.int .i64 a0_2) ∧ w'.cell? ⟨gb258, 3, none⟩ = some (.int .i64 a0_3) ∧ w'.cell? ⟨gb258, 4, none⟩ = some (.int .i64 a0_4) ∧ w'.cell? ⟨gb258, 5, none⟩ = some (.int .i64 a0_5) ∧ w'.cell? ⟨gb258, 6, none⟩ = some (.bool a0_6)) (ds := [7]) #[false, false, false, false, false, false, false, false] (by kernel_rfl) rfl rfl ⟨(blk_cell BK259.out 0).trans rfl, (blk_cell BK259.out 1).trans rfl, (blk_cell BK259.out 2).trans rfl, (blk_cell BK259.out 3).trans rfl, (blk_cell BK258.out 0).trans rfl, (blk_cell BK258.out 1).trans rfl, (blk_cell BK258.out 2).trans rfl, (blk_cell BK258.out 3).trans rfl, (blk_cell BK258.out 4).trans rfl, (blk_cell BK258.out 5).trans rfl, (blk_cell BK258.out 6).trans rfl⟩ (fun hHeld => ?_); refine with_tabW swarfref44_one.tab4 swarfref44_one.bits4 (fun HT_ HW_ => ?_)
  generalize w38.drew = w39 at HO264 HO280 BK258 BK259 BK260 BK261 HK HB hHeld ⊢
  refine pure_ (i := 1) (N := some 37) (v := ?_) (a' := ?_) #[false, true, false, false, false, false, false, false] rfl rfl (any_of HT_.out (by kernel_rfl)) (fun _ _ _ h => h) (Or.inl ⟨by rfl, ?_⟩) ?_ ?_
  rotate_left
  · intro w'
    go_simp
    with_reducible rfl
  rotate_left
  · simp only [Act.put, List.setIfInBounds_toArray, List.set_cons_zero, List.set_cons_succ, i64_w, i32_w]
    rfl
  refine pure_ (i := 3) (N := some 39) (v := ?_) (a' := ?_) #[false, true, false, true, false, false, false, false] rfl rfl (any_of HT_.out (by kernel_rfl)) (fun _ _ _ h => h) (Or.inl ⟨by rfl, ?_⟩) ?_ ?_
  rotate_left
  · intro w'
    go_simp
    with_reducible rfl
  rotate_left
  · simp only [Act.put, List.setIfInBounds_toArray, List.set_cons_zero, List.set_cons_succ, i64_w, i32_w]
    rfl
  refine take_ (i := 0) (N := some 36) (v := ?_) (a' := ?_) #[true, true, false, true, false, false, false, false] rfl rfl (take_ofW HT_.out HW_.out (by kernel_rfl)) (fun _ _ _ h => h) (Or.inl ⟨by rfl, ?_⟩) hHeld ?_ ?_
  rotate_left
  · rintro w' ⟨s0, s1, s2, s3, s4, s5, s6, s7, s8, s9, s10⟩
    go_simp
    with_reducible rfl
  rotate_left
  · simp only [Act.put, List.setIfInBounds_toArray, List.set_cons_zero, List.set_cons_succ, i64_w, i32_w]
    rfl
  refine take_ (i := 2) (N := some 38) (v := ?_) (a' := ?_) #[true, true, true, true, false, false, false, false] rfl rfl (take_ofW HT_.out HW_.out (by kernel_rfl)) (fun _ _ _ h => h) (Or.inl ⟨by rfl, ?_⟩) hHeld ?_ ?_
  rotate_left
  · rintro w' ⟨s0, s1, s2, s3, s4, s5, s6, s7, s8, s9, s10⟩
    go_simp
    with_reducible rfl
  rotate_left
  · simp only [Act.put, List.setIfInBounds_toArray, List.set_cons_zero, List.set_cons_succ, i64_w, i32_w]
    rfl
  refine take_ (i := 4) (N := some 40) (v := ?_) (a' := ?_) #[true, true, true, true, true, false, false, false] rfl rfl (take_ofW HT_.out HW_.out (by kernel_rfl)) (fun _ _ _ h => h) (Or.inl ⟨by rfl, ?_⟩) hHeld ?_ ?_
  rotate_left
  · rintro w' ⟨s0, s1, s2, s3, s4, s5, s6, s7, s8, s9, s10⟩
    go_simp
    with_reducible rfl
  rotate_left
  · simp only [Act.put, List.setIfInBounds_toArray, List.set_cons_zero, List.set_cons_succ, i64_w, i32_w]
    rfl
  refine one_ (i := 5) (N := some 41) #[true, true, true, true, true, true, false, false] rfl rfl (one_of HT_.out (by kernel_rfl)) (by decide) (fun K hK => ?_)
  refine goes_ Try.func37 (by kernel_rfl) rfl #[.agg #[.int .i64 t275, .int .i64 t276, .int .i64 t277], .int .i64 a0_1] (by rfl) rfl rfl (by (try simp only [List.map_toArray, List.map_cons, List.map_nil]); first | done | rfl | (simp only [List.length_drop, List.length_take]; rfl)) ?_
  with_reducible refine (swarfref44_up.calls t275 t276 t277 a0_1 t281 t282 t283 _ A9.out).mono ?_
  rintro e w40 ⟨rfl, hb⟩
  refine ⟨_, rfl, ?_⟩
  have n0_ := Aside0.mk (Kd.R_below (by (with_reducible repeat (first | apply Kd.R_alloc | apply Kd.R_drewN | apply Kd.R_drew)); exact HO264.out) hb)
  have n1_ := Aside0.mk (Kd.R_below (by (with_reducible repeat (first | apply Kd.R_alloc | apply Kd.R_drewN | apply Kd.R_drew)); exact HO280.out) hb)
  have n2_ := Aside0.mk (blk_below (g := gb258) (o := .cells #[.int .i64 a0_0, .int .i64 a0_1, .int .i64 a0_2, .int .i64 a0_3, .int .i64 a0_4, .int .i64 a0_5, .bool a0_6] 23 (0, 0)) (by (with_reducible repeat (first | refine blk_drewN ?_ _ | refine blk_drew ?_ | refine blk_alloc ?_ _)); exact BK258.out) hb)
  have n3_ := Aside0.mk (blk_below (g := gb259) (o := .cells #[.int .i64 t275, .int .i64 t276, .int .i64 t277, .slice Ao37 t278.length co37] 73 (0, 0)) (by (with_reducible repeat (first | refine blk_drewN ?_ _ | refine blk_drew ?_ | refine blk_alloc ?_ _)); exact BK259.out) hb)
  have n4_ := Aside0.mk (blk_below (g := gb260) (o := .cells #[.int .i64 a2_0, .int .i64 a2_1] 43 (0, 0)) (by (with_reducible repeat (first | refine blk_drewN ?_ _ | refine blk_drew ?_ | refine blk_alloc ?_ _)); exact BK260.out) hb)
  have n5_ := Aside0.mk (blk_below (g := gb261) (o := .cells #[.int .i64 0, .int .i64 0, .int .i64 0, .slice none 0 0] 73 (0, 0)) (by (with_reducible repeat (first | refine blk_drewN ?_ _ | refine blk_drew ?_ | refine blk_alloc ?_ _)); exact BK261.out) hb)
  have n6_ := Aside0.mk (Kept.below (S := (fun k_ => P1_3_ k_)) (by repeat (first | (with_reducible first | exact HK.out | apply Kept.alloc | apply Kept.drewN | apply Kept.drew | refine Kept.setCell ?_ (.inr GW258.out) _ | refine Kept.setCell ?_ (.inr GW259.out) _ | refine Kept.setCell ?_ (.inr GW260.out) _ | refine Kept.setCell ?_ (.inr GW261.out) _) | exact HK.out)) hb)
  have n7_ := Aside0.mk (below_step (by repeat (first | (with_reducible first | exact HB.out | apply below_alloc | apply pw_below_drewN | apply below_drew1 | refine below_set ?_ GE258.out | refine below_set ?_ GE259.out | refine below_set ?_ GE260.out | refine below_set ?_ GE261.out) | exact HB.out)) hb)
  clear HO264
  clear HO280
  clear BK258
  clear BK259
  clear BK260
  clear BK261
  clear HK
  clear HB
  have HO264 := n0_
  have HO280 := n1_
  have BK258 := n2_
  have BK259 := n3_
  have BK260 := n4_
  have BK261 := n5_
  have HK := n6_
  have HB := n7_
  clear n0_ n1_ n2_ n3_ n4_ n5_ n6_ n7_
  (try clear hb)
  (try clear hb2)
  (try clear hk)
  (try clear hi)
  refine hK.out _ _ ⟨(blk_cell BK259.out 0).trans rfl, (blk_cell BK259.out 1).trans rfl, (blk_cell BK259.out 2).trans rfl, (blk_cell BK259.out 3).trans rfl, (blk_cell BK258.out 0).trans rfl, (blk_cell BK258.out 1).trans rfl, (blk_cell BK258.out 2).trans rfl, (blk_cell BK258.out 3).trans rfl, (blk_cell BK258.out 4).trans rfl, (blk_cell BK258.out 5).trans rfl, (blk_cell BK258.out 6).trans rfl⟩ (fun hHeld => ?_)
  clear hK K
  refine norm_ (a' := ?_) ?_ ?_
  rotate_left
  · show Act.put _ (some 41) _ = _
    simp only [Act.put, List.setIfInBounds_toArray, List.set_cons_zero, List.set_cons_succ, i64_w, i32_w]
    rfl
  refine one_ (i := 6) (N := some 42) #[true, true, true, true, true, true, true, false] rfl rfl (one_of HT_.out (by kernel_rfl)) (by decide) (fun K hK => ?_)
  refine goes_ Try.func36 (by kernel_rfl) rfl #[.agg #[.int .i64 t275, .int .i64 t276, .int .i64 t277, .slice Ao37 t278.length co37], .agg #[.int .i64 t281, .int .i64 t282, .int .i64 t283], .int .i64 0] (by rfl) rfl rfl (by (try simp only [List.map_toArray, List.map_cons, List.map_nil]); first | done | rfl | (simp only [List.length_drop, List.length_take]; rfl)) ?_
  with_reducible refine (swarfref44_to.calls t275 t276 t277 (fun k_ => some k_ = (.slice Ao37 t278.length co37 : Value).ownBlock) (.slice Ao37 t278.length co37) t278 t281 t282 t283 0 t284 t285 t286 t287 w0 _ ?side1 ?side2 A10.out).mono ?_
  (case side1 => repeat (first | (with_reducible first | exact HB.out | apply below_alloc | apply pw_below_drewN | apply below_drew1 | refine below_set ?_ GE258.out | refine below_set ?_ GE259.out | refine below_set ?_ GE260.out | refine below_set ?_ GE261.out) | exact HB.out))
  (case side2 => exact Kd.R_tight rfl HO280.out)
  rintro e w41 ⟨v288, rfl, ho0, hb, hkp⟩
  refine ⟨_, rfl, ?_⟩
  have n0_ := Aside0.mk (blk_kept (by (with_reducible repeat (first | refine blk_drewN ?_ _ | refine blk_drew ?_ | refine blk_alloc ?_ _)); exact BK258.out) hkp (fun hs_ => (fun e_ => (Kd.R_ne HO280.out BK258.out (by decide)) e_) hs_))
  have n1_ := Aside0.mk (blk_kept (by (with_reducible repeat (first | refine blk_drewN ?_ _ | refine blk_drew ?_ | refine blk_alloc ?_ _)); exact BK259.out) hkp (fun hs_ => (fun e_ => (Kd.R_ne HO280.out BK259.out (by decide)) e_) hs_))
  have n2_ := Aside0.mk (blk_kept (by (with_reducible repeat (first | refine blk_drewN ?_ _ | refine blk_drew ?_ | refine blk_alloc ?_ _)); exact BK260.out) hkp (fun hs_ => (fun e_ => (Kd.R_ne HO280.out BK260.out (by decide)) e_) hs_))
  have n3_ := Aside0.mk (blk_kept (by (with_reducible repeat (first | refine blk_drewN ?_ _ | refine blk_drew ?_ | refine blk_alloc ?_ _)); exact BK261.out) hkp (fun hs_ => (fun e_ => (Kd.R_ne HO280.out BK261.out (by decide)) e_) hs_))
  have n4_ := Aside0.mk (Kd.R_mono (ok' := fun k_ => (P1_3_ k_ ∨ w.heap.size ≤ k_)) (Kd.R_keptB ((Kd.R_apart' HO264.out (Kd.R_typed HO280.out) (by decide))) hkp (fun k_ hk_ hs_ => (hk_.2) hs_)) (fun k_ hk_ => hk_.1.1))
  have n5_ := Aside0.mk (Kd.R_mono (ok' := fun k_ => (P1_3_ k_ ∨ w.heap.size ≤ k_)) ho0 (fun k_ hk_ => Or.elim hk_ (fun hs_ => (HO280.out.1 k_ (hs_).symm)) (fun hn_ => (.inr (Nat.le_trans (by first | exact HK.out.1 | exact (show Kept w _ (fun k_ => P1_3_ k_) from by repeat (first | (with_reducible first | exact HK.out | apply Kept.alloc | apply Kept.drewN | apply Kept.drew | refine Kept.setCell ?_ (.inr GW258.out) _ | refine Kept.setCell ?_ (.inr GW259.out) _ | refine Kept.setCell ?_ (.inr GW260.out) _ | refine Kept.setCell ?_ (.inr GW261.out) _) | exact HK.out)).1) hn_)))))
  have n6_ := Aside0.mk (Kept.then_ (S := (fun k_ => P1_3_ k_)) (by repeat (first | (with_reducible first | exact HK.out | apply Kept.alloc | apply Kept.drewN | apply Kept.drew | refine Kept.setCell ?_ (.inr GW258.out) _ | refine Kept.setCell ?_ (.inr GW259.out) _ | refine Kept.setCell ?_ (.inr GW260.out) _ | refine Kept.setCell ?_ (.inr GW261.out) _) | exact HK.out)) hkp (fun k_ hs_ => (fun e_ => (HO280.out.1 k_ e_.symm)) hs_))
  have n7_ := Aside0.mk (hb)
  clear BK258
  clear BK259
  clear BK260
  clear BK261
  clear HO264
  clear HK
  clear HB
  clear HO280
  have BK258 := n0_
  have BK259 := n1_
  have BK260 := n2_
  have BK261 := n3_
  have HO264 := n4_
  have HO289 := n5_
  have HK := n6_
  have HB := n7_
  clear n0_ n1_ n2_ n3_ n4_ n5_ n6_ n7_
  (try clear hb)
  (try clear hkp)
  (try clear ho0)
  obtain ⟨Ao45, co45, eo45⟩ := Kd.R_slice HO289.out
  (first | subst eo45 | (injection eo45 with f1_ f2_ f3_; have f4_ := f1_.symm; have f5_ := f3_.symm; clear f1_ f2_ f3_; subst f4_; subst f5_))
  refine hK.out _ _ ⟨(blk_cell BK259.out 0).trans rfl, (blk_cell BK259.out 1).trans rfl, (blk_cell BK259.out 2).trans rfl, (blk_cell BK259.out 3).trans rfl, (blk_cell BK258.out 0).trans rfl, (blk_cell BK258.out 1).trans rfl, (blk_cell BK258.out 2).trans rfl, (blk_cell BK258.out 3).trans rfl, (blk_cell BK258.out 4).trans rfl, (blk_cell BK258.out 5).trans rfl, (blk_cell BK258.out 6).trans rfl⟩ (fun hHeld => ?_)
  clear hK K
  refine norm_ (a' := ?_) ?_ ?_
  rotate_left
  · show Act.put _ (some 42) _ = _
    simp only [Act.put, List.setIfInBounds_toArray, List.set_cons_zero, List.set_cons_succ, i64_w, i32_w]
    rfl
  refine last_ (i := 7) (N := none) #[true, true, true, true, true, true, true, true] rfl rfl (one_of HT_.out (by kernel_rfl)) (by decide) (fun K hK => ?_)
  have hs42 : w41.cell? ⟨gb259, 0, none⟩ = some (.int .i64 t275) := (blk_cell BK259.out 0).trans rfl
  have hfs42 := blk_frozen BK259.out 0
  have hns42_0 := NB258_259.out
  have hns42_2 := NB260_259.out
  have hns42_3 := NB261_259.out
  have hms42_0 := NB259_258.out
  have hms42_2 := NB259_260.out
  have hms42_3 := NB259_261.out
  have hs43 : w41.cell? ⟨gb259, 1, none⟩ = some (.int .i64 t276) := (blk_cell BK259.out 1).trans rfl
  have hfs43 := blk_frozen BK259.out 1
  have hns43_0 := NB258_259.out
  have hns43_2 := NB260_259.out
  have hns43_3 := NB261_259.out
  have hms43_0 := NB259_258.out
  have hms43_2 := NB259_260.out
  have hms43_3 := NB259_261.out
  have hs44 : w41.cell? ⟨gb259, 2, none⟩ = some (.int .i64 t277) := (blk_cell BK259.out 2).trans rfl
  have hfs44 := blk_frozen BK259.out 2
  have hns44_0 := NB258_259.out
  have hns44_2 := NB260_259.out
  have hns44_3 := NB261_259.out
  have hms44_0 := NB259_258.out
  have hms44_2 := NB259_260.out
  have hms44_3 := NB259_261.out
  have hs46 : w41.cell? ⟨gb259, 3, none⟩ = some (.slice Ao37 t278.length co37) := (blk_cell BK259.out 3).trans rfl
  have hfs46 := blk_frozen BK259.out 3
  have hns46_0 := NB258_259.out
  have hns46_2 := NB260_259.out
  have hns46_3 := NB261_259.out
  have hms46_0 := NB259_258.out
  have hms46_2 := NB259_260.out
  have hms46_3 := NB259_261.out
  refine skip_ (w1 := ?_) (by rfl) rfl ?_ ?_
  rotate_left
  · go_simp
    rfl
  refine hK.out _ _ ?_
  clear hK K
  refine done_ (done_of HT_.out (by kernel_rfl)) ?_
  try go_wp2
  go_loopg [9] k (fun kq v9 w' => ∃ (x9_1 : Int) (x260000_1 : Int) (x260001_1 : Int) (x260002_1 : Int) (x260003_1 : List (S45)) (u260003 : Value), v9 = .int .i64 x9_1 ∧ Aside0 (swarfref44_one.l0 kq t262 x9_1 a0_0 a0_1 a0_2 a0_3 a0_4 a0_5 a0_6 x260000_1 x260001_1 x260002_1 x260003_1 = some (r1, r2, r3, r4)) ∧ Aside0 (kq ≤ k) ∧ Aside0 (Kd.R (Kd.int .i64) 2 w' w0.heap.size (fun k_ => (P1_3_ k_ ∨ w.heap.size ≤ k_)) v263 t262) ∧ Aside0 (Kd.R k45 45 w' w0.heap.size (fun k_ => (P1_3_ k_ ∨ w.heap.size ≤ k_)) u260003 x260003_1) ∧ Aside0 (w'.heap[gb258]? = some (.cells #[.int .i64 a0_0, .int .i64 a0_1, .int .i64 a0_2, .int .i64 a0_3, .int .i64 a0_4, .int .i64 a0_5, .bool a0_6] 23 (0, 0))) ∧ Aside0 (w'.heap[gb259]? = some (.cells #[.int .i64 x260000_1, .int .i64 x260001_1, .int .i64 x260002_1, u260003] 73 (0, 0))) ∧ Aside0 (w'.heap[gb260]? = some (.cells #[.int .i64 a2_0, .int .i64 a2_1] 43 (0, 0))) ∧ Aside0 (w'.heap[gb261]? = some (.cells #[.int .i64 0, .int .i64 0, .int .i64 0, (.slice none 0 0)] 73 (0, 0))) ∧ Aside0 (Kept w w' (fun k_ => P1_3_ k_)) ∧ Aside0 (Below w0.heap.size w0 w'))
  case atStart => exact ⟨(0), (t284), (t285), (t286), (t287), (.slice Ao45 t287.length co45), (by first | rfl | (simp; done) | (simp [*]; done)), H', ⟨Nat.le_refl _⟩, ⟨by (with_reducible repeat (first | apply Kd.R_alloc | apply Kd.R_drewN | apply Kd.R_drew)); exact Kd.R_mono (Kd.R_far (p := ⟨gb259, 3, none⟩) (Kd.R_far (p := ⟨gb259, 2, none⟩) (Kd.R_far (p := ⟨gb259, 1, none⟩) (Kd.R_far (p := ⟨gb259, 0, none⟩) (Kd.R_types HO264.out BK259.out (by decide)) (fun _ hk => hk.2) (.int .i64 t284)) (fun _ hk => hk.2) (.int .i64 t285)) (fun _ hk => hk.2) (.int .i64 t286)) (fun _ hk => hk.2) (.slice Ao45 t287.length co45)) (fun _ hk => hk.1)⟩, ⟨by (with_reducible repeat (first | apply Kd.R_alloc | apply Kd.R_drewN | apply Kd.R_drew)); exact Kd.R_mono (Kd.R_far (p := ⟨gb259, 3, none⟩) (Kd.R_far (p := ⟨gb259, 2, none⟩) (Kd.R_far (p := ⟨gb259, 1, none⟩) (Kd.R_far (p := ⟨gb259, 0, none⟩) (Kd.R_types HO289.out BK259.out (by decide)) (fun _ hk => hk.2) (.int .i64 t284)) (fun _ hk => hk.2) (.int .i64 t285)) (fun _ hk => hk.2) (.int .i64 t286)) (fun _ hk => hk.2) (.slice Ao45 t287.length co45)) (fun _ hk => hk.1)⟩, ⟨by (with_reducible repeat (first | refine blk_drewN ?_ _ | refine blk_drew ?_ | refine blk_alloc ?_ _)); refine blk_far ?_ NB258_259.out _; (with_reducible repeat (first | refine blk_drewN ?_ _ | refine blk_drew ?_ | refine blk_alloc ?_ _)); refine blk_far ?_ NB258_259.out _; (with_reducible repeat (first | refine blk_drewN ?_ _ | refine blk_drew ?_ | refine blk_alloc ?_ _)); refine blk_far ?_ NB258_259.out _; (with_reducible repeat (first | refine blk_drewN ?_ _ | refine blk_drew ?_ | refine blk_alloc ?_ _)); refine blk_far ?_ NB258_259.out _; (with_reducible repeat (first | refine blk_drewN ?_ _ | refine blk_drew ?_ | refine blk_alloc ?_ _)); exact BK258.out⟩, ⟨by (with_reducible repeat (first | refine blk_drewN ?_ _ | refine blk_drew ?_ | refine blk_alloc ?_ _)); refine blk_put (cs := #[.int .i64 t284, .int .i64 t285, .int .i64 t286, .slice Ao37 t278.length co37]) ?_ 3 _ rfl; (with_reducible repeat (first | refine blk_drewN ?_ _ | refine blk_drew ?_ | refine blk_alloc ?_ _)); refine blk_put (cs := #[.int .i64 t284, .int .i64 t285, .int .i64 t277, .slice Ao37 t278.length co37]) ?_ 2 _ rfl; (with_reducible repeat (first | refine blk_drewN ?_ _ | refine blk_drew ?_ | refine blk_alloc ?_ _)); refine blk_put (cs := #[.int .i64 t284, .int .i64 t276, .int .i64 t277, .slice Ao37 t278.length co37]) ?_ 1 _ rfl; (with_reducible repeat (first | refine blk_drewN ?_ _ | refine blk_drew ?_ | refine blk_alloc ?_ _)); refine blk_put (cs := #[.int .i64 t275, .int .i64 t276, .int .i64 t277, .slice Ao37 t278.length co37]) ?_ 0 _ rfl; (with_reducible repeat (first | refine blk_drewN ?_ _ | refine blk_drew ?_ | refine blk_alloc ?_ _)); exact BK259.out⟩, ⟨by (with_reducible repeat (first | refine blk_drewN ?_ _ | refine blk_drew ?_ | refine blk_alloc ?_ _)); refine blk_far ?_ NB260_259.out _; (with_reducible repeat (first | refine blk_drewN ?_ _ | refine blk_drew ?_ | refine blk_alloc ?_ _)); refine blk_far ?_ NB260_259.out _; (with_reducible repeat (first | refine blk_drewN ?_ _ | refine blk_drew ?_ | refine blk_alloc ?_ _)); refine blk_far ?_ NB260_259.out _; (with_reducible repeat (first | refine blk_drewN ?_ _ | refine blk_drew ?_ | refine blk_alloc ?_ _)); refine blk_far ?_ NB260_259.out _; (with_reducible repeat (first | refine blk_drewN ?_ _ | refine blk_drew ?_ | refine blk_alloc ?_ _)); exact BK260.out⟩, ⟨by (with_reducible repeat (first | refine blk_drewN ?_ _ | refine blk_drew ?_ | refine blk_alloc ?_ _)); refine blk_far ?_ NB261_259.out _; (with_reducible repeat (first | refine blk_drewN ?_ _ | refine blk_drew ?_ | refine blk_alloc ?_ _)); refine blk_far ?_ NB261_259.out _; (with_reducible repeat (first | refine blk_drewN ?_ _ | refine blk_drew ?_ | refine blk_alloc ?_ _)); refine blk_far ?_ NB261_259.out _; (with_reducible repeat (first | refine blk_drewN ?_ _ | refine blk_drew ?_ | refine blk_alloc ?_ _)); refine blk_far ?_ NB261_259.out _; (with_reducible repeat (first | refine blk_drewN ?_ _ | refine blk_drew ?_ | refine blk_alloc ?_ _)); exact BK261.out⟩, ⟨by repeat (first | (with_reducible first | exact HK.out | apply Kept.alloc | apply Kept.drewN | apply Kept.drew | refine Kept.setCell ?_ (.inr GW258.out) _ | refine Kept.setCell ?_ (.inr GW259.out) _ | refine Kept.setCell ?_ (.inr GW260.out) _ | refine Kept.setCell ?_ (.inr GW261.out) _) | exact HK.out)⟩, ⟨by repeat (first | (with_reducible first | exact HB.out | apply below_alloc | apply pw_below_drewN | apply below_drew1 | refine below_set ?_ GE258.out | refine below_set ?_ GE259.out | refine below_set ?_ GE260.out | refine below_set ?_ GE261.out) | exact HB.out)⟩⟩
  case round =>
    clear H'
    try clear c1
    try clear c2
    try clear p2
    try clear c3
    try clear c11
    try clear c16
    try clear c17
    try clear c18
    try clear c29
    try clear c30
    try clear c31
    try clear c33
    try clear c36
    try clear c37
    try clear hcz19_0
    try clear hcz19_1
    try clear hcz19_2
    try clear hcz19_3
    try clear hcz19_4
    try clear hcz19_5
    try clear hcz19_6
    try clear hcz32_0
    try clear hcz32_1
    try clear hcz32_2
    try clear hcz32_3
    try clear hcz34_0
    try clear hcz34_1
    try clear hcz36_0
    try clear hcz36_1
    try clear hcz36_2
    try clear hcz36_3
    try clear hfz19_0
    try clear hfz19_1
    try clear hfz19_2
    try clear hfz19_3
    try clear hfz19_4
    try clear hfz19_5
    try clear hfz19_6
    try clear hfz32_0
    try clear hfz32_1
    try clear hfz32_2
    try clear hfz32_3
    try clear hfz34_0
    try clear hfz34_1
    try clear hfz36_0
    try clear hfz36_1
    try clear hfz36_2
    try clear hfz36_3
    obtain ⟨x9_1, x260000_1, x260001_1, x260002_1, x260003_1, u260003, rfl, HA, HK1, HO_7, HO_260003, BK258, BK259, BK260, BK261, HK, HB⟩ := hrel
    cases gk with
    | zero => exact absurd HA.out (by simp [swarfref44_one.l0])
    | succ k1 =>
      have H := HA.out
      clear HA
      simp only [swarfref44_one.l0] at H
      by_cases c47 : x9_1 < (t262.length : Int)
      · rw [if_pos c47] at H
        have c47b0 : decide (x9_1 < (t262.length : Int)) = true := decide_eq_true c47
        clear c47
        by_cases c48 : 0 ≤ x9_1
        · rw [if_pos c48] at H
          have c48b0 : decide (0 ≤ x9_1) = true := decide_eq_true c48
          clear c48
          replace H := Option.bind_eq_some_iff.mp H
          obtain ⟨⟨t291, t292, t293⟩, A490, H⟩ := H
          replace H : ((swarfref44_to.f x260000_1 x260001_1 x260002_1 x260003_1 t291 t292 t293 a0_4).bind fun bt294 => ((swarfref44_up.f bt294.1 bt294.2.1 bt294.2.2.1 a0_1).bind fun bt300 => ((swarfref44_to.f bt294.1 bt294.2.1 bt294.2.2.1 bt294.2.2.2 bt300.1 bt300.2.1 bt300.2.2 0).bind fun bt303 => (swarfref44_one.l0 k1 t262 (wrap64 (x9_1 + 1)) a0_0 a0_1 a0_2 a0_3 a0_4 a0_5 a0_6 bt303.1 bt303.2.1 bt303.2.2.1 bt303.2.2.2)))) = some (r1, r2, r3, r4) := H
          have A49 := Aside0.mk A490
          clear A490
          replace H := Option.bind_eq_some_iff.mp H
          obtain ⟨⟨t294, t295, t296, t297⟩, A500, H⟩ := H
          replace H : ((swarfref44_up.f t294 t295 t296 a0_1).bind fun bt300 => ((swarfref44_to.f t294 t295 t296 t297 bt300.1 bt300.2.1 bt300.2.2 0).bind fun bt303 => (swarfref44_one.l0 k1 t262 (wrap64 (x9_1 + 1)) a0_0 a0_1 a0_2 a0_3 a0_4 a0_5 a0_6 bt303.1 bt303.2.1 bt303.2.2.1 bt303.2.2.2))) = some (r1, r2, r3, r4) := H
          have A50 := Aside0.mk A500
          clear A500
          replace H := Option.bind_eq_some_iff.mp H
          obtain ⟨⟨t300, t301, t302⟩, A510, H⟩ := H
          replace H : ((swarfref44_to.f t294 t295 t296 t297 t300 t301 t302 0).bind fun bt303 => (swarfref44_one.l0 k1 t262 (wrap64 (x9_1 + 1)) a0_0 a0_1 a0_2 a0_3 a0_4 a0_5 a0_6 bt303.1 bt303.2.1 bt303.2.2.1 bt303.2.2.2)) = some (r1, r2, r3, r4) := H
          have A51 := Aside0.mk A510
          clear A510
          replace H := Option.bind_eq_some_iff.mp H
          obtain ⟨⟨t303, t304, t305, t306⟩, A520, H⟩ := H
          replace H : (swarfref44_one.l0 k1 t262 (wrap64 (x9_1 + 1)) a0_0 a0_1 a0_2 a0_3 a0_4 a0_5 a0_6 t303 t304 t305 t306) = some (r1, r2, r3, r4) := H
          have A52 := Aside0.mk A520
          clear A520
          have H' := Aside0.mk H
          clear H
          obtain ⟨Ao53, co53, eo53⟩ := Kd.R_slice HO_7.out
          subst eo53
          try go_wp2
          have n0_ := Aside0.mk (Kd.R_drew HO_7.out)
          have n1_ := Aside0.mk (Kd.R_drew HO_260003.out)
          have n2_ := Aside0.mk (blk_drew BK258.out)
          have n3_ := Aside0.mk (blk_drew BK259.out)
          have n4_ := Aside0.mk (blk_drew BK260.out)
          have n5_ := Aside0.mk (blk_drew BK261.out)
          have n6_ := Aside0.mk (Kept.drew HK.out)
          have n7_ := Aside0.mk (below_drew1 HB.out)
          clear HO_7
          clear HO_260003
          clear BK258
          clear BK259
          clear BK260
          clear BK261
          clear HK
          clear HB
          have HO_7 := n0_
          have HO_260003 := n1_
          have BK258 := n2_
          have BK259 := n3_
          have BK260 := n4_
          have BK261 := n5_
          have HK := n6_
          have HB := n7_
          clear n0_ n1_ n2_ n3_ n4_ n5_ n6_ n7_
          have p290 : 0 ≤ (x9_1 : Int) := of_decide_eq_true (by first | (with_reducible assumption) | assumption)
          have q290 : x9_1 < (t262.length : Int) := of_decide_eq_true (by first | (with_reducible assumption) | assumption)
          obtain ⟨ad290, e290, hx290_0⟩ := Kd.at_int (Kd.R_reads' HO_7.out).2.2 x9_1 p290 q290
          cases e290
          replace p290 := eq_true p290
          replace q290 := eq_true q290
          refine start_ (n := 12) (S := fun w' => w'.cell? ⟨gb259, 0, none⟩ = some (.int .i64 x260000_1) ∧ w'.cell? ⟨gb259, 1, none⟩ = some (.int .i64 x260001_1) ∧ w'.cell? ⟨gb259, 2, none⟩ = some (.int .i64 x260002_1) ∧ w'.cell? ⟨gb259, 3, none⟩ = some (u260003) ∧ w'.cell? ⟨gb258, 0, none⟩ = some (.int .i64 a0_0) ∧ w'.cell? ⟨gb258, 1, none⟩ = some (.int .i64 a0_1) ∧ w'.cell? ⟨gb258, 2, none⟩ = some (.int .i64 a0_2) ∧ w'.cell? ⟨gb258, 3, none⟩ = some (.int .i64 a0_3) ∧ w'.cell? ⟨gb258, 4, none⟩ = some (.int .i64 a0_4) ∧ w'.cell? ⟨gb258, 5, none⟩ = some (.int .i64 a0_5) ∧ w'.cell? ⟨gb258, 6, none⟩ = some (.bool a0_6) ∧ w'.cell? (ad290.add (x9_1).toNat) = some (.int .i64 (rd t262 x9_1))) (ds := [11]) #[false, false, false, false, false, false, false, false, false, false, false, false] (by kernel_rfl) rfl rfl ⟨(blk_cell BK259.out 0).trans rfl, (blk_cell BK259.out 1).trans rfl, (blk_cell BK259.out 2).trans rfl, (blk_cell BK259.out 3).trans rfl, (blk_cell BK258.out 0).trans rfl, (blk_cell BK258.out 1).trans rfl, (blk_cell BK258.out 2).trans rfl, (blk_cell BK258.out 3).trans rfl, (blk_cell BK258.out 4).trans rfl, (blk_cell BK258.out 5).trans rfl, (blk_cell BK258.out 6).trans rfl, hx290_0⟩ (fun hHeld => ?_); refine with_tabW swarfref44_one.tab8 swarfref44_one.bits8 (fun HT_ HW_ => ?_)
          generalize wr.drew = w54 at HO_7 HO_260003 BK258 BK259 BK260 BK261 HK HB hx290_0 hHeld ⊢
          refine pure_ (i := 1) (N := some 50) (v := ?_) (a' := ?_) #[false, true, false, false, false, false, false, false, false, false, false, false] rfl rfl (any_of HT_.out (by kernel_rfl)) (fun _ _ _ h => h) (Or.inl ⟨by rfl, ?_⟩) ?_ ?_
          rotate_left
          · intro w'
            go_simp
            with_reducible rfl
          rotate_left
          · simp only [Act.put, List.setIfInBounds_toArray, List.set_cons_zero, List.set_cons_succ, i64_w, i32_w]
            rfl
          refine pure_ (i := 3) (N := some 52) (v := ?_) (a' := ?_) #[false, true, false, true, false, false, false, false, false, false, false, false] rfl rfl (any_of HT_.out (by kernel_rfl)) (fun _ _ _ h => h) (Or.inl ⟨by rfl, ?_⟩) ?_ ?_
          rotate_left
          · intro w'
            go_simp
            with_reducible rfl
          rotate_left
          · simp only [Act.put, List.setIfInBounds_toArray, List.set_cons_zero, List.set_cons_succ, i64_w, i32_w]
            rfl
          refine pure_ (i := 4) (N := some 53) (v := ?_) (a' := ?_) #[false, true, false, true, true, false, false, false, false, false, false, false] rfl rfl (any_of HT_.out (by kernel_rfl)) (fun _ _ _ h => h) (Or.inl ⟨by rfl, ?_⟩) ?_ ?_
          rotate_left
          · intro w'
            go_simp
            with_reducible rfl
          rotate_left
          · simp only [Act.put, List.setIfInBounds_toArray, List.set_cons_zero, List.set_cons_succ, i64_w, i32_w]
            rfl
          refine pure_ (i := 5) (N := some 54) (v := ?_) (a' := ?_) #[false, true, false, true, true, true, false, false, false, false, false, false] rfl rfl (any_of HT_.out (by kernel_rfl)) (fun _ _ _ h => h) (Or.inl ⟨by rfl, ?_⟩) ?_ ?_
          rotate_left
          · intro w'
            go_simp
            with_reducible rfl
          rotate_left
          · simp only [Act.put, List.setIfInBounds_toArray, List.set_cons_zero, List.set_cons_succ, i64_w, i32_w]
            rfl
          refine pure_ (i := 8) (N := some 57) (v := ?_) (a' := ?_) #[false, true, false, true, true, true, false, false, true, false, false, false] rfl rfl (any_of HT_.out (by kernel_rfl)) (fun _ _ _ h => h) (Or.inl ⟨by rfl, ?_⟩) ?_ ?_
          rotate_left
          · intro w'
            go_simp
            with_reducible rfl
          rotate_left
          · simp only [Act.put, List.setIfInBounds_toArray, List.set_cons_zero, List.set_cons_succ, i64_w, i32_w]
            rfl
          refine take_ (i := 0) (N := some 49) (v := ?_) (a' := ?_) #[true, true, false, true, true, true, false, false, true, false, false, false] rfl rfl (take_ofW HT_.out HW_.out (by kernel_rfl)) (fun _ _ _ h => h) (Or.inl ⟨by rfl, ?_⟩) hHeld ?_ ?_
          rotate_left
          · rintro w' ⟨s0, s1, s2, s3, s4, s5, s6, s7, s8, s9, s10, s11⟩
            go_simp
            with_reducible rfl
          rotate_left
          · simp only [Act.put, List.setIfInBounds_toArray, List.set_cons_zero, List.set_cons_succ, i64_w, i32_w]
            rfl
          refine take_ (i := 2) (N := some 51) (v := ?_) (a' := ?_) #[true, true, true, true, true, true, false, false, true, false, false, false] rfl rfl (take_ofW HT_.out HW_.out (by kernel_rfl)) (fun _ _ _ h => h) (Or.inl ⟨by rfl, ?_⟩) hHeld ?_ ?_
          rotate_left
          · rintro w' ⟨s0, s1, s2, s3, s4, s5, s6, s7, s8, s9, s10, s11⟩
            go_simp
            with_reducible rfl
          rotate_left
          · simp only [Act.put, List.setIfInBounds_toArray, List.set_cons_zero, List.set_cons_succ, i64_w, i32_w]
            rfl
          refine take_ (i := 6) (N := some 55) (v := ?_) (a' := ?_) #[true, true, true, true, true, true, true, false, true, false, false, false] rfl rfl (take_ofW HT_.out HW_.out (by kernel_rfl)) (fun _ _ _ h => h) (Or.inl ⟨by rfl, ?_⟩) hHeld ?_ ?_
          rotate_left
          · rintro w' ⟨s0, s1, s2, s3, s4, s5, s6, s7, s8, s9, s10, s11⟩
            go_simp
            with_reducible rfl
          rotate_left
          · simp only [Act.put, List.setIfInBounds_toArray, List.set_cons_zero, List.set_cons_succ, i64_w, i32_w]
            rfl
          refine take_ (i := 9) (N := some 58) (v := ?_) (a' := ?_) #[true, true, true, true, true, true, true, false, true, true, false, false] rfl rfl (take_ofW HT_.out HW_.out (by kernel_rfl)) (fun _ _ _ h => h) (Or.inl ⟨by rfl, ?_⟩) hHeld ?_ ?_
          rotate_left
          · rintro w' ⟨s0, s1, s2, s3, s4, s5, s6, s7, s8, s9, s10, s11⟩
            go_simp
            with_reducible rfl
          rotate_left
          · simp only [Act.put, List.setIfInBounds_toArray, List.set_cons_zero, List.set_cons_succ, i64_w, i32_w]
            rfl
          refine one_ (i := 7) (N := some 56) #[true, true, true, true, true, true, true, true, true, true, false, false] rfl rfl (one_of HT_.out (by kernel_rfl)) (by decide) (fun K hK => ?_)
          refine goes_ Try.func37 (by kernel_rfl) rfl #[.agg #[.int .i64 x260000_1, .int .i64 x260001_1, .int .i64 x260002_1], .int .i64 (rd t262 x9_1)] (by rfl) rfl rfl (by (try simp only [List.map_toArray, List.map_cons, List.map_nil]); first | done | rfl | (simp only [List.length_drop, List.length_take]; rfl)) ?_
          with_reducible refine (swarfref44_up.calls x260000_1 x260001_1 x260002_1 (rd t262 x9_1) t291 t292 t293 _ A49.out).mono ?_
          rintro e w55 ⟨rfl, hb⟩
          have HS11_ := (hb.cell (World.block_lt_of_cell? _ _ (hHeld.2.2.2.2.2.2.2.2.2.2.2))).trans (hHeld.2.2.2.2.2.2.2.2.2.2.2)
          refine ⟨_, rfl, ?_⟩
          have n0_ := Aside0.mk (Kd.R_below (by (with_reducible repeat (first | apply Kd.R_alloc | apply Kd.R_drewN | apply Kd.R_drew)); exact HO_7.out) hb)
          have n1_ := Aside0.mk (Kd.R_below (by (with_reducible repeat (first | apply Kd.R_alloc | apply Kd.R_drewN | apply Kd.R_drew)); exact HO_260003.out) hb)
          have n2_ := Aside0.mk (blk_below (g := gb258) (o := .cells #[.int .i64 a0_0, .int .i64 a0_1, .int .i64 a0_2, .int .i64 a0_3, .int .i64 a0_4, .int .i64 a0_5, .bool a0_6] 23 (0, 0)) (by (with_reducible repeat (first | refine blk_drewN ?_ _ | refine blk_drew ?_ | refine blk_alloc ?_ _)); exact BK258.out) hb)
          have n3_ := Aside0.mk (blk_below (g := gb259) (o := .cells #[.int .i64 x260000_1, .int .i64 x260001_1, .int .i64 x260002_1, u260003] 73 (0, 0)) (by (with_reducible repeat (first | refine blk_drewN ?_ _ | refine blk_drew ?_ | refine blk_alloc ?_ _)); exact BK259.out) hb)
          have n4_ := Aside0.mk (blk_below (g := gb260) (o := .cells #[.int .i64 a2_0, .int .i64 a2_1] 43 (0, 0)) (by (with_reducible repeat (first | refine blk_drewN ?_ _ | refine blk_drew ?_ | refine blk_alloc ?_ _)); exact BK260.out) hb)
          have n5_ := Aside0.mk (blk_below (g := gb261) (o := .cells #[.int .i64 0, .int .i64 0, .int .i64 0, .slice none 0 0] 73 (0, 0)) (by (with_reducible repeat (first | refine blk_drewN ?_ _ | refine blk_drew ?_ | refine blk_alloc ?_ _)); exact BK261.out) hb)
          have n6_ := Aside0.mk (Kept.below (S := (fun k_ => P1_3_ k_)) (by repeat (first | (with_reducible first | exact HK.out | apply Kept.alloc | apply Kept.drewN | apply Kept.drew | refine Kept.setCell ?_ (.inr GW258.out) _ | refine Kept.setCell ?_ (.inr GW259.out) _ | refine Kept.setCell ?_ (.inr GW260.out) _ | refine Kept.setCell ?_ (.inr GW261.out) _) | exact HK.out)) hb)
          have n7_ := Aside0.mk (below_step (by repeat (first | (with_reducible first | exact HB.out | apply below_alloc | apply pw_below_drewN | apply below_drew1 | refine below_set ?_ GE258.out | refine below_set ?_ GE259.out | refine below_set ?_ GE260.out | refine below_set ?_ GE261.out) | exact HB.out)) hb)
          clear HO_7
          clear HO_260003
          clear BK258
          clear BK259
          clear BK260
          clear BK261
          clear HK
          clear HB
          have HO_7 := n0_
          have HO_260003 := n1_
          have BK258 := n2_
          have BK259 := n3_
          have BK260 := n4_
          have BK261 := n5_
          have HK := n6_
          have HB := n7_
          clear n0_ n1_ n2_ n3_ n4_ n5_ n6_ n7_
          (try clear hb)
          (try clear hb2)
          (try clear hk)
          (try clear hi)
          obtain ⟨Ao56, co56, eo56⟩ := Kd.R_slice HO_260003.out
          (first | subst eo56 | (injection eo56 with f1_ f2_ f3_; have f4_ := f1_.symm; have f5_ := f3_.symm; clear f1_ f2_ f3_; subst f4_; subst f5_))
          refine hK.out _ _ ⟨(blk_cell BK259.out 0).trans rfl, (blk_cell BK259.out 1).trans rfl, (blk_cell BK259.out 2).trans rfl, (blk_cell BK259.out 3).trans rfl, (blk_cell BK258.out 0).trans rfl, (blk_cell BK258.out 1).trans rfl, (blk_cell BK258.out 2).trans rfl, (blk_cell BK258.out 3).trans rfl, (blk_cell BK258.out 4).trans rfl, (blk_cell BK258.out 5).trans rfl, (blk_cell BK258.out 6).trans rfl, HS11_⟩ (fun hHeld => ?_)
          clear hK K
          refine norm_ (a' := ?_) ?_ ?_
          rotate_left
          · show Act.put _ (some 56) _ = _
            simp only [Act.put, List.setIfInBounds_toArray, List.set_cons_zero, List.set_cons_succ, i64_w, i32_w]
            rfl
          refine one_ (i := 10) (N := some 59) #[true, true, true, true, true, true, true, true, true, true, true, false] rfl rfl (one_of HT_.out (by kernel_rfl)) (by decide) (fun K hK => ?_)
          refine goes_ Try.func36 (by kernel_rfl) rfl #[.agg #[.int .i64 x260000_1, .int .i64 x260001_1, .int .i64 x260002_1, .slice Ao56 x260003_1.length co56], .agg #[.int .i64 t291, .int .i64 t292, .int .i64 t293], .int .i64 a0_4] (by rfl) rfl rfl (by (try simp only [List.map_toArray, List.map_cons, List.map_nil]); first | done | rfl | (simp only [List.length_drop, List.length_take]; rfl)) ?_
          with_reducible refine (swarfref44_to.calls x260000_1 x260001_1 x260002_1 (fun k_ => some k_ = (.slice Ao56 x260003_1.length co56 : Value).ownBlock) (.slice Ao56 x260003_1.length co56) x260003_1 t291 t292 t293 a0_4 t294 t295 t296 t297 w0 _ ?side1 ?side2 A50.out).mono ?_
          (case side1 => repeat (first | (with_reducible first | exact HB.out | apply below_alloc | apply pw_below_drewN | apply below_drew1 | refine below_set ?_ GE258.out | refine below_set ?_ GE259.out | refine below_set ?_ GE260.out | refine below_set ?_ GE261.out) | exact HB.out))
          (case side2 => exact Kd.R_tight rfl HO_260003.out)
          rintro e w57 ⟨v298, rfl, ho0, hb, hkp⟩
          have HS11_ := cell_kept (hHeld.2.2.2.2.2.2.2.2.2.2.2) hkp (by first | (rw [add_block]; exact (fun hs_ => ((((Kd.R_apart' HO_7.out (Kd.R_typed HO_260003.out) (by decide))).1 _ rfl).2) hs_)) | (show ¬ _; simp only [add_block]; exact (fun hs_ => ((((Kd.R_apart' HO_7.out (Kd.R_typed HO_260003.out) (by decide))).1 _ rfl).2) hs_)) | exact (fun hs_ => ((((Kd.R_apart' HO_7.out (Kd.R_typed HO_260003.out) (by decide))).1 _ rfl).2) hs_))
          refine ⟨_, rfl, ?_⟩
          have n0_ := Aside0.mk (Kd.R_mono (ok' := fun k_ => (P1_3_ k_ ∨ w.heap.size ≤ k_)) (Kd.R_keptB ((Kd.R_apart' HO_7.out (Kd.R_typed HO_260003.out) (by decide))) hkp (fun k_ hk_ hs_ => (hk_.2) hs_)) (fun k_ hk_ => hk_.1.1))
          have n1_ := Aside0.mk (blk_kept (by (with_reducible repeat (first | refine blk_drewN ?_ _ | refine blk_drew ?_ | refine blk_alloc ?_ _)); exact BK258.out) hkp (fun hs_ => (fun e_ => (Kd.R_ne HO_260003.out BK258.out (by decide)) e_) hs_))
          have n2_ := Aside0.mk (blk_kept (by (with_reducible repeat (first | refine blk_drewN ?_ _ | refine blk_drew ?_ | refine blk_alloc ?_ _)); exact BK259.out) hkp (fun hs_ => (fun e_ => (Kd.R_ne HO_260003.out BK259.out (by decide)) e_) hs_))
          have n3_ := Aside0.mk (blk_kept (by (with_reducible repeat (first | refine blk_drewN ?_ _ | refine blk_drew ?_ | refine blk_alloc ?_ _)); exact BK260.out) hkp (fun hs_ => (fun e_ => (Kd.R_ne HO_260003.out BK260.out (by decide)) e_) hs_))
          have n4_ := Aside0.mk (blk_kept (by (with_reducible repeat (first | refine blk_drewN ?_ _ | refine blk_drew ?_ | refine blk_alloc ?_ _)); exact BK261.out) hkp (fun hs_ => (fun e_ => (Kd.R_ne HO_260003.out BK261.out (by decide)) e_) hs_))
          have n5_ := Aside0.mk (Kd.R_mono (ok' := fun k_ => (P1_3_ k_ ∨ w.heap.size ≤ k_)) ho0 (fun k_ hk_ => Or.elim hk_ (fun hs_ => (HO_260003.out.1 k_ (hs_).symm)) (fun hn_ => (.inr (Nat.le_trans (by first | exact HK.out.1 | exact (show Kept w _ (fun k_ => P1_3_ k_) from by repeat (first | (with_reducible first | exact HK.out | apply Kept.alloc | apply Kept.drewN | apply Kept.drew | refine Kept.setCell ?_ (.inr GW258.out) _ | refine Kept.setCell ?_ (.inr GW259.out) _ | refine Kept.setCell ?_ (.inr GW260.out) _ | refine Kept.setCell ?_ (.inr GW261.out) _) | exact HK.out)).1) hn_)))))
          have n6_ := Aside0.mk (Kept.then_ (S := (fun k_ => P1_3_ k_)) (by repeat (first | (with_reducible first | exact HK.out | apply Kept.alloc | apply Kept.drewN | apply Kept.drew | refine Kept.setCell ?_ (.inr GW258.out) _ | refine Kept.setCell ?_ (.inr GW259.out) _ | refine Kept.setCell ?_ (.inr GW260.out) _ | refine Kept.setCell ?_ (.inr GW261.out) _) | exact HK.out)) hkp (fun k_ hs_ => (fun e_ => (HO_260003.out.1 k_ e_.symm)) hs_))
          have n7_ := Aside0.mk (hb)
          clear HO_7
          clear BK258
          clear BK259
          clear BK260
          clear BK261
          clear HK
          clear HB
          clear HO_260003
          have HO_7 := n0_
          have BK258 := n1_
          have BK259 := n2_
          have BK260 := n3_
          have BK261 := n4_
          have HO299 := n5_
          have HK := n6_
          have HB := n7_
          clear n0_ n1_ n2_ n3_ n4_ n5_ n6_ n7_
          (try clear hb)
          (try clear hkp)
          (try clear ho0)
          obtain ⟨Ao61, co61, eo61⟩ := Kd.R_slice HO299.out
          (first | subst eo61 | (injection eo61 with f1_ f2_ f3_; have f4_ := f1_.symm; have f5_ := f3_.symm; clear f1_ f2_ f3_; subst f4_; subst f5_))
          refine hK.out _ _ ⟨(blk_cell BK259.out 0).trans rfl, (blk_cell BK259.out 1).trans rfl, (blk_cell BK259.out 2).trans rfl, (blk_cell BK259.out 3).trans rfl, (blk_cell BK258.out 0).trans rfl, (blk_cell BK258.out 1).trans rfl, (blk_cell BK258.out 2).trans rfl, (blk_cell BK258.out 3).trans rfl, (blk_cell BK258.out 4).trans rfl, (blk_cell BK258.out 5).trans rfl, (blk_cell BK258.out 6).trans rfl, HS11_⟩ (fun hHeld => ?_)
          clear hK K
          refine norm_ (a' := ?_) ?_ ?_
          rotate_left
          · show Act.put _ (some 59) _ = _
            simp only [Act.put, List.setIfInBounds_toArray, List.set_cons_zero, List.set_cons_succ, i64_w, i32_w]
            rfl
          refine last_ (i := 11) (N := none) #[true, true, true, true, true, true, true, true, true, true, true, true] rfl rfl (one_of HT_.out (by kernel_rfl)) (by decide) (fun K hK => ?_)
          have hs58 : w57.cell? ⟨gb259, 0, none⟩ = some (.int .i64 x260000_1) := (blk_cell BK259.out 0).trans rfl
          have hfs58 := blk_frozen BK259.out 0
          have hns58_0 := NB258_259.out
          have hns58_2 := NB260_259.out
          have hns58_3 := NB261_259.out
          have hms58_0 := NB259_258.out
          have hms58_2 := NB259_260.out
          have hms58_3 := NB259_261.out
          have hs59 : w57.cell? ⟨gb259, 1, none⟩ = some (.int .i64 x260001_1) := (blk_cell BK259.out 1).trans rfl
          have hfs59 := blk_frozen BK259.out 1
          have hns59_0 := NB258_259.out
          have hns59_2 := NB260_259.out
          have hns59_3 := NB261_259.out
          have hms59_0 := NB259_258.out
          have hms59_2 := NB259_260.out
          have hms59_3 := NB259_261.out
          have hs60 : w57.cell? ⟨gb259, 2, none⟩ = some (.int .i64 x260002_1) := (blk_cell BK259.out 2).trans rfl
          have hfs60 := blk_frozen BK259.out 2
          have hns60_0 := NB258_259.out
          have hns60_2 := NB260_259.out
          have hns60_3 := NB261_259.out
          have hms60_0 := NB259_258.out
          have hms60_2 := NB259_260.out
          have hms60_3 := NB259_261.out
          have hs62 : w57.cell? ⟨gb259, 3, none⟩ = some (.slice Ao56 x260003_1.length co56) := (blk_cell BK259.out 3).trans rfl
          have hfs62 := blk_frozen BK259.out 3
          have hns62_0 := NB258_259.out
          have hns62_2 := NB260_259.out
          have hns62_3 := NB261_259.out
          have hms62_0 := NB259_258.out
          have hms62_2 := NB259_260.out
          have hms62_3 := NB259_261.out
          refine skip_ (w1 := ?_) (by rfl) rfl ?_ ?_
          rotate_left
          · go_simp
            rfl
          refine hK.out _ _ ?_
          clear hK K
          refine done_ (done_of HT_.out (by kernel_rfl)) ?_
          try go_wp2
          have n0_ : Aside0 (Kd.R (Kd.int .i64) 2 ((((w57.setCell ⟨gb259, 0, none⟩ (.int .i64 t294)).setCell ⟨gb259, 1, none⟩ (.int .i64 t295)).setCell ⟨gb259, 2, none⟩ (.int .i64 t296)).setCell ⟨gb259, 3, none⟩ (.slice Ao61 t297.length co61)) w0.heap.size (fun k_ => (P1_3_ k_ ∨ w.heap.size ≤ k_)) (.slice (some ad290) t262.length co53) t262) := ⟨by (with_reducible repeat (first | apply Kd.R_alloc | apply Kd.R_drewN | apply Kd.R_drew)); exact Kd.R_mono (Kd.R_far (p := ⟨gb259, 3, none⟩) (Kd.R_far (p := ⟨gb259, 2, none⟩) (Kd.R_far (p := ⟨gb259, 1, none⟩) (Kd.R_far (p := ⟨gb259, 0, none⟩) (Kd.R_types HO_7.out BK259.out (by decide)) (fun _ hk => hk.2) (.int .i64 t294)) (fun _ hk => hk.2) (.int .i64 t295)) (fun _ hk => hk.2) (.int .i64 t296)) (fun _ hk => hk.2) (.slice Ao61 t297.length co61)) (fun _ hk => hk.1)⟩
          have n1_ : Aside0 (Kd.R k45 45 ((((w57.setCell ⟨gb259, 0, none⟩ (.int .i64 t294)).setCell ⟨gb259, 1, none⟩ (.int .i64 t295)).setCell ⟨gb259, 2, none⟩ (.int .i64 t296)).setCell ⟨gb259, 3, none⟩ (.slice Ao61 t297.length co61)) w0.heap.size (fun k_ => (P1_3_ k_ ∨ w.heap.size ≤ k_)) (.slice Ao61 t297.length co61) t297) := ⟨by (with_reducible repeat (first | apply Kd.R_alloc | apply Kd.R_drewN | apply Kd.R_drew)); exact Kd.R_mono (Kd.R_far (p := ⟨gb259, 3, none⟩) (Kd.R_far (p := ⟨gb259, 2, none⟩) (Kd.R_far (p := ⟨gb259, 1, none⟩) (Kd.R_far (p := ⟨gb259, 0, none⟩) (Kd.R_types HO299.out BK259.out (by decide)) (fun _ hk => hk.2) (.int .i64 t294)) (fun _ hk => hk.2) (.int .i64 t295)) (fun _ hk => hk.2) (.int .i64 t296)) (fun _ hk => hk.2) (.slice Ao61 t297.length co61)) (fun _ hk => hk.1)⟩
          have n2_ : Aside0 (((((w57.setCell ⟨gb259, 0, none⟩ (.int .i64 t294)).setCell ⟨gb259, 1, none⟩ (.int .i64 t295)).setCell ⟨gb259, 2, none⟩ (.int .i64 t296)).setCell ⟨gb259, 3, none⟩ (.slice Ao61 t297.length co61)).heap[gb258]? = some (.cells #[.int .i64 a0_0, .int .i64 a0_1, .int .i64 a0_2, .int .i64 a0_3, .int .i64 a0_4, .int .i64 a0_5, .bool a0_6] 23 (0, 0))) := ⟨by (with_reducible repeat (first | refine blk_drewN ?_ _ | refine blk_drew ?_ | refine blk_alloc ?_ _)); refine blk_far ?_ NB258_259.out _; (with_reducible repeat (first | refine blk_drewN ?_ _ | refine blk_drew ?_ | refine blk_alloc ?_ _)); refine blk_far ?_ NB258_259.out _; (with_reducible repeat (first | refine blk_drewN ?_ _ | refine blk_drew ?_ | refine blk_alloc ?_ _)); refine blk_far ?_ NB258_259.out _; (with_reducible repeat (first | refine blk_drewN ?_ _ | refine blk_drew ?_ | refine blk_alloc ?_ _)); refine blk_far ?_ NB258_259.out _; (with_reducible repeat (first | refine blk_drewN ?_ _ | refine blk_drew ?_ | refine blk_alloc ?_ _)); exact BK258.out⟩
          have n3_ : Aside0 (((((w57.setCell ⟨gb259, 0, none⟩ (.int .i64 t294)).setCell ⟨gb259, 1, none⟩ (.int .i64 t295)).setCell ⟨gb259, 2, none⟩ (.int .i64 t296)).setCell ⟨gb259, 3, none⟩ (.slice Ao61 t297.length co61)).heap[gb259]? = some (.cells #[.int .i64 t294, .int .i64 t295, .int .i64 t296, .slice Ao61 t297.length co61] 73 (0, 0))) := ⟨by (with_reducible repeat (first | refine blk_drewN ?_ _ | refine blk_drew ?_ | refine blk_alloc ?_ _)); refine blk_put (cs := #[.int .i64 t294, .int .i64 t295, .int .i64 t296, .slice Ao56 x260003_1.length co56]) ?_ 3 _ rfl; (with_reducible repeat (first | refine blk_drewN ?_ _ | refine blk_drew ?_ | refine blk_alloc ?_ _)); refine blk_put (cs := #[.int .i64 t294, .int .i64 t295, .int .i64 x260002_1, .slice Ao56 x260003_1.length co56]) ?_ 2 _ rfl; (with_reducible repeat (first | refine blk_drewN ?_ _ | refine blk_drew ?_ | refine blk_alloc ?_ _)); refine blk_put (cs := #[.int .i64 t294, .int .i64 x260001_1, .int .i64 x260002_1, .slice Ao56 x260003_1.length co56]) ?_ 1 _ rfl; (with_reducible repeat (first | refine blk_drewN ?_ _ | refine blk_drew ?_ | refine blk_alloc ?_ _)); refine blk_put (cs := #[.int .i64 x260000_1, .int .i64 x260001_1, .int .i64 x260002_1, .slice Ao56 x260003_1.length co56]) ?_ 0 _ rfl; (with_reducible repeat (first | refine blk_drewN ?_ _ | refine blk_drew ?_ | refine blk_alloc ?_ _)); exact BK259.out⟩
          have n4_ : Aside0 (((((w57.setCell ⟨gb259, 0, none⟩ (.int .i64 t294)).setCell ⟨gb259, 1, none⟩ (.int .i64 t295)).setCell ⟨gb259, 2, none⟩ (.int .i64 t296)).setCell ⟨gb259, 3, none⟩ (.slice Ao61 t297.length co61)).heap[gb260]? = some (.cells #[.int .i64 a2_0, .int .i64 a2_1] 43 (0, 0))) := ⟨by (with_reducible repeat (first | refine blk_drewN ?_ _ | refine blk_drew ?_ | refine blk_alloc ?_ _)); refine blk_far ?_ NB260_259.out _; (with_reducible repeat (first | refine blk_drewN ?_ _ | refine blk_drew ?_ | refine blk_alloc ?_ _)); refine blk_far ?_ NB260_259.out _; (with_reducible repeat (first | refine blk_drewN ?_ _ | refine blk_drew ?_ | refine blk_alloc ?_ _)); refine blk_far ?_ NB260_259.out _; (with_reducible repeat (first | refine blk_drewN ?_ _ | refine blk_drew ?_ | refine blk_alloc ?_ _)); refine blk_far ?_ NB260_259.out _; (with_reducible repeat (first | refine blk_drewN ?_ _ | refine blk_drew ?_ | refine blk_alloc ?_ _)); exact BK260.out⟩
          have n5_ : Aside0 (((((w57.setCell ⟨gb259, 0, none⟩ (.int .i64 t294)).setCell ⟨gb259, 1, none⟩ (.int .i64 t295)).setCell ⟨gb259, 2, none⟩ (.int .i64 t296)).setCell ⟨gb259, 3, none⟩ (.slice Ao61 t297.length co61)).heap[gb261]? = some (.cells #[.int .i64 0, .int .i64 0, .int .i64 0, .slice none 0 0] 73 (0, 0))) := ⟨by (with_reducible repeat (first | refine blk_drewN ?_ _ | refine blk_drew ?_ | refine blk_alloc ?_ _)); refine blk_far ?_ NB261_259.out _; (with_reducible repeat (first | refine blk_drewN ?_ _ | refine blk_drew ?_ | refine blk_alloc ?_ _)); refine blk_far ?_ NB261_259.out _; (with_reducible repeat (first | refine blk_drewN ?_ _ | refine blk_drew ?_ | refine blk_alloc ?_ _)); refine blk_far ?_ NB261_259.out _; (with_reducible repeat (first | refine blk_drewN ?_ _ | refine blk_drew ?_ | refine blk_alloc ?_ _)); refine blk_far ?_ NB261_259.out _; (with_reducible repeat (first | refine blk_drewN ?_ _ | refine blk_drew ?_ | refine blk_alloc ?_ _)); exact BK261.out⟩
          have n6_ : Aside0 (Kept w ((((w57.setCell ⟨gb259, 0, none⟩ (.int .i64 t294)).setCell ⟨gb259, 1, none⟩ (.int .i64 t295)).setCell ⟨gb259, 2, none⟩ (.int .i64 t296)).setCell ⟨gb259, 3, none⟩ (.slice Ao61 t297.length co61)) (fun k_ => P1_3_ k_)) := ⟨by repeat (first | (with_reducible first | exact HK.out | apply Kept.alloc | apply Kept.drewN | apply Kept.drew | refine Kept.setCell ?_ (.inr GW258.out) _ | refine Kept.setCell ?_ (.inr GW259.out) _ | refine Kept.setCell ?_ (.inr GW260.out) _ | refine Kept.setCell ?_ (.inr GW261.out) _) | exact HK.out)⟩
          have n7_ : Aside0 (Below w0.heap.size w0 ((((w57.setCell ⟨gb259, 0, none⟩ (.int .i64 t294)).setCell ⟨gb259, 1, none⟩ (.int .i64 t295)).setCell ⟨gb259, 2, none⟩ (.int .i64 t296)).setCell ⟨gb259, 3, none⟩ (.slice Ao61 t297.length co61))) := ⟨by repeat (first | (with_reducible first | exact HB.out | apply below_alloc | apply pw_below_drewN | apply below_drew1 | refine below_set ?_ GE258.out | refine below_set ?_ GE259.out | refine below_set ?_ GE260.out | refine below_set ?_ GE261.out) | exact HB.out)⟩
          (try clear HO_7)
          (try clear HO299)
          (try clear BK258)
          (try clear BK259)
          (try clear BK260)
          (try clear BK261)
          (try clear HK)
          (try clear HB)
          generalize ((((w57.setCell ⟨gb259, 0, none⟩ (.int .i64 t294)).setCell ⟨gb259, 1, none⟩ (.int .i64 t295)).setCell ⟨gb259, 2, none⟩ (.int .i64 t296)).setCell ⟨gb259, 3, none⟩ (.slice Ao61 t297.length co61)) = w63 at n0_ n1_ n2_ n3_ n4_ n5_ n6_ n7_ ⊢
          have HO_7 := n0_
          have HO299 := n1_
          have BK258 := n2_
          have BK259 := n3_
          have BK260 := n4_
          have BK261 := n5_
          have HK := n6_
          have HB := n7_
          clear n0_ n1_ n2_ n3_ n4_ n5_ n6_ n7_
          have n0_ := Aside0.mk (Kd.R_drew HO_7.out)
          have n1_ := Aside0.mk (Kd.R_drew HO299.out)
          have n2_ := Aside0.mk (blk_drew BK258.out)
          have n3_ := Aside0.mk (blk_drew BK259.out)
          have n4_ := Aside0.mk (blk_drew BK260.out)
          have n5_ := Aside0.mk (blk_drew BK261.out)
          have n6_ := Aside0.mk (Kept.drew HK.out)
          have n7_ := Aside0.mk (below_drew1 HB.out)
          clear HO_7
          clear HO299
          clear BK258
          clear BK259
          clear BK260
          clear BK261
          clear HK
          clear HB
          have HO_7 := n0_
          have HO299 := n1_
          have BK258 := n2_
          have BK259 := n3_
          have BK260 := n4_
          have BK261 := n5_
          have HK := n6_
          have HB := n7_
          clear n0_ n1_ n2_ n3_ n4_ n5_ n6_ n7_
          refine start_ (n := 8) (S := fun w' => w'.cell? ⟨gb259, 0, none⟩ = some (.int .i64 t294) ∧ w'.cell? ⟨gb259, 1, none⟩ = some (.int .i64 t295) ∧ w'.cell? ⟨gb259, 2, none⟩ = some (.int .i64 t296) ∧ w'.cell? ⟨gb259, 3, none⟩ = some (.slice Ao61 t297.length co61) ∧ w'.cell? ⟨gb258, 0, none⟩ = some (.int .i64 a0_0) ∧ w'.cell? ⟨gb258, 1, none⟩ = some (.int .i64 a0_1) ∧ w'.cell? ⟨gb258, 2, none⟩ = some (.int .i64 a0_2) ∧ w'.cell? ⟨gb258, 3, none⟩ = some (.int .i64 a0_3) ∧ w'.cell? ⟨gb258, 4, none⟩ = some (.int .i64 a0_4) ∧ w'.cell? ⟨gb258, 5, none⟩ = some (.int .i64 a0_5) ∧ w'.cell? ⟨gb258, 6, none⟩ = some (.bool a0_6)) (ds := [7]) #[false, false, false, false, false, false, false, false] (by kernel_rfl) rfl rfl ⟨(blk_cell BK259.out 0).trans rfl, (blk_cell BK259.out 1).trans rfl, (blk_cell BK259.out 2).trans rfl, (blk_cell BK259.out 3).trans rfl, (blk_cell BK258.out 0).trans rfl, (blk_cell BK258.out 1).trans rfl, (blk_cell BK258.out 2).trans rfl, (blk_cell BK258.out 3).trans rfl, (blk_cell BK258.out 4).trans rfl, (blk_cell BK258.out 5).trans rfl, (blk_cell BK258.out 6).trans rfl⟩ (fun hHeld => ?_); refine with_tabW swarfref44_one.tab9 swarfref44_one.bits9 (fun HT_ HW_ => ?_)
          generalize w63.drew = w64 at HO_7 HO299 BK258 BK259 BK260 BK261 HK HB hHeld ⊢
          refine pure_ (i := 1) (N := some 61) (v := ?_) (a' := ?_) #[false, true, false, false, false, false, false, false] rfl rfl (any_of HT_.out (by kernel_rfl)) (fun _ _ _ h => h) (Or.inl ⟨by rfl, ?_⟩) ?_ ?_
          rotate_left
          · intro w'
            go_simp
            with_reducible rfl
          rotate_left
          · simp only [Act.put, List.setIfInBounds_toArray, List.set_cons_zero, List.set_cons_succ, i64_w, i32_w]
            rfl
          refine pure_ (i := 3) (N := some 63) (v := ?_) (a' := ?_) #[false, true, false, true, false, false, false, false] rfl rfl (any_of HT_.out (by kernel_rfl)) (fun _ _ _ h => h) (Or.inl ⟨by rfl, ?_⟩) ?_ ?_
          rotate_left
          · intro w'
            go_simp
            with_reducible rfl
          rotate_left
          · simp only [Act.put, List.setIfInBounds_toArray, List.set_cons_zero, List.set_cons_succ, i64_w, i32_w]
            rfl
          refine take_ (i := 0) (N := some 60) (v := ?_) (a' := ?_) #[true, true, false, true, false, false, false, false] rfl rfl (take_ofW HT_.out HW_.out (by kernel_rfl)) (fun _ _ _ h => h) (Or.inl ⟨by rfl, ?_⟩) hHeld ?_ ?_
          rotate_left
          · rintro w' ⟨s0, s1, s2, s3, s4, s5, s6, s7, s8, s9, s10⟩
            go_simp
            with_reducible rfl
          rotate_left
          · simp only [Act.put, List.setIfInBounds_toArray, List.set_cons_zero, List.set_cons_succ, i64_w, i32_w]
            rfl
          refine take_ (i := 2) (N := some 62) (v := ?_) (a' := ?_) #[true, true, true, true, false, false, false, false] rfl rfl (take_ofW HT_.out HW_.out (by kernel_rfl)) (fun _ _ _ h => h) (Or.inl ⟨by rfl, ?_⟩) hHeld ?_ ?_
          rotate_left
          · rintro w' ⟨s0, s1, s2, s3, s4, s5, s6, s7, s8, s9, s10⟩
            go_simp
            with_reducible rfl
          rotate_left
          · simp only [Act.put, List.setIfInBounds_toArray, List.set_cons_zero, List.set_cons_succ, i64_w, i32_w]
            rfl
          refine take_ (i := 4) (N := some 64) (v := ?_) (a' := ?_) #[true, true, true, true, true, false, false, false] rfl rfl (take_ofW HT_.out HW_.out (by kernel_rfl)) (fun _ _ _ h => h) (Or.inl ⟨by rfl, ?_⟩) hHeld ?_ ?_
          rotate_left
          · rintro w' ⟨s0, s1, s2, s3, s4, s5, s6, s7, s8, s9, s10⟩
            go_simp
            with_reducible rfl
          rotate_left
          · simp only [Act.put, List.setIfInBounds_toArray, List.set_cons_zero, List.set_cons_succ, i64_w, i32_w]
            rfl
          refine one_ (i := 5) (N := some 65) #[true, true, true, true, true, true, false, false] rfl rfl (one_of HT_.out (by kernel_rfl)) (by decide) (fun K hK => ?_)
          refine goes_ Try.func37 (by kernel_rfl) rfl #[.agg #[.int .i64 t294, .int .i64 t295, .int .i64 t296], .int .i64 a0_1] (by rfl) rfl rfl (by (try simp only [List.map_toArray, List.map_cons, List.map_nil]); first | done | rfl | (simp only [List.length_drop, List.length_take]; rfl)) ?_
          with_reducible refine (swarfref44_up.calls t294 t295 t296 a0_1 t300 t301 t302 _ A51.out).mono ?_
          rintro e w65 ⟨rfl, hb⟩
          refine ⟨_, rfl, ?_⟩
          have n0_ := Aside0.mk (Kd.R_below (by (with_reducible repeat (first | apply Kd.R_alloc | apply Kd.R_drewN | apply Kd.R_drew)); exact HO_7.out) hb)
          have n1_ := Aside0.mk (Kd.R_below (by (with_reducible repeat (first | apply Kd.R_alloc | apply Kd.R_drewN | apply Kd.R_drew)); exact HO299.out) hb)
          have n2_ := Aside0.mk (blk_below (g := gb258) (o := .cells #[.int .i64 a0_0, .int .i64 a0_1, .int .i64 a0_2, .int .i64 a0_3, .int .i64 a0_4, .int .i64 a0_5, .bool a0_6] 23 (0, 0)) (by (with_reducible repeat (first | refine blk_drewN ?_ _ | refine blk_drew ?_ | refine blk_alloc ?_ _)); exact BK258.out) hb)
          have n3_ := Aside0.mk (blk_below (g := gb259) (o := .cells #[.int .i64 t294, .int .i64 t295, .int .i64 t296, .slice Ao61 t297.length co61] 73 (0, 0)) (by (with_reducible repeat (first | refine blk_drewN ?_ _ | refine blk_drew ?_ | refine blk_alloc ?_ _)); exact BK259.out) hb)
          have n4_ := Aside0.mk (blk_below (g := gb260) (o := .cells #[.int .i64 a2_0, .int .i64 a2_1] 43 (0, 0)) (by (with_reducible repeat (first | refine blk_drewN ?_ _ | refine blk_drew ?_ | refine blk_alloc ?_ _)); exact BK260.out) hb)
          have n5_ := Aside0.mk (blk_below (g := gb261) (o := .cells #[.int .i64 0, .int .i64 0, .int .i64 0, .slice none 0 0] 73 (0, 0)) (by (with_reducible repeat (first | refine blk_drewN ?_ _ | refine blk_drew ?_ | refine blk_alloc ?_ _)); exact BK261.out) hb)
          have n6_ := Aside0.mk (Kept.below (S := (fun k_ => P1_3_ k_)) (by repeat (first | (with_reducible first | exact HK.out | apply Kept.alloc | apply Kept.drewN | apply Kept.drew | refine Kept.setCell ?_ (.inr GW258.out) _ | refine Kept.setCell ?_ (.inr GW259.out) _ | refine Kept.setCell ?_ (.inr GW260.out) _ | refine Kept.setCell ?_ (.inr GW261.out) _) | exact HK.out)) hb)
          have n7_ := Aside0.mk (below_step (by repeat (first | (with_reducible first | exact HB.out | apply below_alloc | apply pw_below_drewN | apply below_drew1 | refine below_set ?_ GE258.out | refine below_set ?_ GE259.out | refine below_set ?_ GE260.out | refine below_set ?_ GE261.out) | exact HB.out)) hb)
          clear HO_7
          clear HO299
          clear BK258
          clear BK259
          clear BK260
          clear BK261
          clear HK
          clear HB
          have HO_7 := n0_
          have HO299 := n1_
          have BK258 := n2_
          have BK259 := n3_
          have BK260 := n4_
          have BK261 := n5_
          have HK := n6_
          have HB := n7_
          clear n0_ n1_ n2_ n3_ n4_ n5_ n6_ n7_
          (try clear hb)
          (try clear hb2)
          (try clear hk)
          (try clear hi)
          refine hK.out _ _ ⟨(blk_cell BK259.out 0).trans rfl, (blk_cell BK259.out 1).trans rfl, (blk_cell BK259.out 2).trans rfl, (blk_cell BK259.out 3).trans rfl, (blk_cell BK258.out 0).trans rfl, (blk_cell BK258.out 1).trans rfl, (blk_cell BK258.out 2).trans rfl, (blk_cell BK258.out 3).trans rfl, (blk_cell BK258.out 4).trans rfl, (blk_cell BK258.out 5).trans rfl, (blk_cell BK258.out 6).trans rfl⟩ (fun hHeld => ?_)
          clear hK K
          refine norm_ (a' := ?_) ?_ ?_
          rotate_left
          · show Act.put _ (some 65) _ = _
            simp only [Act.put, List.setIfInBounds_toArray, List.set_cons_zero, List.set_cons_succ, i64_w, i32_w]
            rfl
          refine one_ (i := 6) (N := some 66) #[true, true, true, true, true, true, true, false] rfl rfl (one_of HT_.out (by kernel_rfl)) (by decide) (fun K hK => ?_)
          refine goes_ Try.func36 (by kernel_rfl) rfl #[.agg #[.int .i64 t294, .int .i64 t295, .int .i64 t296, .slice Ao61 t297.length co61], .agg #[.int .i64 t300, .int .i64 t301, .int .i64 t302], .int .i64 0] (by rfl) rfl rfl (by (try simp only [List.map_toArray, List.map_cons, List.map_nil]); first | done | rfl | (simp only [List.length_drop, List.length_take]; rfl)) ?_
          with_reducible refine (swarfref44_to.calls t294 t295 t296 (fun k_ => some k_ = (.slice Ao61 t297.length co61 : Value).ownBlock) (.slice Ao61 t297.length co61) t297 t300 t301 t302 0 t303 t304 t305 t306 w0 _ ?side1 ?side2 A52.out).mono ?_
          (case side1 => repeat (first | (with_reducible first | exact HB.out | apply below_alloc | apply pw_below_drewN | apply below_drew1 | refine below_set ?_ GE258.out | refine below_set ?_ GE259.out | refine below_set ?_ GE260.out | refine below_set ?_ GE261.out) | exact HB.out))
          (case side2 => exact Kd.R_tight rfl HO299.out)
          rintro e w66 ⟨v307, rfl, ho0, hb, hkp⟩
          refine ⟨_, rfl, ?_⟩
          have n0_ := Aside0.mk (Kd.R_mono (ok' := fun k_ => (P1_3_ k_ ∨ w.heap.size ≤ k_)) (Kd.R_keptB ((Kd.R_apart' HO_7.out (Kd.R_typed HO299.out) (by decide))) hkp (fun k_ hk_ hs_ => (hk_.2) hs_)) (fun k_ hk_ => hk_.1.1))
          have n1_ := Aside0.mk (blk_kept (by (with_reducible repeat (first | refine blk_drewN ?_ _ | refine blk_drew ?_ | refine blk_alloc ?_ _)); exact BK258.out) hkp (fun hs_ => (fun e_ => (Kd.R_ne HO299.out BK258.out (by decide)) e_) hs_))
          have n2_ := Aside0.mk (blk_kept (by (with_reducible repeat (first | refine blk_drewN ?_ _ | refine blk_drew ?_ | refine blk_alloc ?_ _)); exact BK259.out) hkp (fun hs_ => (fun e_ => (Kd.R_ne HO299.out BK259.out (by decide)) e_) hs_))
          have n3_ := Aside0.mk (blk_kept (by (with_reducible repeat (first | refine blk_drewN ?_ _ | refine blk_drew ?_ | refine blk_alloc ?_ _)); exact BK260.out) hkp (fun hs_ => (fun e_ => (Kd.R_ne HO299.out BK260.out (by decide)) e_) hs_))
          have n4_ := Aside0.mk (blk_kept (by (with_reducible repeat (first | refine blk_drewN ?_ _ | refine blk_drew ?_ | refine blk_alloc ?_ _)); exact BK261.out) hkp (fun hs_ => (fun e_ => (Kd.R_ne HO299.out BK261.out (by decide)) e_) hs_))
          have n5_ := Aside0.mk (Kd.R_mono (ok' := fun k_ => (P1_3_ k_ ∨ w.heap.size ≤ k_)) ho0 (fun k_ hk_ => Or.elim hk_ (fun hs_ => (HO299.out.1 k_ (hs_).symm)) (fun hn_ => (.inr (Nat.le_trans (by first | exact HK.out.1 | exact (show Kept w _ (fun k_ => P1_3_ k_) from by repeat (first | (with_reducible first | exact HK.out | apply Kept.alloc | apply Kept.drewN | apply Kept.drew | refine Kept.setCell ?_ (.inr GW258.out) _ | refine Kept.setCell ?_ (.inr GW259.out) _ | refine Kept.setCell ?_ (.inr GW260.out) _ | refine Kept.setCell ?_ (.inr GW261.out) _) | exact HK.out)).1) hn_)))))
          have n6_ := Aside0.mk (Kept.then_ (S := (fun k_ => P1_3_ k_)) (by repeat (first | (with_reducible first | exact HK.out | apply Kept.alloc | apply Kept.drewN | apply Kept.drew | refine Kept.setCell ?_ (.inr GW258.out) _ | refine Kept.setCell ?_ (.inr GW259.out) _ | refine Kept.setCell ?_ (.inr GW260.out) _ | refine Kept.setCell ?_ (.inr GW261.out) _) | exact HK.out)) hkp (fun k_ hs_ => (fun e_ => (HO299.out.1 k_ e_.symm)) hs_))
          have n7_ := Aside0.mk (hb)
          clear HO_7
          clear BK258
          clear BK259
          clear BK260
          clear BK261
          clear HK
          clear HB
          clear HO299
          have HO_7 := n0_
          have BK258 := n1_
          have BK259 := n2_
          have BK260 := n3_
          have BK261 := n4_
          have HO308 := n5_
          have HK := n6_
          have HB := n7_
          clear n0_ n1_ n2_ n3_ n4_ n5_ n6_ n7_
          (try clear hb)
          (try clear hkp)
          (try clear ho0)
          obtain ⟨Ao70, co70, eo70⟩ := Kd.R_slice HO308.out
          (first | subst eo70 | (injection eo70 with f1_ f2_ f3_; have f4_ := f1_.symm; have f5_ := f3_.symm; clear f1_ f2_ f3_; subst f4_; subst f5_))
          refine hK.out _ _ ⟨(blk_cell BK259.out 0).trans rfl, (blk_cell BK259.out 1).trans rfl, (blk_cell BK259.out 2).trans rfl, (blk_cell BK259.out 3).trans rfl, (blk_cell BK258.out 0).trans rfl, (blk_cell BK258.out 1).trans rfl, (blk_cell BK258.out 2).trans rfl, (blk_cell BK258.out 3).trans rfl, (blk_cell BK258.out 4).trans rfl, (blk_cell BK258.out 5).trans rfl, (blk_cell BK258.out 6).trans rfl⟩ (fun hHeld => ?_)
          clear hK K
          refine norm_ (a' := ?_) ?_ ?_
          rotate_left
          · show Act.put _ (some 66) _ = _
            simp only [Act.put, List.setIfInBounds_toArray, List.set_cons_zero, List.set_cons_succ, i64_w, i32_w]
            rfl
          refine last_ (i := 7) (N := none) #[true, true, true, true, true, true, true, true] rfl rfl (one_of HT_.out (by kernel_rfl)) (by decide) (fun K hK => ?_)
          have hs67 : w66.cell? ⟨gb259, 0, none⟩ = some (.int .i64 t294) := (blk_cell BK259.out 0).trans rfl
          have hfs67 := blk_frozen BK259.out 0
          have hns67_0 := NB258_259.out
          have hns67_2 := NB260_259.out
          have hns67_3 := NB261_259.out
          have hms67_0 := NB259_258.out
          have hms67_2 := NB259_260.out
          have hms67_3 := NB259_261.out
          have hs68 : w66.cell? ⟨gb259, 1, none⟩ = some (.int .i64 t295) := (blk_cell BK259.out 1).trans rfl
          have hfs68 := blk_frozen BK259.out 1
          have hns68_0 := NB258_259.out
          have hns68_2 := NB260_259.out
          have hns68_3 := NB261_259.out
          have hms68_0 := NB259_258.out
          have hms68_2 := NB259_260.out
          have hms68_3 := NB259_261.out
          have hs69 : w66.cell? ⟨gb259, 2, none⟩ = some (.int .i64 t296) := (blk_cell BK259.out 2).trans rfl
          have hfs69 := blk_frozen BK259.out 2
          have hns69_0 := NB258_259.out
          have hns69_2 := NB260_259.out
          have hns69_3 := NB261_259.out
          have hms69_0 := NB259_258.out
          have hms69_2 := NB259_260.out
          have hms69_3 := NB259_261.out
          have hs71 : w66.cell? ⟨gb259, 3, none⟩ = some (.slice Ao61 t297.length co61) := (blk_cell BK259.out 3).trans rfl
          have hfs71 := blk_frozen BK259.out 3
          have hns71_0 := NB258_259.out
          have hns71_2 := NB260_259.out
          have hns71_3 := NB261_259.out
          have hms71_0 := NB259_258.out
          have hms71_2 := NB259_260.out
          have hms71_3 := NB259_261.out
          refine skip_ (w1 := ?_) (by rfl) rfl ?_ ?_
          rotate_left
          · go_simp
            rfl
          refine hK.out _ _ ?_
          clear hK K
          refine done_ (done_of HT_.out (by kernel_rfl)) ?_
          try go_wp2
          go_roundg k1
          case measure => have := HK1.out; omega
          case rel => exact ⟨(wrap64 (x9_1 + 1)), (t303), (t304), (t305), (t306), (.slice Ao70 t306.length co70), (by first | rfl | (simp; done) | (simp [*]; done)), H', ⟨by have := HK1.out; omega⟩, ⟨by (with_reducible repeat (first | apply Kd.R_alloc | apply Kd.R_drewN | apply Kd.R_drew)); exact Kd.R_mono (Kd.R_far (p := ⟨gb259, 3, none⟩) (Kd.R_far (p := ⟨gb259, 2, none⟩) (Kd.R_far (p := ⟨gb259, 1, none⟩) (Kd.R_far (p := ⟨gb259, 0, none⟩) (Kd.R_types HO_7.out BK259.out (by decide)) (fun _ hk => hk.2) (.int .i64 t303)) (fun _ hk => hk.2) (.int .i64 t304)) (fun _ hk => hk.2) (.int .i64 t305)) (fun _ hk => hk.2) (.slice Ao70 t306.length co70)) (fun _ hk => hk.1)⟩, ⟨by (with_reducible repeat (first | apply Kd.R_alloc | apply Kd.R_drewN | apply Kd.R_drew)); exact Kd.R_mono (Kd.R_far (p := ⟨gb259, 3, none⟩) (Kd.R_far (p := ⟨gb259, 2, none⟩) (Kd.R_far (p := ⟨gb259, 1, none⟩) (Kd.R_far (p := ⟨gb259, 0, none⟩) (Kd.R_types HO308.out BK259.out (by decide)) (fun _ hk => hk.2) (.int .i64 t303)) (fun _ hk => hk.2) (.int .i64 t304)) (fun _ hk => hk.2) (.int .i64 t305)) (fun _ hk => hk.2) (.slice Ao70 t306.length co70)) (fun _ hk => hk.1)⟩, ⟨by (with_reducible repeat (first | refine blk_drewN ?_ _ | refine blk_drew ?_ | refine blk_alloc ?_ _)); refine blk_far ?_ NB258_259.out _; (with_reducible repeat (first | refine blk_drewN ?_ _ | refine blk_drew ?_ | refine blk_alloc ?_ _)); refine blk_far ?_ NB258_259.out _; (with_reducible repeat (first | refine blk_drewN ?_ _ | refine blk_drew ?_ | refine blk_alloc ?_ _)); refine blk_far ?_ NB258_259.out _; (with_reducible repeat (first | refine blk_drewN ?_ _ | refine blk_drew ?_ | refine blk_alloc ?_ _)); refine blk_far ?_ NB258_259.out _; (with_reducible repeat (first | refine blk_drewN ?_ _ | refine blk_drew ?_ | refine blk_alloc ?_ _)); exact BK258.out⟩, ⟨by (with_reducible repeat (first | refine blk_drewN ?_ _ | refine blk_drew ?_ | refine blk_alloc ?_ _)); refine blk_put (cs := #[.int .i64 t303, .int .i64 t304, .int .i64 t305, .slice Ao61 t297.length co61]) ?_ 3 _ rfl; (with_reducible repeat (first | refine blk_drewN ?_ _ | refine blk_drew ?_ | refine blk_alloc ?_ _)); refine blk_put (cs := #[.int .i64 t303, .int .i64 t304, .int .i64 t296, .slice Ao61 t297.length co61]) ?_ 2 _ rfl; (with_reducible repeat (first | refine blk_drewN ?_ _ | refine blk_drew ?_ | refine blk_alloc ?_ _)); refine blk_put (cs := #[.int .i64 t303, .int .i64 t295, .int .i64 t296, .slice Ao61 t297.length co61]) ?_ 1 _ rfl; (with_reducible repeat (first | refine blk_drewN ?_ _ | refine blk_drew ?_ | refine blk_alloc ?_ _)); refine blk_put (cs := #[.int .i64 t294, .int .i64 t295, .int .i64 t296, .slice Ao61 t297.length co61]) ?_ 0 _ rfl; (with_reducible repeat (first | refine blk_drewN ?_ _ | refine blk_drew ?_ | refine blk_alloc ?_ _)); exact BK259.out⟩, ⟨by (with_reducible repeat (first | refine blk_drewN ?_ _ | refine blk_drew ?_ | refine blk_alloc ?_ _)); refine blk_far ?_ NB260_259.out _; (with_reducible repeat (first | refine blk_drewN ?_ _ | refine blk_drew ?_ | refine blk_alloc ?_ _)); refine blk_far ?_ NB260_259.out _; (with_reducible repeat (first | refine blk_drewN ?_ _ | refine blk_drew ?_ | refine blk_alloc ?_ _)); refine blk_far ?_ NB260_259.out _; (with_reducible repeat (first | refine blk_drewN ?_ _ | refine blk_drew ?_ | refine blk_alloc ?_ _)); refine blk_far ?_ NB260_259.out _; (with_reducible repeat (first | refine blk_drewN ?_ _ | refine blk_drew ?_ | refine blk_alloc ?_ _)); exact BK260.out⟩, ⟨by (with_reducible repeat (first | refine blk_drewN ?_ _ | refine blk_drew ?_ | refine blk_alloc ?_ _)); refine blk_far ?_ NB261_259.out _; (with_reducible repeat (first | refine blk_drewN ?_ _ | refine blk_drew ?_ | refine blk_alloc ?_ _)); refine blk_far ?_ NB261_259.out _; (with_reducible repeat (first | refine blk_drewN ?_ _ | refine blk_drew ?_ | refine blk_alloc ?_ _)); refine blk_far ?_ NB261_259.out _; (with_reducible repeat (first | refine blk_drewN ?_ _ | refine blk_drew ?_ | refine blk_alloc ?_ _)); refine blk_far ?_ NB261_259.out _; (with_reducible repeat (first | refine blk_drewN ?_ _ | refine blk_drew ?_ | refine blk_alloc ?_ _)); exact BK261.out⟩, ⟨by repeat (first | (with_reducible first | exact HK.out | apply Kept.alloc | apply Kept.drewN | apply Kept.drew | refine Kept.setCell ?_ (.inr GW258.out) _ | refine Kept.setCell ?_ (.inr GW259.out) _ | refine Kept.setCell ?_ (.inr GW260.out) _ | refine Kept.setCell ?_ (.inr GW261.out) _) | exact HK.out)⟩, ⟨by repeat (first | (with_reducible first | exact HB.out | apply below_alloc | apply pw_below_drewN | apply below_drew1 | refine below_set ?_ GE258.out | refine below_set ?_ GE259.out | refine below_set ?_ GE260.out | refine below_set ?_ GE261.out) | exact HB.out)⟩⟩
        · rw [if_neg c48] at H
          exact absurd H (by simp)
      · rw [if_neg c47] at H
        have c47b0 : decide (x9_1 < (t262.length : Int)) = false := decide_eq_false c47
        clear c47
        by_cases c72 : a0_6 = true
        · subst c72
          have H1 : ((swarfref44_up.f x260000_1 x260001_1 x260002_1 a0_5).bind fun bt309 => ((swarfref44_to.f x260000_1 x260001_1 x260002_1 x260003_1 bt309.1 bt309.2.1 bt309.2.2 0).bind fun bt312 => (some (bt312.1, bt312.2.1, bt312.2.2.1, bt312.2.2.2)))) = some (r1, r2, r3, r4) := by rw [if_pos rfl] at H; exact H
          clear H
          have H := H1
          clear H1
          replace H := Option.bind_eq_some_iff.mp H
          obtain ⟨⟨t309, t310, t311⟩, A730, H⟩ := H
          replace H : ((swarfref44_to.f x260000_1 x260001_1 x260002_1 x260003_1 t309 t310 t311 0).bind fun bt312 => (some (bt312.1, bt312.2.1, bt312.2.2.1, bt312.2.2.2))) = some (r1, r2, r3, r4) := H
          have A73 := Aside0.mk A730
          clear A730
          replace H := Option.bind_eq_some_iff.mp H
          obtain ⟨⟨t312, t313, t314, t315⟩, A740, H⟩ := H
          replace H : (some (t312, t313, t314, t315)) = some (r1, r2, r3, r4) := H
          have A74 := Aside0.mk A740
          clear A740
          simp only [Option.some.injEq, Prod.mk.injEq] at H
          obtain ⟨rfl, rfl, rfl, rfl⟩ := H
          obtain ⟨Ao75, co75, eo75⟩ := Kd.R_slice HO_7.out
          subst eo75
          have hnb76 := NB258_259.out
          have hnc76 := NB259_258.out
          have hnb77 := NB258_260.out
          have hnc77 := NB260_258.out
          have hnb78 := NB258_261.out
          have hnc78 := NB261_258.out
          have hcz79_0 : wr.cell? ⟨gb258, 0, none⟩ = some (.int .i64 a0_0) := (blk_cell BK258.out 0).trans rfl
          have hcz79_1 : wr.cell? ⟨gb258, 1, none⟩ = some (.int .i64 a0_1) := (blk_cell BK258.out 1).trans rfl
          have hcz79_2 : wr.cell? ⟨gb258, 2, none⟩ = some (.int .i64 a0_2) := (blk_cell BK258.out 2).trans rfl
          have hcz79_3 : wr.cell? ⟨gb258, 3, none⟩ = some (.int .i64 a0_3) := (blk_cell BK258.out 3).trans rfl
          have hcz79_4 : wr.cell? ⟨gb258, 4, none⟩ = some (.int .i64 a0_4) := (blk_cell BK258.out 4).trans rfl
          have hcz79_5 : wr.cell? ⟨gb258, 5, none⟩ = some (.int .i64 a0_5) := (blk_cell BK258.out 5).trans rfl
          have hcz79_6 : wr.cell? ⟨gb258, 6, none⟩ = some (.bool true) := (blk_cell BK258.out 6).trans rfl
          have hfz79_0 := blk_frozen BK258.out 0
          have hfz79_1 := blk_frozen BK258.out 1
          have hfz79_2 := blk_frozen BK258.out 2
          have hfz79_3 := blk_frozen BK258.out 3
          have hfz79_4 := blk_frozen BK258.out 4
          have hfz79_5 := blk_frozen BK258.out 5
          have hfz79_6 := blk_frozen BK258.out 6
          try go_wp2
          have n0_ := Aside0.mk (Kd.R_drew HO_7.out)
          have n1_ := Aside0.mk (Kd.R_drew HO_260003.out)
          have n2_ := Aside0.mk (blk_drew BK258.out)
          have n3_ := Aside0.mk (blk_drew BK259.out)
          have n4_ := Aside0.mk (blk_drew BK260.out)
          have n5_ := Aside0.mk (blk_drew BK261.out)
          have n6_ := Aside0.mk (Kept.drew HK.out)
          have n7_ := Aside0.mk (below_drew1 HB.out)
          clear HO_7
          clear HO_260003
          clear BK258
          clear BK259
          clear BK260
          clear BK261
          clear HK
          clear HB
          have HO_7 := n0_
          have HO_260003 := n1_
          have BK258 := n2_
          have BK259 := n3_
          have BK260 := n4_
          have BK261 := n5_
          have HK := n6_
          have HB := n7_
          clear n0_ n1_ n2_ n3_ n4_ n5_ n6_ n7_
          refine start_ (n := 8) (S := fun w' => w'.cell? ⟨gb259, 0, none⟩ = some (.int .i64 x260000_1) ∧ w'.cell? ⟨gb259, 1, none⟩ = some (.int .i64 x260001_1) ∧ w'.cell? ⟨gb259, 2, none⟩ = some (.int .i64 x260002_1) ∧ w'.cell? ⟨gb259, 3, none⟩ = some (u260003) ∧ w'.cell? ⟨gb258, 0, none⟩ = some (.int .i64 a0_0) ∧ w'.cell? ⟨gb258, 1, none⟩ = some (.int .i64 a0_1) ∧ w'.cell? ⟨gb258, 2, none⟩ = some (.int .i64 a0_2) ∧ w'.cell? ⟨gb258, 3, none⟩ = some (.int .i64 a0_3) ∧ w'.cell? ⟨gb258, 4, none⟩ = some (.int .i64 a0_4) ∧ w'.cell? ⟨gb258, 5, none⟩ = some (.int .i64 a0_5) ∧ w'.cell? ⟨gb258, 6, none⟩ = some (.bool true)) (ds := [7]) #[false, false, false, false, false, false, false, false] (by kernel_rfl) rfl rfl ⟨(blk_cell BK259.out 0).trans rfl, (blk_cell BK259.out 1).trans rfl, (blk_cell BK259.out 2).trans rfl, (blk_cell BK259.out 3).trans rfl, (blk_cell BK258.out 0).trans rfl, (blk_cell BK258.out 1).trans rfl, (blk_cell BK258.out 2).trans rfl, (blk_cell BK258.out 3).trans rfl, (blk_cell BK258.out 4).trans rfl, (blk_cell BK258.out 5).trans rfl, (blk_cell BK258.out 6).trans rfl⟩ (fun hHeld => ?_); refine with_tabW swarfref44_one.tab11 swarfref44_one.bits11 (fun HT_ HW_ => ?_)
          generalize wr.drew = w80 at HO_7 HO_260003 BK258 BK259 BK260 BK261 HK HB hHeld ⊢
          refine pure_ (i := 1) (N := some 70) (v := ?_) (a' := ?_) #[false, true, false, false, false, false, false, false] rfl rfl (any_of HT_.out (by kernel_rfl)) (fun _ _ _ h => h) (Or.inl ⟨by rfl, ?_⟩) ?_ ?_
          rotate_left
          · intro w'
            go_simp
            with_reducible rfl
          rotate_left
          · simp only [Act.put, List.setIfInBounds_toArray, List.set_cons_zero, List.set_cons_succ, i64_w, i32_w]
            rfl
          refine pure_ (i := 3) (N := some 72) (v := ?_) (a' := ?_) #[false, true, false, true, false, false, false, false] rfl rfl (any_of HT_.out (by kernel_rfl)) (fun _ _ _ h => h) (Or.inl ⟨by rfl, ?_⟩) ?_ ?_
          rotate_left
          · intro w'
            go_simp
            with_reducible rfl
          rotate_left
          · simp only [Act.put, List.setIfInBounds_toArray, List.set_cons_zero, List.set_cons_succ, i64_w, i32_w]
            rfl
          refine take_ (i := 0) (N := some 69) (v := ?_) (a' := ?_) #[true, true, false, true, false, false, false, false] rfl rfl (take_ofW HT_.out HW_.out (by kernel_rfl)) (fun _ _ _ h => h) (Or.inl ⟨by rfl, ?_⟩) hHeld ?_ ?_
          rotate_left
          · rintro w' ⟨s0, s1, s2, s3, s4, s5, s6, s7, s8, s9, s10⟩
            go_simp
            with_reducible rfl
          rotate_left
          · simp only [Act.put, List.setIfInBounds_toArray, List.set_cons_zero, List.set_cons_succ, i64_w, i32_w]
            rfl
          refine take_ (i := 2) (N := some 71) (v := ?_) (a' := ?_) #[true, true, true, true, false, false, false, false] rfl rfl (take_ofW HT_.out HW_.out (by kernel_rfl)) (fun _ _ _ h => h) (Or.inl ⟨by rfl, ?_⟩) hHeld ?_ ?_
          rotate_left
          · rintro w' ⟨s0, s1, s2, s3, s4, s5, s6, s7, s8, s9, s10⟩
            go_simp
            with_reducible rfl
          rotate_left
          · simp only [Act.put, List.setIfInBounds_toArray, List.set_cons_zero, List.set_cons_succ, i64_w, i32_w]
            rfl
          refine take_ (i := 4) (N := some 73) (v := ?_) (a' := ?_) #[true, true, true, true, true, false, false, false] rfl rfl (take_ofW HT_.out HW_.out (by kernel_rfl)) (fun _ _ _ h => h) (Or.inl ⟨by rfl, ?_⟩) hHeld ?_ ?_
          rotate_left
          · rintro w' ⟨s0, s1, s2, s3, s4, s5, s6, s7, s8, s9, s10⟩
            go_simp
            with_reducible rfl
          rotate_left
          · simp only [Act.put, List.setIfInBounds_toArray, List.set_cons_zero, List.set_cons_succ, i64_w, i32_w]
            rfl
          refine one_ (i := 5) (N := some 74) #[true, true, true, true, true, true, false, false] rfl rfl (one_of HT_.out (by kernel_rfl)) (by decide) (fun K hK => ?_)
          refine goes_ Try.func37 (by kernel_rfl) rfl #[.agg #[.int .i64 x260000_1, .int .i64 x260001_1, .int .i64 x260002_1], .int .i64 a0_5] (by rfl) rfl rfl (by (try simp only [List.map_toArray, List.map_cons, List.map_nil]); first | done | rfl | (simp only [List.length_drop, List.length_take]; rfl)) ?_
          with_reducible refine (swarfref44_up.calls x260000_1 x260001_1 x260002_1 a0_5 t309 t310 t311 _ A73.out).mono ?_
          rintro e w81 ⟨rfl, hb⟩
          refine ⟨_, rfl, ?_⟩
          have n0_ := Aside0.mk (Kd.R_below (by (with_reducible repeat (first | apply Kd.R_alloc | apply Kd.R_drewN | apply Kd.R_drew)); exact HO_7.out) hb)
          have n1_ := Aside0.mk (Kd.R_below (by (with_reducible repeat (first | apply Kd.R_alloc | apply Kd.R_drewN | apply Kd.R_drew)); exact HO_260003.out) hb)
          have n2_ := Aside0.mk (blk_below (g := gb258) (o := .cells #[.int .i64 a0_0, .int .i64 a0_1, .int .i64 a0_2, .int .i64 a0_3, .int .i64 a0_4, .int .i64 a0_5, .bool true] 23 (0, 0)) (by (with_reducible repeat (first | refine blk_drewN ?_ _ | refine blk_drew ?_ | refine blk_alloc ?_ _)); exact BK258.out) hb)
          have n3_ := Aside0.mk (blk_below (g := gb259) (o := .cells #[.int .i64 x260000_1, .int .i64 x260001_1, .int .i64 x260002_1, u260003] 73 (0, 0)) (by (with_reducible repeat (first | refine blk_drewN ?_ _ | refine blk_drew ?_ | refine blk_alloc ?_ _)); exact BK259.out) hb)
          have n4_ := Aside0.mk (blk_below (g := gb260) (o := .cells #[.int .i64 a2_0, .int .i64 a2_1] 43 (0, 0)) (by (with_reducible repeat (first | refine blk_drewN ?_ _ | refine blk_drew ?_ | refine blk_alloc ?_ _)); exact BK260.out) hb)
          have n5_ := Aside0.mk (blk_below (g := gb261) (o := .cells #[.int .i64 0, .int .i64 0, .int .i64 0, .slice none 0 0] 73 (0, 0)) (by (with_reducible repeat (first | refine blk_drewN ?_ _ | refine blk_drew ?_ | refine blk_alloc ?_ _)); exact BK261.out) hb)
          have n6_ := Aside0.mk (Kept.below (S := (fun k_ => P1_3_ k_)) (by repeat (first | (with_reducible first | exact HK.out | apply Kept.alloc | apply Kept.drewN | apply Kept.drew | refine Kept.setCell ?_ (.inr GW258.out) _ | refine Kept.setCell ?_ (.inr GW259.out) _ | refine Kept.setCell ?_ (.inr GW260.out) _ | refine Kept.setCell ?_ (.inr GW261.out) _) | exact HK.out)) hb)
          have n7_ := Aside0.mk (below_step (by repeat (first | (with_reducible first | exact HB.out | apply below_alloc | apply pw_below_drewN | apply below_drew1 | refine below_set ?_ GE258.out | refine below_set ?_ GE259.out | refine below_set ?_ GE260.out | refine below_set ?_ GE261.out) | exact HB.out)) hb)
          clear HO_7
          clear HO_260003
          clear BK258
          clear BK259
          clear BK260
          clear BK261
          clear HK
          clear HB
          have HO_7 := n0_
          have HO_260003 := n1_
          have BK258 := n2_
          have BK259 := n3_
          have BK260 := n4_
          have BK261 := n5_
          have HK := n6_
          have HB := n7_
          clear n0_ n1_ n2_ n3_ n4_ n5_ n6_ n7_
          (try clear hb)
          (try clear hb2)
          (try clear hk)
          (try clear hi)
          obtain ⟨Ao82, co82, eo82⟩ := Kd.R_slice HO_260003.out
          (first | subst eo82 | (injection eo82 with f1_ f2_ f3_; have f4_ := f1_.symm; have f5_ := f3_.symm; clear f1_ f2_ f3_; subst f4_; subst f5_))
          refine hK.out _ _ ⟨(blk_cell BK259.out 0).trans rfl, (blk_cell BK259.out 1).trans rfl, (blk_cell BK259.out 2).trans rfl, (blk_cell BK259.out 3).trans rfl, (blk_cell BK258.out 0).trans rfl, (blk_cell BK258.out 1).trans rfl, (blk_cell BK258.out 2).trans rfl, (blk_cell BK258.out 3).trans rfl, (blk_cell BK258.out 4).trans rfl, (blk_cell BK258.out 5).trans rfl, (blk_cell BK258.out 6).trans rfl⟩ (fun hHeld => ?_)
          clear hK K
          refine norm_ (a' := ?_) ?_ ?_
          rotate_left
          · show Act.put _ (some 74) _ = _
            simp only [Act.put, List.setIfInBounds_toArray, List.set_cons_zero, List.set_cons_succ, i64_w, i32_w]
            rfl
          refine one_ (i := 6) (N := some 75) #[true, true, true, true, true, true, true, false] rfl rfl (one_of HT_.out (by kernel_rfl)) (by decide) (fun K hK => ?_)
          refine goes_ Try.func36 (by kernel_rfl) rfl #[.agg #[.int .i64 x260000_1, .int .i64 x260001_1, .int .i64 x260002_1, .slice Ao82 x260003_1.length co82], .agg #[.int .i64 t309, .int .i64 t310, .int .i64 t311], .int .i64 0] (by rfl) rfl rfl (by (try simp only [List.map_toArray, List.map_cons, List.map_nil]); first | done | rfl | (simp only [List.length_drop, List.length_take]; rfl)) ?_
          with_reducible refine (swarfref44_to.calls x260000_1 x260001_1 x260002_1 (fun k_ => some k_ = (.slice Ao82 x260003_1.length co82 : Value).ownBlock) (.slice Ao82 x260003_1.length co82) x260003_1 t309 t310 t311 0 t312 t313 t314 t315 w0 _ ?side1 ?side2 A74.out).mono ?_
          (case side1 => repeat (first | (with_reducible first | exact HB.out | apply below_alloc | apply pw_below_drewN | apply below_drew1 | refine below_set ?_ GE258.out | refine below_set ?_ GE259.out | refine below_set ?_ GE260.out | refine below_set ?_ GE261.out) | exact HB.out))
          (case side2 => exact Kd.R_tight rfl HO_260003.out)
          rintro e w83 ⟨v316, rfl, ho0, hb, hkp⟩
          refine ⟨_, rfl, ?_⟩
          have n0_ := Aside0.mk (Kd.R_mono (ok' := fun k_ => (P1_3_ k_ ∨ w.heap.size ≤ k_)) (Kd.R_keptB ((Kd.R_apart' HO_7.out (Kd.R_typed HO_260003.out) (by decide))) hkp (fun k_ hk_ hs_ => (hk_.2) hs_)) (fun k_ hk_ => hk_.1.1))
          have n1_ := Aside0.mk (blk_kept (by (with_reducible repeat (first | refine blk_drewN ?_ _ | refine blk_drew ?_ | refine blk_alloc ?_ _)); exact BK258.out) hkp (fun hs_ => (fun e_ => (Kd.R_ne HO_260003.out BK258.out (by decide)) e_) hs_))
          have n2_ := Aside0.mk (blk_kept (by (with_reducible repeat (first | refine blk_drewN ?_ _ | refine blk_drew ?_ | refine blk_alloc ?_ _)); exact BK259.out) hkp (fun hs_ => (fun e_ => (Kd.R_ne HO_260003.out BK259.out (by decide)) e_) hs_))
          have n3_ := Aside0.mk (blk_kept (by (with_reducible repeat (first | refine blk_drewN ?_ _ | refine blk_drew ?_ | refine blk_alloc ?_ _)); exact BK260.out) hkp (fun hs_ => (fun e_ => (Kd.R_ne HO_260003.out BK260.out (by decide)) e_) hs_))
          have n4_ := Aside0.mk (blk_kept (by (with_reducible repeat (first | refine blk_drewN ?_ _ | refine blk_drew ?_ | refine blk_alloc ?_ _)); exact BK261.out) hkp (fun hs_ => (fun e_ => (Kd.R_ne HO_260003.out BK261.out (by decide)) e_) hs_))
          have n5_ := Aside0.mk (Kd.R_mono (ok' := fun k_ => (P1_3_ k_ ∨ w.heap.size ≤ k_)) ho0 (fun k_ hk_ => Or.elim hk_ (fun hs_ => (HO_260003.out.1 k_ (hs_).symm)) (fun hn_ => (.inr (Nat.le_trans (by first | exact HK.out.1 | exact (show Kept w _ (fun k_ => P1_3_ k_) from by repeat (first | (with_reducible first | exact HK.out | apply Kept.alloc | apply Kept.drewN | apply Kept.drew | refine Kept.setCell ?_ (.inr GW258.out) _ | refine Kept.setCell ?_ (.inr GW259.out) _ | refine Kept.setCell ?_ (.inr GW260.out) _ | refine Kept.setCell ?_ (.inr GW261.out) _) | exact HK.out)).1) hn_)))))
          have n6_ := Aside0.mk (Kept.then_ (S := (fun k_ => P1_3_ k_)) (by repeat (first | (with_reducible first | exact HK.out | apply Kept.alloc | apply Kept.drewN | apply Kept.drew | refine Kept.setCell ?_ (.inr GW258.out) _ | refine Kept.setCell ?_ (.inr GW259.out) _ | refine Kept.setCell ?_ (.inr GW260.out) _ | refine Kept.setCell ?_ (.inr GW261.out) _) | exact HK.out)) hkp (fun k_ hs_ => (fun e_ => (HO_260003.out.1 k_ e_.symm)) hs_))
          have n7_ := Aside0.mk (hb)
          clear HO_7
          clear BK258
          clear BK259
          clear BK260
          clear BK261
          clear HK
          clear HB
          clear HO_260003
          have HO_7 := n0_
          have BK258 := n1_
          have BK259 := n2_
          have BK260 := n3_
          have BK261 := n4_
          have HO317 := n5_
          have HK := n6_
          have HB := n7_
          clear n0_ n1_ n2_ n3_ n4_ n5_ n6_ n7_
          (try clear hb)
          (try clear hkp)
          (try clear ho0)
          obtain ⟨Ao87, co87, eo87⟩ := Kd.R_slice HO317.out
          (first | subst eo87 | (injection eo87 with f1_ f2_ f3_; have f4_ := f1_.symm; have f5_ := f3_.symm; clear f1_ f2_ f3_; subst f4_; subst f5_))
          refine hK.out _ _ ⟨(blk_cell BK259.out 0).trans rfl, (blk_cell BK259.out 1).trans rfl, (blk_cell BK259.out 2).trans rfl, (blk_cell BK259.out 3).trans rfl, (blk_cell BK258.out 0).trans rfl, (blk_cell BK258.out 1).trans rfl, (blk_cell BK258.out 2).trans rfl, (blk_cell BK258.out 3).trans rfl, (blk_cell BK258.out 4).trans rfl, (blk_cell BK258.out 5).trans rfl, (blk_cell BK258.out 6).trans rfl⟩ (fun hHeld => ?_)
          clear hK K
          refine norm_ (a' := ?_) ?_ ?_
          rotate_left
          · show Act.put _ (some 75) _ = _
            simp only [Act.put, List.setIfInBounds_toArray, List.set_cons_zero, List.set_cons_succ, i64_w, i32_w]
            rfl
          refine last_ (i := 7) (N := none) #[true, true, true, true, true, true, true, true] rfl rfl (one_of HT_.out (by kernel_rfl)) (by decide) (fun K hK => ?_)
          have hs84 : w83.cell? ⟨gb259, 0, none⟩ = some (.int .i64 x260000_1) := (blk_cell BK259.out 0).trans rfl
          have hfs84 := blk_frozen BK259.out 0
          have hns84_0 := NB258_259.out
          have hns84_2 := NB260_259.out
          have hns84_3 := NB261_259.out
          have hms84_0 := NB259_258.out
          have hms84_2 := NB259_260.out
          have hms84_3 := NB259_261.out
          have hs85 : w83.cell? ⟨gb259, 1, none⟩ = some (.int .i64 x260001_1) := (blk_cell BK259.out 1).trans rfl
          have hfs85 := blk_frozen BK259.out 1
          have hns85_0 := NB258_259.out
          have hns85_2 := NB260_259.out
          have hns85_3 := NB261_259.out
          have hms85_0 := NB259_258.out
          have hms85_2 := NB259_260.out
          have hms85_3 := NB259_261.out
          have hs86 : w83.cell? ⟨gb259, 2, none⟩ = some (.int .i64 x260002_1) := (blk_cell BK259.out 2).trans rfl
          have hfs86 := blk_frozen BK259.out 2
          have hns86_0 := NB258_259.out
          have hns86_2 := NB260_259.out
          have hns86_3 := NB261_259.out
          have hms86_0 := NB259_258.out
          have hms86_2 := NB259_260.out
          have hms86_3 := NB259_261.out
          have hs88 : w83.cell? ⟨gb259, 3, none⟩ = some (.slice Ao82 x260003_1.length co82) := (blk_cell BK259.out 3).trans rfl
          have hfs88 := blk_frozen BK259.out 3
          have hns88_0 := NB258_259.out
          have hns88_2 := NB260_259.out
          have hns88_3 := NB261_259.out
          have hms88_0 := NB259_258.out
          have hms88_2 := NB259_260.out
          have hms88_3 := NB259_261.out
          refine skip_ (w1 := ?_) (by rfl) rfl ?_ ?_
          rotate_left
          · go_simp
            rfl
          refine hK.out _ _ ?_
          clear hK K
          refine done_ (done_of HT_.out (by kernel_rfl)) ?_
          have hnb89 := NB259_260.out
          have hnc89 := NB260_259.out
          have hnb90 := NB259_261.out
          have hnc90 := NB261_259.out
          have hcz91_0 : w83.cell? ⟨gb259, 0, none⟩ = some (.int .i64 x260000_1) := (blk_cell BK259.out 0).trans rfl
          have hcz91_1 : w83.cell? ⟨gb259, 1, none⟩ = some (.int .i64 x260001_1) := (blk_cell BK259.out 1).trans rfl
          have hcz91_2 : w83.cell? ⟨gb259, 2, none⟩ = some (.int .i64 x260002_1) := (blk_cell BK259.out 2).trans rfl
          have hcz91_3 : w83.cell? ⟨gb259, 3, none⟩ = some (.slice Ao82 x260003_1.length co82) := (blk_cell BK259.out 3).trans rfl
          have hfz91_0 := blk_frozen BK259.out 0
          have hfz91_1 := blk_frozen BK259.out 1
          have hfz91_2 := blk_frozen BK259.out 2
          have hfz91_3 := blk_frozen BK259.out 3
          have hnb92 := NB261_260.out
          have hnc92 := NB260_261.out
          have hcz93_0 : w83.cell? ⟨gb261, 0, none⟩ = some (.int .i64 0) := (blk_cell BK261.out 0).trans rfl
          have hcz93_1 : w83.cell? ⟨gb261, 1, none⟩ = some (.int .i64 0) := (blk_cell BK261.out 1).trans rfl
          have hcz93_2 : w83.cell? ⟨gb261, 2, none⟩ = some (.int .i64 0) := (blk_cell BK261.out 2).trans rfl
          have hcz93_3 : w83.cell? ⟨gb261, 3, none⟩ = some (.slice none 0 0) := (blk_cell BK261.out 3).trans rfl
          have hfz93_0 := blk_frozen BK261.out 0
          have hfz93_1 := blk_frozen BK261.out 1
          have hfz93_2 := blk_frozen BK261.out 2
          have hfz93_3 := blk_frozen BK261.out 3
          try go_wp2
          refine bodyPost_ret (results_cell_row rfl _ _ gb261 73 #[.int .i64 t312, .int .i64 t313, .int .i64 t314, .slice Ao87 t315.length co87] (0, 0) _ rfl (by (with_reducible repeat (first | refine blk_drewN ?_ _ | refine blk_drew ?_ | refine blk_alloc ?_ _)); refine blk_put (cs := #[.int .i64 t312, .int .i64 t313, .int .i64 t314, .slice none 0 0]) ?_ 3 _ rfl; (with_reducible repeat (first | refine blk_drewN ?_ _ | refine blk_drew ?_ | refine blk_alloc ?_ _)); refine blk_put (cs := #[.int .i64 t312, .int .i64 t313, .int .i64 0, .slice none 0 0]) ?_ 2 _ rfl; (with_reducible repeat (first | refine blk_drewN ?_ _ | refine blk_drew ?_ | refine blk_alloc ?_ _)); refine blk_put (cs := #[.int .i64 t312, .int .i64 0, .int .i64 0, .slice none 0 0]) ?_ 1 _ rfl; (with_reducible repeat (first | refine blk_drewN ?_ _ | refine blk_drew ?_ | refine blk_alloc ?_ _)); refine blk_put (cs := #[.int .i64 0, .int .i64 0, .int .i64 0, .slice none 0 0]) ?_ 0 _ rfl; (with_reducible repeat (first | refine blk_drewN ?_ _ | refine blk_drew ?_ | refine blk_alloc ?_ _)); refine blk_far ?_ NB261_259.out _; (with_reducible repeat (first | refine blk_drewN ?_ _ | refine blk_drew ?_ | refine blk_alloc ?_ _)); refine blk_far ?_ NB261_259.out _; (with_reducible repeat (first | refine blk_drewN ?_ _ | refine blk_drew ?_ | refine blk_alloc ?_ _)); refine blk_far ?_ NB261_259.out _; (with_reducible repeat (first | refine blk_drewN ?_ _ | refine blk_drew ?_ | refine blk_alloc ?_ _)); refine blk_far ?_ NB261_259.out _; (with_reducible repeat (first | refine blk_drewN ?_ _ | refine blk_drew ?_ | refine blk_alloc ?_ _)); exact BK261.out) Try.underlying73 rfl (by kernel_rfl)) rfl ?_
          exact ⟨_, by first | rfl | (simp [errW_none, errW_some] <;> rfl) | (simp only [← hji5]; first | rfl | (simp [errW_none, errW_some] <;> rfl)) | (simp [*, errW_none, errW_some] <;> rfl), by (with_reducible repeat (first | apply Kd.R_alloc | apply Kd.R_drewN | apply Kd.R_drew)); exact Kd.R_mono (Kd.R_far (p := ⟨gb261, 3, none⟩) (Kd.R_far (p := ⟨gb261, 2, none⟩) (Kd.R_far (p := ⟨gb261, 1, none⟩) (Kd.R_far (p := ⟨gb261, 0, none⟩) (Kd.R_far (p := ⟨gb259, 3, none⟩) (Kd.R_far (p := ⟨gb259, 2, none⟩) (Kd.R_far (p := ⟨gb259, 1, none⟩) (Kd.R_far (p := ⟨gb259, 0, none⟩) (Kd.R_types (Kd.R_types HO317.out BK259.out (by decide)) BK261.out (by decide)) (fun _ hk => hk.1.2) (.int .i64 t312)) (fun _ hk => hk.1.2) (.int .i64 t313)) (fun _ hk => hk.1.2) (.int .i64 t314)) (fun _ hk => hk.1.2) (.slice Ao87 t315.length co87)) (fun _ hk => hk.2) (.int .i64 t312)) (fun _ hk => hk.2) (.int .i64 t313)) (fun _ hk => hk.2) (.int .i64 t314)) (fun _ hk => hk.2) (.slice Ao87 t315.length co87)) (fun _ hk => hk.1.1), by repeat (first | (with_reducible first | exact HB.out | apply below_alloc | apply pw_below_drewN | apply below_drew1 | refine below_set ?_ GE258.out | refine below_set ?_ GE259.out | refine below_set ?_ GE260.out | refine below_set ?_ GE261.out) | exact HB.out), by repeat (first | (with_reducible first | exact HK.out | apply Kept.alloc | apply Kept.drewN | apply Kept.drew | refine Kept.setCell ?_ (.inr GW258.out) _ | refine Kept.setCell ?_ (.inr GW259.out) _ | refine Kept.setCell ?_ (.inr GW260.out) _ | refine Kept.setCell ?_ (.inr GW261.out) _) | exact HK.out)⟩
        · replace c72 := Bool.eq_false_iff.mpr c72
          subst c72
          have H1 : (some (x260000_1, x260001_1, x260002_1, x260003_1)) = some (r1, r2, r3, r4) := by rw [if_neg (show ¬ (false = true) by decide)] at H; exact H
          clear H
          have H := H1
          clear H1
          simp only [Option.some.injEq, Prod.mk.injEq] at H
          obtain ⟨rfl, rfl, rfl, rfl⟩ := H
          obtain ⟨Ao94, co94, eo94⟩ := Kd.R_slice HO_7.out
          subst eo94
          have hnb95 := NB258_259.out
          have hnc95 := NB259_258.out
          have hnb96 := NB258_260.out
          have hnc96 := NB260_258.out
          have hnb97 := NB258_261.out
          have hnc97 := NB261_258.out
          have hcz98_0 : wr.cell? ⟨gb258, 0, none⟩ = some (.int .i64 a0_0) := (blk_cell BK258.out 0).trans rfl
          have hcz98_1 : wr.cell? ⟨gb258, 1, none⟩ = some (.int .i64 a0_1) := (blk_cell BK258.out 1).trans rfl
          have hcz98_2 : wr.cell? ⟨gb258, 2, none⟩ = some (.int .i64 a0_2) := (blk_cell BK258.out 2).trans rfl
          have hcz98_3 : wr.cell? ⟨gb258, 3, none⟩ = some (.int .i64 a0_3) := (blk_cell BK258.out 3).trans rfl
          have hcz98_4 : wr.cell? ⟨gb258, 4, none⟩ = some (.int .i64 a0_4) := (blk_cell BK258.out 4).trans rfl
          have hcz98_5 : wr.cell? ⟨gb258, 5, none⟩ = some (.int .i64 a0_5) := (blk_cell BK258.out 5).trans rfl
          have hcz98_6 : wr.cell? ⟨gb258, 6, none⟩ = some (.bool false) := (blk_cell BK258.out 6).trans rfl
          have hfz98_0 := blk_frozen BK258.out 0
          have hfz98_1 := blk_frozen BK258.out 1
          have hfz98_2 := blk_frozen BK258.out 2
          have hfz98_3 := blk_frozen BK258.out 3
          have hfz98_4 := blk_frozen BK258.out 4
          have hfz98_5 := blk_frozen BK258.out 5
          have hfz98_6 := blk_frozen BK258.out 6
          have hnb99 := NB259_260.out
          have hnc99 := NB260_259.out
          have hnb100 := NB259_261.out
          have hnc100 := NB261_259.out
          have hcz101_0 : wr.cell? ⟨gb259, 0, none⟩ = some (.int .i64 x260000_1) := (blk_cell BK259.out 0).trans rfl
          have hcz101_1 : wr.cell? ⟨gb259, 1, none⟩ = some (.int .i64 x260001_1) := (blk_cell BK259.out 1).trans rfl
          have hcz101_2 : wr.cell? ⟨gb259, 2, none⟩ = some (.int .i64 x260002_1) := (blk_cell BK259.out 2).trans rfl
          have hcz101_3 : wr.cell? ⟨gb259, 3, none⟩ = some (u260003) := (blk_cell BK259.out 3).trans rfl
          have hfz101_0 := blk_frozen BK259.out 0
          have hfz101_1 := blk_frozen BK259.out 1
          have hfz101_2 := blk_frozen BK259.out 2
          have hfz101_3 := blk_frozen BK259.out 3
          have hnb102 := NB261_260.out
          have hnc102 := NB260_261.out
          have hcz103_0 : wr.cell? ⟨gb261, 0, none⟩ = some (.int .i64 0) := (blk_cell BK261.out 0).trans rfl
          have hcz103_1 : wr.cell? ⟨gb261, 1, none⟩ = some (.int .i64 0) := (blk_cell BK261.out 1).trans rfl
          have hcz103_2 : wr.cell? ⟨gb261, 2, none⟩ = some (.int .i64 0) := (blk_cell BK261.out 2).trans rfl
          have hcz103_3 : wr.cell? ⟨gb261, 3, none⟩ = some (.slice none 0 0) := (blk_cell BK261.out 3).trans rfl
          have hfz103_0 := blk_frozen BK261.out 0
          have hfz103_1 := blk_frozen BK261.out 1
          have hfz103_2 := blk_frozen BK261.out 2
          have hfz103_3 := blk_frozen BK261.out 3
          obtain ⟨Ao104, co104, eo104⟩ := Kd.R_slice HO_260003.out
          subst eo104
          go_wp2
          refine bodyPost_ret (results_cell_row rfl _ _ gb261 73 #[.int .i64 x260000_1, .int .i64 x260001_1, .int .i64 x260002_1, .slice Ao104 x260003_1.length co104] (0, 0) _ rfl (by (with_reducible repeat (first | refine blk_drewN ?_ _ | refine blk_drew ?_ | refine blk_alloc ?_ _)); refine blk_put (cs := #[.int .i64 x260000_1, .int .i64 x260001_1, .int .i64 x260002_1, .slice none 0 0]) ?_ 3 _ rfl; (with_reducible repeat (first | refine blk_drewN ?_ _ | refine blk_drew ?_ | refine blk_alloc ?_ _)); refine blk_put (cs := #[.int .i64 x260000_1, .int .i64 x260001_1, .int .i64 0, .slice none 0 0]) ?_ 2 _ rfl; (with_reducible repeat (first | refine blk_drewN ?_ _ | refine blk_drew ?_ | refine blk_alloc ?_ _)); refine blk_put (cs := #[.int .i64 x260000_1, .int .i64 0, .int .i64 0, .slice none 0 0]) ?_ 1 _ rfl; (with_reducible repeat (first | refine blk_drewN ?_ _ | refine blk_drew ?_ | refine blk_alloc ?_ _)); refine blk_put (cs := #[.int .i64 0, .int .i64 0, .int .i64 0, .slice none 0 0]) ?_ 0 _ rfl; (with_reducible repeat (first | refine blk_drewN ?_ _ | refine blk_drew ?_ | refine blk_alloc ?_ _)); exact BK261.out) Try.underlying73 rfl (by kernel_rfl)) rfl ?_
          exact ⟨_, by first | rfl | (simp [errW_none, errW_some] <;> rfl) | (simp only [← hji5]; first | rfl | (simp [errW_none, errW_some] <;> rfl)) | (simp [*, errW_none, errW_some] <;> rfl), by (with_reducible repeat (first | apply Kd.R_alloc | apply Kd.R_drewN | apply Kd.R_drew)); exact Kd.R_mono (Kd.R_far (p := ⟨gb261, 3, none⟩) (Kd.R_far (p := ⟨gb261, 2, none⟩) (Kd.R_far (p := ⟨gb261, 1, none⟩) (Kd.R_far (p := ⟨gb261, 0, none⟩) (Kd.R_types HO_260003.out BK261.out (by decide)) (fun _ hk => hk.2) (.int .i64 x260000_1)) (fun _ hk => hk.2) (.int .i64 x260001_1)) (fun _ hk => hk.2) (.int .i64 x260002_1)) (fun _ hk => hk.2) (.slice Ao104 x260003_1.length co104)) (fun _ hk => hk.1), by repeat (first | (with_reducible first | exact HB.out | apply below_alloc | apply pw_below_drewN | apply below_drew1 | refine below_set ?_ GE258.out | refine below_set ?_ GE259.out | refine below_set ?_ GE260.out | refine below_set ?_ GE261.out) | exact HB.out), by repeat (first | (with_reducible first | exact HK.out | apply Kept.alloc | apply Kept.drewN | apply Kept.drew | refine Kept.setCell ?_ (.inr GW258.out) _ | refine Kept.setCell ?_ (.inr GW259.out) _ | refine Kept.setCell ?_ (.inr GW260.out) _ | refine Kept.setCell ?_ (.inr GW261.out) _) | exact HK.out)⟩

end Go.Proofs.Ytmaochcdjmnffaa.P
