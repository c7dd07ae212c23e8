-- PRINTED by print.py (a twelfth state) out of the translation. Not trusted: Lean checks it.
import Derived.Test.YtmaochcdjmnffaaT6Px0
import Derived.Test.YtmaochcdjmnffaaT6Px17
namespace Go.Proofs.Ytmaochcdjmnffaa.P
open Go.RowKit Go.Proofs.YtmaochcdjmnffaaW.PrintWords Go.Proofs.YtmaochcdjmnffaaW.PrintLast Go.Proofs.YtmaochcdjmnffaaW.PrintMore
attribute [local go_sem] max2_int min2_int max_two min_two max_three min_three max_four min_four   -- for this text's walks alone
set_option linter.unusedVariables false
set_option linter.unusedSimpArgs false

/-! ### swarfref44_Valid: function 13 -/
mutual
def swarfref44_Valid.j0 : Nat → Bool → Bool → Int → Int → Int → Int → Int → Int → Bool → Option (Int)
  | 0, _, _, _, _, _, _, _, _, _ => none
  | k + 1, x3, x52, x190000, x190001, x190002, x190003, x190004, x190005, x190006 => if x52 = true then (some 1) else ((swarfref44_in.f x190001).bind fun t190 => (if t190 = true then ((swarfref44_in.f x190002).bind fun t191 => (if t191 = true then ((swarfref44_in.f x190005).bind fun t192 => (if t192 = true then (if x3 = true then ((swarfref44_in.f x190003).bind fun t193 => (swarfref44_Valid.j1 k x3 (!t193) x190000 x190001 x190002 x190003 x190004 x190005 x190006)) else (swarfref44_Valid.j1 k x3 false x190000 x190001 x190002 x190003 x190004 x190005 x190006)) else (swarfref44_Valid.j1 k x3 true x190000 x190001 x190002 x190003 x190004 x190005 x190006))) else (swarfref44_Valid.j1 k x3 true x190000 x190001 x190002 x190003 x190004 x190005 x190006))) else (swarfref44_Valid.j1 k x3 true x190000 x190001 x190002 x190003 x190004 x190005 x190006)))
def swarfref44_Valid.j1 : Nat → Bool → Bool → Int → Int → Int → Int → Int → Int → Bool → Option (Int)
  | 0, _, _, _, _, _, _, _, _, _ => none
  | k + 1, x3, x77, x190000, x190001, x190002, x190003, x190004, x190005, x190006 => if x77 = true then (some 11) else (if x3 = true then (swarfref44_Valid.l0 k 0 (wrap64 (x190001 - x190003)) x190000 x190001 x190002 x190003 x190004 x190005 x190006) else (some 0))
def swarfref44_Valid.l0 : Nat → Int → Int → Int → Int → Int → Int → Int → Int → Bool → Option (Int)
  | 0, _, _, _, _, _, _, _, _, _ => none
  | k + 1, x4, x5, x190000, x190001, x190002, x190003, x190004, x190005, x190006 => if x5 > x190002 then (if (wrap64 (x4 + 1)) > 999 then (some 3) else (swarfref44_Valid.l0 k (wrap64 (x4 + 1)) (wrap64 (x5 - x190003)) x190000 x190001 x190002 x190003 x190004 x190005 x190006)) else (some 0)
end
def swarfref44_Valid.f (k : Nat) (a0_0 : Int) (a0_1 : Int) (a0_2 : Int) (a0_3 : Int) (a0_4 : Int) (a0_5 : Int) (a0_6 : Bool) : Option (Int) := if a0_0 = 81000 then (if a0_2 ≥ a0_1 then (swarfref44_Valid.j0 k (a0_0 == 83000) true a0_0 a0_1 a0_2 a0_3 a0_4 a0_5 a0_6) else (if a0_1 > a0_5 then (swarfref44_Valid.j0 k (a0_0 == 83000) true a0_0 a0_1 a0_2 a0_3 a0_4 a0_5 a0_6) else (if a0_4 < 1 then (swarfref44_Valid.j0 k (a0_0 == 83000) true a0_0 a0_1 a0_2 a0_3 a0_4 a0_5 a0_6) else (if a0_4 > 1000000000000 then (swarfref44_Valid.j0 k (a0_0 == 83000) true a0_0 a0_1 a0_2 a0_3 a0_4 a0_5 a0_6) else (if a0_0 = 83000 then (swarfref44_Valid.j0 k (a0_0 == 83000) (decide (a0_3 < 1)) a0_0 a0_1 a0_2 a0_3 a0_4 a0_5 a0_6) else (swarfref44_Valid.j0 k (a0_0 == 83000) false a0_0 a0_1 a0_2 a0_3 a0_4 a0_5 a0_6)))))) else (if a0_0 = 82000 then (if a0_2 ≥ a0_1 then (swarfref44_Valid.j0 k (a0_0 == 83000) true a0_0 a0_1 a0_2 a0_3 a0_4 a0_5 a0_6) else (if a0_1 > a0_5 then (swarfref44_Valid.j0 k (a0_0 == 83000) true a0_0 a0_1 a0_2 a0_3 a0_4 a0_5 a0_6) else (if a0_4 < 1 then (swarfref44_Valid.j0 k (a0_0 == 83000) true a0_0 a0_1 a0_2 a0_3 a0_4 a0_5 a0_6) else (if a0_4 > 1000000000000 then (swarfref44_Valid.j0 k (a0_0 == 83000) true a0_0 a0_1 a0_2 a0_3 a0_4 a0_5 a0_6) else (if a0_0 = 83000 then (swarfref44_Valid.j0 k (a0_0 == 83000) (decide (a0_3 < 1)) a0_0 a0_1 a0_2 a0_3 a0_4 a0_5 a0_6) else (swarfref44_Valid.j0 k (a0_0 == 83000) false a0_0 a0_1 a0_2 a0_3 a0_4 a0_5 a0_6)))))) else (if a0_0 = 83000 then (if a0_2 ≥ a0_1 then (swarfref44_Valid.j0 k (a0_0 == 83000) true a0_0 a0_1 a0_2 a0_3 a0_4 a0_5 a0_6) else (if a0_1 > a0_5 then (swarfref44_Valid.j0 k (a0_0 == 83000) true a0_0 a0_1 a0_2 a0_3 a0_4 a0_5 a0_6) else (if a0_4 < 1 then (swarfref44_Valid.j0 k (a0_0 == 83000) true a0_0 a0_1 a0_2 a0_3 a0_4 a0_5 a0_6) else (if a0_4 > 1000000000000 then (swarfref44_Valid.j0 k (a0_0 == 83000) true a0_0 a0_1 a0_2 a0_3 a0_4 a0_5 a0_6) else (swarfref44_Valid.j0 k (a0_0 == 83000) (decide (a0_3 < 1)) a0_0 a0_1 a0_2 a0_3 a0_4 a0_5 a0_6))))) else (swarfref44_Valid.j0 k (a0_0 == 83000) true a0_0 a0_1 a0_2 a0_3 a0_4 a0_5 a0_6)))
theorem swarfref44_Valid.mono_l : ∀ k, (∀ y0 y1 y2 y3 y4 y5 y6 y7 y8, LeO (swarfref44_Valid.j0 k y0 y1 y2 y3 y4 y5 y6 y7 y8) (swarfref44_Valid.j0 (k + 1) y0 y1 y2 y3 y4 y5 y6 y7 y8)) ∧ (∀ y0 y1 y2 y3 y4 y5 y6 y7 y8, LeO (swarfref44_Valid.j1 k y0 y1 y2 y3 y4 y5 y6 y7 y8) (swarfref44_Valid.j1 (k + 1) y0 y1 y2 y3 y4 y5 y6 y7 y8)) ∧ (∀ y0 y1 y2 y3 y4 y5 y6 y7 y8, LeO (swarfref44_Valid.l0 k y0 y1 y2 y3 y4 y5 y6 y7 y8) (swarfref44_Valid.l0 (k + 1) y0 y1 y2 y3 y4 y5 y6 y7 y8))
  | 0 => ⟨fun _ _ _ _ _ _ _ _ _ r h => by simp [swarfref44_Valid.j0] at h, fun _ _ _ _ _ _ _ _ _ r h => by simp [swarfref44_Valid.j1] at h, fun _ _ _ _ _ _ _ _ _ r h => by simp [swarfref44_Valid.l0] at h⟩
  | k + 1 => by
    obtain ⟨ih0, ih1, ih2⟩ := swarfref44_Valid.mono_l k
    refine ⟨?_, ?_, ?_⟩
    · intro y0 y1 y2 y3 y4 y5 y6 y7 y8
      unfold swarfref44_Valid.j0
      repeat' first
      | (with_reducible exact ih0 _ _ _ _ _ _ _ _ _)
      | (with_reducible exact ih1 _ _ _ _ _ _ _ _ _)
      | (with_reducible exact ih2 _ _ _ _ _ _ _ _ _)
      | (with_reducible exact LeO.refl _)
      | (with_reducible exact LeO.none _)
      | (with_reducible refine LeO.ite ?_ ?_)
      | (with_reducible refine LeO.bind ?_ (fun _ => ?_))
      | exact ih0 _ _ _ _ _ _ _ _ _
      | exact ih1 _ _ _ _ _ _ _ _ _
      | exact ih2 _ _ _ _ _ _ _ _ _
      | exact LeO.none _
      | refine LeO.ite ?_ ?_
      | refine LeO.bind ?_ (fun _ => ?_)
    · intro y0 y1 y2 y3 y4 y5 y6 y7 y8
      unfold swarfref44_Valid.j1
      repeat' first
      | (with_reducible exact ih0 _ _ _ _ _ _ _ _ _)
      | (with_reducible exact ih1 _ _ _ _ _ _ _ _ _)
      | (with_reducible exact ih2 _ _ _ _ _ _ _ _ _)
      | (with_reducible exact LeO.refl _)
      | (with_reducible exact LeO.none _)
      | (with_reducible refine LeO.ite ?_ ?_)
      | (with_reducible refine LeO.bind ?_ (fun _ => ?_))
      | exact ih0 _ _ _ _ _ _ _ _ _
      | exact ih1 _ _ _ _ _ _ _ _ _
      | exact ih2 _ _ _ _ _ _ _ _ _
      | exact LeO.none _
      | refine LeO.ite ?_ ?_
      | refine LeO.bind ?_ (fun _ => ?_)
    · intro y0 y1 y2 y3 y4 y5 y6 y7 y8
      unfold swarfref44_Valid.l0
      repeat' first
      | (with_reducible exact ih0 _ _ _ _ _ _ _ _ _)
      | (with_reducible exact ih1 _ _ _ _ _ _ _ _ _)
      | (with_reducible exact ih2 _ _ _ _ _ _ _ _ _)
      | (with_reducible exact LeO.refl _)
      | (with_reducible exact LeO.none _)
      | (with_reducible refine LeO.ite ?_ ?_)
      | (with_reducible refine LeO.bind ?_ (fun _ => ?_))
      | exact ih0 _ _ _ _ _ _ _ _ _
      | exact ih1 _ _ _ _ _ _ _ _ _
      | exact ih2 _ _ _ _ _ _ _ _ _
      | exact LeO.none _
      | refine LeO.ite ?_ ?_
      | refine LeO.bind ?_ (fun _ => ?_)
theorem swarfref44_Valid.mono : ∀ a0 a1 a2 a3 a4 a5 a6 k, LeO (swarfref44_Valid.f k a0 a1 a2 a3 a4 a5 a6) (swarfref44_Valid.f (k + 1) a0 a1 a2 a3 a4 a5 a6) := by
  intro a0 a1 a2 a3 a4 a5 a6 k
  obtain ⟨ih0, ih1, ih2⟩ := swarfref44_Valid.mono_l k
  unfold swarfref44_Valid.f
  repeat' first
      | (with_reducible exact ih0 _ _ _ _ _ _ _ _ _)
      | (with_reducible exact ih1 _ _ _ _ _ _ _ _ _)
      | (with_reducible exact ih2 _ _ _ _ _ _ _ _ _)
      | (with_reducible exact LeO.refl _)
      | (with_reducible exact LeO.none _)
      | (with_reducible refine LeO.ite ?_ ?_)
      | (with_reducible refine LeO.bind ?_ (fun _ => ?_))
      | exact ih0 _ _ _ _ _ _ _ _ _
      | exact ih1 _ _ _ _ _ _ _ _ _
      | exact ih2 _ _ _ _ _ _ _ _ _
      | exact LeO.none _
      | refine LeO.ite ?_ ?_
      | refine LeO.bind ?_ (fun _ => ?_)
set_option maxHeartbeats 8000000 in
set_option maxRecDepth 100000 in
theorem swarfref44_Valid.calls (k : Nat) (a0_0 : Int) (a0_1 : Int) (a0_2 : Int) (a0_3 : Int) (a0_4 : Int) (a0_5 : Int) (a0_6 : Bool) (r : Int) (w : World) (h : swarfref44_Valid.f k a0_0 a0_1 a0_2 a0_3 a0_4 a0_5 a0_6 = some r) :
    Calls Try.prog 13 #[.agg #[.int .i64 a0_0, .int .i64 a0_1, .int .i64 a0_2, .int .i64 a0_3, .int .i64 a0_4, .int .i64 a0_5, .bool a0_6]] w fun e w' => e = .returned (.int .i64 r) ∧ Below w.heap.size w w' := by
  have hu23 := Try.underlying23
  have HB := Aside0.mk (Below.refl w.heap.size w)
  have H : (if a0_0 = 81000 then (if a0_2 ≥ a0_1 then (swarfref44_Valid.j0 k (a0_0 == 83000) true a0_0 a0_1 a0_2 a0_3 a0_4 a0_5 a0_6) else (if a0_1 > a0_5 then (swarfref44_Valid.j0 k (a0_0 == 83000) true a0_0 a0_1 a0_2 a0_3 a0_4 a0_5 a0_6) else (if a0_4 < 1 then (swarfref44_Valid.j0 k (a0_0 == 83000) true a0_0 a0_1 a0_2 a0_3 a0_4 a0_5 a0_6) else (if a0_4 > 1000000000000 then (swarfref44_Valid.j0 k (a0_0 == 83000) true a0_0 a0_1 a0_2 a0_3 a0_4 a0_5 a0_6) else (if a0_0 = 83000 then (swarfref44_Valid.j0 k (a0_0 == 83000) (decide (a0_3 < 1)) a0_0 a0_1 a0_2 a0_3 a0_4 a0_5 a0_6) else (swarfref44_Valid.j0 k (a0_0 == 83000) false a0_0 a0_1 a0_2 a0_3 a0_4 a0_5 a0_6)))))) else (if a0_0 = 82000 then (if a0_2 ≥ a0_1 then (swarfref44_Valid.j0 k (a0_0 == 83000) true a0_0 a0_1 a0_2 a0_3 a0_4 a0_5 a0_6) else (if a0_1 > a0_5 then (swarfref44_Valid.j0 k (a0_0 == 83000) true a0_0 a0_1 a0_2 a0_3 a0_4 a0_5 a0_6) else (if a0_4 < 1 then (swarfref44_Valid.j0 k (a0_0 == 83000) true a0_0 a0_1 a0_2 a0_3 a0_4 a0_5 a0_6) else (if a0_4 > 1000000000000 then (swarfref44_Valid.j0 k (a0_0 == 83000) true a0_0 a0_1 a0_2 a0_3 a0_4 a0_5 a0_6) else (if a0_0 = 83000 then (swarfref44_Valid.j0 k (a0_0 == 83000) (decide (a0_3 < 1)) a0_0 a0_1 a0_2 a0_3 a0_4 a0_5 a0_6) else (swarfref44_Valid.j0 k (a0_0 == 83000) false a0_0 a0_1 a0_2 a0_3 a0_4 a0_5 a0_6)))))) else (if a0_0 = 83000 then (if a0_2 ≥ a0_1 then (swarfref44_Valid.j0 k (a0_0 == 83000) true a0_0 a0_1 a0_2 a0_3 a0_4 a0_5 a0_6) else (if a0_1 > a0_5 then (swarfref44_Valid.j0 k (a0_0 == 83000) true a0_0 a0_1 a0_2 a0_3 a0_4 a0_5 a0_6) else (if a0_4 < 1 then (swarfref44_Valid.j0 k (a0_0 == 83000) true a0_0 a0_1 a0_2 a0_3 a0_4 a0_5 a0_6) else (if a0_4 > 1000000000000 then (swarfref44_Valid.j0 k (a0_0 == 83000) true a0_0 a0_1 a0_2 a0_3 a0_4 a0_5 a0_6) else (swarfref44_Valid.j0 k (a0_0 == 83000) (decide (a0_3 < 1)) a0_0 a0_1 a0_2 a0_3 a0_4 a0_5 a0_6))))) else (swarfref44_Valid.j0 k (a0_0 == 83000) true a0_0 a0_1 a0_2 a0_3 a0_4 a0_5 a0_6)))) = some r := h
  clear h
  have HC2 := Aside0.mk H
  clear H
  go_enter Try.func13, Try.ntmps13
  go_upto_region 2 with (first | ((with_reducible refine gate_dst (N := 1) rfl ?_); refine box_event ?hg (N := 1) ?hd (cs := #[.int .i64 a0_0, .int .i64 a0_1, .int .i64 a0_2, .int .i64 a0_3, .int .i64 a0_4, .int .i64 a0_5, .bool a0_6]) (t := 23) ?hr ?_; (case hd => rfl); (case hg => rfl); (case hr => first | (go_simp; done) | (go_simp; rfl)); intro gb189 hg w3 hbox hb; have n0_ := Aside0.mk (below_step (by repeat (first | (with_reducible first | exact HB.out | apply below_alloc | apply pw_below_drewN | apply below_drew1) | exact HB.out)) hb); have n1_ := Aside0.mk (hbox); have n2_ := Aside0.mk ((by rw [hg]; exact (below_size (by repeat (first | (with_reducible first | exact HB.out | apply below_alloc | apply pw_below_drewN | apply below_drew1) | exact HB.out))) : w.heap.size ≤ gb189)); have n3_ := Aside0.mk ((by rw [hg]; exact (below_size (by repeat (first | (with_reducible first | exact HB.out | apply below_alloc | apply pw_below_drewN | apply below_drew1) | exact HB.out))) : w.heap.size ≤ gb189)); clear HB; have HB := n0_; have BK189 := n1_; have GW189 := n2_; have GE189 := n3_; clear n0_ n1_ n2_ n3_; clear hb hbox hg; have hcz4_0 : w3.cell? ⟨gb189, 0, none⟩ = some (.int .i64 a0_0) := (blk_cell BK189.out 0).trans rfl; have hcz4_1 : w3.cell? ⟨gb189, 1, none⟩ = some (.int .i64 a0_1) := (blk_cell BK189.out 1).trans rfl; have hcz4_2 : w3.cell? ⟨gb189, 2, none⟩ = some (.int .i64 a0_2) := (blk_cell BK189.out 2).trans rfl; have hcz4_3 : w3.cell? ⟨gb189, 3, none⟩ = some (.int .i64 a0_3) := (blk_cell BK189.out 3).trans rfl; have hcz4_4 : w3.cell? ⟨gb189, 4, none⟩ = some (.int .i64 a0_4) := (blk_cell BK189.out 4).trans rfl; have hcz4_5 : w3.cell? ⟨gb189, 5, none⟩ = some (.int .i64 a0_5) := (blk_cell BK189.out 5).trans rfl; have hcz4_6 : w3.cell? ⟨gb189, 6, none⟩ = some (.bool a0_6) := (blk_cell BK189.out 6).trans rfl; have hfz4_0 := blk_frozen BK189.out 0; have hfz4_1 := blk_frozen BK189.out 1; have hfz4_2 := blk_frozen BK189.out 2; have hfz4_3 := blk_frozen BK189.out 3; have hfz4_4 := blk_frozen BK189.out 4; have hfz4_5 := blk_frozen BK189.out 5; have hfz4_6 := blk_frozen BK189.out 6))
  (try simp only [Act.put, List.setIfInBounds_toArray, List.set_cons_zero, List.set_cons_succ])
  go_cut [3, 52] (fun v3 v52 wc => ∃ (kq : Nat) (x3_1 : Bool) (x52_1 : Bool), v3 = .bool x3_1 ∧ v52 = .bool x52_1 ∧ Aside0 (swarfref44_Valid.j0 kq x3_1 x52_1 a0_0 a0_1 a0_2 a0_3 a0_4 a0_5 a0_6 = some r) ∧ Aside0 (kq ≤ k) ∧ Aside0 (wc.heap[gb189]? = some (.cells #[.int .i64 a0_0, .int .i64 a0_1, .int .i64 a0_2, .int .i64 a0_3, .int .i64 a0_4, .int .i64 a0_5, .bool a0_6] 23 (0, 0))) ∧ Aside0 (Below w.heap.size w wc))
  case first =>
    have H := HC2.out
    clear HC2
    by_cases c5 : a0_0 = 81000
    · rw [if_pos c5] at H
      have c5b0 : (a0_0 == 81000) = true := beq_iff_eq.mpr c5
      have c5b1 : (a0_0 != 81000) = false := bne_eq_false_iff_eq.mpr c5
      clear c5
      (first | rw [c5b0] | (simp only [i64_w, i32_w]; rw [c5b0]) | skip)
      by_cases c6 : a0_2 ≥ a0_1
      · rw [if_pos c6] at H
        have c6b0 : decide (a0_1 ≤ a0_2) = true := decide_eq_true c6
        clear c6
        have H' := Aside0.mk H
        clear H
        have hcz7_0 : w3.cell? ⟨gb189, 0, none⟩ = some (.int .i64 a0_0) := (blk_cell BK189.out 0).trans rfl
        have hcz7_1 : w3.cell? ⟨gb189, 1, none⟩ = some (.int .i64 a0_1) := (blk_cell BK189.out 1).trans rfl
        have hcz7_2 : w3.cell? ⟨gb189, 2, none⟩ = some (.int .i64 a0_2) := (blk_cell BK189.out 2).trans rfl
        have hcz7_3 : w3.cell? ⟨gb189, 3, none⟩ = some (.int .i64 a0_3) := (blk_cell BK189.out 3).trans rfl
        have hcz7_4 : w3.cell? ⟨gb189, 4, none⟩ = some (.int .i64 a0_4) := (blk_cell BK189.out 4).trans rfl
        have hcz7_5 : w3.cell? ⟨gb189, 5, none⟩ = some (.int .i64 a0_5) := (blk_cell BK189.out 5).trans rfl
        have hcz7_6 : w3.cell? ⟨gb189, 6, none⟩ = some (.bool a0_6) := (blk_cell BK189.out 6).trans rfl
        have hfz7_0 := blk_frozen BK189.out 0
        have hfz7_1 := blk_frozen BK189.out 1
        have hfz7_2 := blk_frozen BK189.out 2
        have hfz7_3 := blk_frozen BK189.out 3
        have hfz7_4 := blk_frozen BK189.out 4
        have hfz7_5 := blk_frozen BK189.out 5
        have hfz7_6 := blk_frozen BK189.out 6
        go_wp2
        go_meet
        case rel => exact ⟨_, ((a0_0 == 83000)), (true), (by first | rfl | (simp; done) | (simp [*]; done)), (by first | rfl | (simp; done) | (simp [*]; done)), H', ⟨by first | omega | exact Nat.le_refl _⟩, ⟨by (with_reducible repeat (first | refine blk_drewN ?_ _ | refine blk_drew ?_ | refine blk_alloc ?_ _)); exact BK189.out⟩, ⟨by repeat (first | (with_reducible first | exact HB.out | apply below_alloc | apply pw_below_drewN | apply below_drew1 | refine below_set ?_ GE189.out) | exact HB.out)⟩⟩
      · rw [if_neg c6] at H
        have c6b0 : decide (a0_1 ≤ a0_2) = false := decide_eq_false c6
        clear c6
        by_cases c8 : a0_1 > a0_5
        · rw [if_pos c8] at H
          have c8b0 : decide (a0_5 < a0_1) = true := decide_eq_true c8
          clear c8
          have H' := Aside0.mk H
          clear H
          have hcz9_0 : w3.cell? ⟨gb189, 0, none⟩ = some (.int .i64 a0_0) := (blk_cell BK189.out 0).trans rfl
          have hcz9_1 : w3.cell? ⟨gb189, 1, none⟩ = some (.int .i64 a0_1) := (blk_cell BK189.out 1).trans rfl
          have hcz9_2 : w3.cell? ⟨gb189, 2, none⟩ = some (.int .i64 a0_2) := (blk_cell BK189.out 2).trans rfl
          have hcz9_3 : w3.cell? ⟨gb189, 3, none⟩ = some (.int .i64 a0_3) := (blk_cell BK189.out 3).trans rfl
          have hcz9_4 : w3.cell? ⟨gb189, 4, none⟩ = some (.int .i64 a0_4) := (blk_cell BK189.out 4).trans rfl
          have hcz9_5 : w3.cell? ⟨gb189, 5, none⟩ = some (.int .i64 a0_5) := (blk_cell BK189.out 5).trans rfl
          have hcz9_6 : w3.cell? ⟨gb189, 6, none⟩ = some (.bool a0_6) := (blk_cell BK189.out 6).trans rfl
          have hfz9_0 := blk_frozen BK189.out 0
          have hfz9_1 := blk_frozen BK189.out 1
          have hfz9_2 := blk_frozen BK189.out 2
          have hfz9_3 := blk_frozen BK189.out 3
          have hfz9_4 := blk_frozen BK189.out 4
          have hfz9_5 := blk_frozen BK189.out 5
          have hfz9_6 := blk_frozen BK189.out 6
          go_wp2
          go_meet
          case rel => exact ⟨_, ((a0_0 == 83000)), (true), (by first | rfl | (simp; done) | (simp [*]; done)), (by first | rfl | (simp; done) | (simp [*]; done)), H', ⟨by first | omega | exact Nat.le_refl _⟩, ⟨by (with_reducible repeat (first | refine blk_drewN ?_ _ | refine blk_drew ?_ | refine blk_alloc ?_ _)); exact BK189.out⟩, ⟨by repeat (first | (with_reducible first | exact HB.out | apply below_alloc | apply pw_below_drewN | apply below_drew1 | refine below_set ?_ GE189.out) | exact HB.out)⟩⟩
        · rw [if_neg c8] at H
          have c8b0 : decide (a0_5 < a0_1) = false := decide_eq_false c8
          clear c8
          by_cases c10 : a0_4 < 1
          · rw [if_pos c10] at H
            have c10b0 : decide (a0_4 < 1) = true := decide_eq_true c10
            clear c10
            have H' := Aside0.mk H
            clear H
            have hcz11_0 : w3.cell? ⟨gb189, 0, none⟩ = some (.int .i64 a0_0) := (blk_cell BK189.out 0).trans rfl
            have hcz11_1 : w3.cell? ⟨gb189, 1, none⟩ = some (.int .i64 a0_1) := (blk_cell BK189.out 1).trans rfl
            have hcz11_2 : w3.cell? ⟨gb189, 2, none⟩ = some (.int .i64 a0_2) := (blk_cell BK189.out 2).trans rfl
            have hcz11_3 : w3.cell? ⟨gb189, 3, none⟩ = some (.int .i64 a0_3) := (blk_cell BK189.out 3).trans rfl
            have hcz11_4 : w3.cell? ⟨gb189, 4, none⟩ = some (.int .i64 a0_4) := (blk_cell BK189.out 4).trans rfl
            have hcz11_5 : w3.cell? ⟨gb189, 5, none⟩ = some (.int .i64 a0_5) := (blk_cell BK189.out 5).trans rfl
            have hcz11_6 : w3.cell? ⟨gb189, 6, none⟩ = some (.bool a0_6) := (blk_cell BK189.out 6).trans rfl
            have hfz11_0 := blk_frozen BK189.out 0
            have hfz11_1 := blk_frozen BK189.out 1
            have hfz11_2 := blk_frozen BK189.out 2
            have hfz11_3 := blk_frozen BK189.out 3
            have hfz11_4 := blk_frozen BK189.out 4
            have hfz11_5 := blk_frozen BK189.out 5
            have hfz11_6 := blk_frozen BK189.out 6
            go_wp2
            go_meet
            case rel => exact ⟨_, ((a0_0 == 83000)), (true), (by first | rfl | (simp; done) | (simp [*]; done)), (by first | rfl | (simp; done) | (simp [*]; done)), H', ⟨by first | omega | exact Nat.le_refl _⟩, ⟨by (with_reducible repeat (first | refine blk_drewN ?_ _ | refine blk_drew ?_ | refine blk_alloc ?_ _)); exact BK189.out⟩, ⟨by repeat (first | (with_reducible first | exact HB.out | apply below_alloc | apply pw_below_drewN | apply below_drew1 | refine below_set ?_ GE189.out) | exact HB.out)⟩⟩
          · rw [if_neg c10] at H
            have c10b0 : decide (a0_4 < 1) = false := decide_eq_false c10
            clear c10
            by_cases c12 : a0_4 > 1000000000000
            · rw [if_pos c12] at H
              have c12b0 : decide (1000000000000 < a0_4) = true := decide_eq_true c12
              clear c12
              have H' := Aside0.mk H
              clear H
              have hcz13_0 : w3.cell? ⟨gb189, 0, none⟩ = some (.int .i64 a0_0) := (blk_cell BK189.out 0).trans rfl
              have hcz13_1 : w3.cell? ⟨gb189, 1, none⟩ = some (.int .i64 a0_1) := (blk_cell BK189.out 1).trans rfl
              have hcz13_2 : w3.cell? ⟨gb189, 2, none⟩ = some (.int .i64 a0_2) := (blk_cell BK189.out 2).trans rfl
              have hcz13_3 : w3.cell? ⟨gb189, 3, none⟩ = some (.int .i64 a0_3) := (blk_cell BK189.out 3).trans rfl
              have hcz13_4 : w3.cell? ⟨gb189, 4, none⟩ = some (.int .i64 a0_4) := (blk_cell BK189.out 4).trans rfl
              have hcz13_5 : w3.cell? ⟨gb189, 5, none⟩ = some (.int .i64 a0_5) := (blk_cell BK189.out 5).trans rfl
              have hcz13_6 : w3.cell? ⟨gb189, 6, none⟩ = some (.bool a0_6) := (blk_cell BK189.out 6).trans rfl
              have hfz13_0 := blk_frozen BK189.out 0
              have hfz13_1 := blk_frozen BK189.out 1
              have hfz13_2 := blk_frozen BK189.out 2
              have hfz13_3 := blk_frozen BK189.out 3
              have hfz13_4 := blk_frozen BK189.out 4
              have hfz13_5 := blk_frozen BK189.out 5
              have hfz13_6 := blk_frozen BK189.out 6
              go_wp2
              go_meet
              case rel => exact ⟨_, ((a0_0 == 83000)), (true), (by first | rfl | (simp; done) | (simp [*]; done)), (by first | rfl | (simp; done) | (simp [*]; done)), H', ⟨by first | omega | exact Nat.le_refl _⟩, ⟨by (with_reducible repeat (first | refine blk_drewN ?_ _ | refine blk_drew ?_ | refine blk_alloc ?_ _)); exact BK189.out⟩, ⟨by repeat (first | (with_reducible first | exact HB.out | apply below_alloc | apply pw_below_drewN | apply below_drew1 | refine below_set ?_ GE189.out) | exact HB.out)⟩⟩
            · rw [if_neg c12] at H
              have c12b0 : decide (1000000000000 < a0_4) = false := decide_eq_false c12
              clear c12
              by_cases c14 : a0_0 = 83000
              · rw [if_pos c14] at H
                have c14b0 : (a0_0 == 83000) = true := beq_iff_eq.mpr c14
                have c14b1 : (a0_0 != 83000) = false := bne_eq_false_iff_eq.mpr c14
                clear c14
                have H' := Aside0.mk H
                clear H
                have hcz15_0 : w3.cell? ⟨gb189, 0, none⟩ = some (.int .i64 a0_0) := (blk_cell BK189.out 0).trans rfl
                have hcz15_1 : w3.cell? ⟨gb189, 1, none⟩ = some (.int .i64 a0_1) := (blk_cell BK189.out 1).trans rfl
                have hcz15_2 : w3.cell? ⟨gb189, 2, none⟩ = some (.int .i64 a0_2) := (blk_cell BK189.out 2).trans rfl
                have hcz15_3 : w3.cell? ⟨gb189, 3, none⟩ = some (.int .i64 a0_3) := (blk_cell BK189.out 3).trans rfl
                have hcz15_4 : w3.cell? ⟨gb189, 4, none⟩ = some (.int .i64 a0_4) := (blk_cell BK189.out 4).trans rfl
                have hcz15_5 : w3.cell? ⟨gb189, 5, none⟩ = some (.int .i64 a0_5) := (blk_cell BK189.out 5).trans rfl
                have hcz15_6 : w3.cell? ⟨gb189, 6, none⟩ = some (.bool a0_6) := (blk_cell BK189.out 6).trans rfl
                have hfz15_0 := blk_frozen BK189.out 0
                have hfz15_1 := blk_frozen BK189.out 1
                have hfz15_2 := blk_frozen BK189.out 2
                have hfz15_3 := blk_frozen BK189.out 3
                have hfz15_4 := blk_frozen BK189.out 4
                have hfz15_5 := blk_frozen BK189.out 5
                have hfz15_6 := blk_frozen BK189.out 6
                go_wp2
                go_meet
                case rel => exact ⟨_, ((a0_0 == 83000)), (decide (a0_3 < 1)), (by first | rfl | (simp; done) | (simp [*]; done)), (by first | rfl | (simp; done) | (simp [*]; done)), H', ⟨by first | omega | exact Nat.le_refl _⟩, ⟨by (with_reducible repeat (first | refine blk_drewN ?_ _ | refine blk_drew ?_ | refine blk_alloc ?_ _)); exact BK189.out⟩, ⟨by repeat (first | (with_reducible first | exact HB.out | apply below_alloc | apply pw_below_drewN | apply below_drew1 | refine below_set ?_ GE189.out) | exact HB.out)⟩⟩
              · rw [if_neg c14] at H
                have c14b0 : (a0_0 == 83000) = false := beq_eq_false_iff_ne.mpr c14
                have c14b1 : (a0_0 != 83000) = true := bne_iff_ne.mpr c14
                have H' := Aside0.mk H
                clear H
                have hcz16_0 : w3.cell? ⟨gb189, 0, none⟩ = some (.int .i64 a0_0) := (blk_cell BK189.out 0).trans rfl
                have hcz16_1 : w3.cell? ⟨gb189, 1, none⟩ = some (.int .i64 a0_1) := (blk_cell BK189.out 1).trans rfl
                have hcz16_2 : w3.cell? ⟨gb189, 2, none⟩ = some (.int .i64 a0_2) := (blk_cell BK189.out 2).trans rfl
                have hcz16_3 : w3.cell? ⟨gb189, 3, none⟩ = some (.int .i64 a0_3) := (blk_cell BK189.out 3).trans rfl
                have hcz16_4 : w3.cell? ⟨gb189, 4, none⟩ = some (.int .i64 a0_4) := (blk_cell BK189.out 4).trans rfl
                have hcz16_5 : w3.cell? ⟨gb189, 5, none⟩ = some (.int .i64 a0_5) := (blk_cell BK189.out 5).trans rfl
                have hcz16_6 : w3.cell? ⟨gb189, 6, none⟩ = some (.bool a0_6) := (blk_cell BK189.out 6).trans rfl
                have hfz16_0 := blk_frozen BK189.out 0
                have hfz16_1 := blk_frozen BK189.out 1
                have hfz16_2 := blk_frozen BK189.out 2
                have hfz16_3 := blk_frozen BK189.out 3
                have hfz16_4 := blk_frozen BK189.out 4
                have hfz16_5 := blk_frozen BK189.out 5
                have hfz16_6 := blk_frozen BK189.out 6
                go_wp2
                go_meet
                case rel => exact ⟨_, ((a0_0 == 83000)), (false), (by first | rfl | (simp; done) | (simp [*]; done)), (by first | rfl | (simp; done) | (simp [*]; done)), H', ⟨by first | omega | exact Nat.le_refl _⟩, ⟨by (with_reducible repeat (first | refine blk_drewN ?_ _ | refine blk_drew ?_ | refine blk_alloc ?_ _)); exact BK189.out⟩, ⟨by repeat (first | (with_reducible first | exact HB.out | apply below_alloc | apply pw_below_drewN | apply below_drew1 | refine below_set ?_ GE189.out) | exact HB.out)⟩⟩
    · rw [if_neg c5] at H
      have c5b0 : (a0_0 == 81000) = false := beq_eq_false_iff_ne.mpr c5
      have c5b1 : (a0_0 != 81000) = true := bne_iff_ne.mpr c5
      (first | rw [c5b0] | (simp only [i64_w, i32_w]; rw [c5b0]) | skip)
      by_cases c17 : a0_0 = 82000
      · rw [if_pos c17] at H
        have c17b0 : (a0_0 == 82000) = true := beq_iff_eq.mpr c17
        have c17b1 : (a0_0 != 82000) = false := bne_eq_false_iff_eq.mpr c17
        clear c17
        by_cases c18 : a0_2 ≥ a0_1
        · rw [if_pos c18] at H
          have c18b0 : decide (a0_1 ≤ a0_2) = true := decide_eq_true c18
          clear c18
          have H' := Aside0.mk H
          clear H
          have hcz19_0 : w3.cell? ⟨gb189, 0, none⟩ = some (.int .i64 a0_0) := (blk_cell BK189.out 0).trans rfl
          have hcz19_1 : w3.cell? ⟨gb189, 1, none⟩ = some (.int .i64 a0_1) := (blk_cell BK189.out 1).trans rfl
          have hcz19_2 : w3.cell? ⟨gb189, 2, none⟩ = some (.int .i64 a0_2) := (blk_cell BK189.out 2).trans rfl
          have hcz19_3 : w3.cell? ⟨gb189, 3, none⟩ = some (.int .i64 a0_3) := (blk_cell BK189.out 3).trans rfl
          have hcz19_4 : w3.cell? ⟨gb189, 4, none⟩ = some (.int .i64 a0_4) := (blk_cell BK189.out 4).trans rfl
          have hcz19_5 : w3.cell? ⟨gb189, 5, none⟩ = some (.int .i64 a0_5) := (blk_cell BK189.out 5).trans rfl
          have hcz19_6 : w3.cell? ⟨gb189, 6, none⟩ = some (.bool a0_6) := (blk_cell BK189.out 6).trans rfl
          have hfz19_0 := blk_frozen BK189.out 0
          have hfz19_1 := blk_frozen BK189.out 1
          have hfz19_2 := blk_frozen BK189.out 2
          have hfz19_3 := blk_frozen BK189.out 3
          have hfz19_4 := blk_frozen BK189.out 4
          have hfz19_5 := blk_frozen BK189.out 5
          have hfz19_6 := blk_frozen BK189.out 6
          go_wp2
          go_meet
          case rel => exact ⟨_, ((a0_0 == 83000)), (true), (by first | rfl | (simp; done) | (simp [*]; done)), (by first | rfl | (simp; done) | (simp [*]; done)), H', ⟨by first | omega | exact Nat.le_refl _⟩, ⟨by (with_reducible repeat (first | refine blk_drewN ?_ _ | refine blk_drew ?_ | refine blk_alloc ?_ _)); exact BK189.out⟩, ⟨by repeat (first | (with_reducible first | exact HB.out | apply below_alloc | apply pw_below_drewN | apply below_drew1 | refine below_set ?_ GE189.out) | exact HB.out)⟩⟩
        · rw [if_neg c18] at H
          have c18b0 : decide (a0_1 ≤ a0_2) = false := decide_eq_false c18
          clear c18
          by_cases c20 : a0_1 > a0_5
          · rw [if_pos c20] at H
            have c20b0 : decide (a0_5 < a0_1) = true := decide_eq_true c20
            clear c20
            have H' := Aside0.mk H
            clear H
            have hcz21_0 : w3.cell? ⟨gb189, 0, none⟩ = some (.int .i64 a0_0) := (blk_cell BK189.out 0).trans rfl
            have hcz21_1 : w3.cell? ⟨gb189, 1, none⟩ = some (.int .i64 a0_1) := (blk_cell BK189.out 1).trans rfl
            have hcz21_2 : w3.cell? ⟨gb189, 2, none⟩ = some (.int .i64 a0_2) := (blk_cell BK189.out 2).trans rfl
            have hcz21_3 : w3.cell? ⟨gb189, 3, none⟩ = some (.int .i64 a0_3) := (blk_cell BK189.out 3).trans rfl
            have hcz21_4 : w3.cell? ⟨gb189, 4, none⟩ = some (.int .i64 a0_4) := (blk_cell BK189.out 4).trans rfl
            have hcz21_5 : w3.cell? ⟨gb189, 5, none⟩ = some (.int .i64 a0_5) := (blk_cell BK189.out 5).trans rfl
            have hcz21_6 : w3.cell? ⟨gb189, 6, none⟩ = some (.bool a0_6) := (blk_cell BK189.out 6).trans rfl
            have hfz21_0 := blk_frozen BK189.out 0
            have hfz21_1 := blk_frozen BK189.out 1
            have hfz21_2 := blk_frozen BK189.out 2
            have hfz21_3 := blk_frozen BK189.out 3
            have hfz21_4 := blk_frozen BK189.out 4
            have hfz21_5 := blk_frozen BK189.out 5
            have hfz21_6 := blk_frozen BK189.out 6
            go_wp2
            go_meet
            case rel => exact ⟨_, ((a0_0 == 83000)), (true), (by first | rfl | (simp; done) | (simp [*]; done)), (by first | rfl | (simp; done) | (simp [*]; done)), H', ⟨by first | omega | exact Nat.le_refl _⟩, ⟨by (with_reducible repeat (first | refine blk_drewN ?_ _ | refine blk_drew ?_ | refine blk_alloc ?_ _)); exact BK189.out⟩, ⟨by repeat (first | (with_reducible first | exact HB.out | apply below_alloc | apply pw_below_drewN | apply below_drew1 | refine below_set ?_ GE189.out) | exact HB.out)⟩⟩
          · rw [if_neg c20] at H
            have c20b0 : decide (a0_5 < a0_1) = false := decide_eq_false c20
            clear c20
            by_cases c22 : a0_4 < 1
            · rw [if_pos c22] at H
              have c22b0 : decide (a0_4 < 1) = true := decide_eq_true c22
              clear c22
              have H' := Aside0.mk H
              clear H
              have hcz23_0 : w3.cell? ⟨gb189, 0, none⟩ = some (.int .i64 a0_0) := (blk_cell BK189.out 0).trans rfl
              have hcz23_1 : w3.cell? ⟨gb189, 1, none⟩ = some (.int .i64 a0_1) := (blk_cell BK189.out 1).trans rfl
              have hcz23_2 : w3.cell? ⟨gb189, 2, none⟩ = some (.int .i64 a0_2) := (blk_cell BK189.out 2).trans rfl
              have hcz23_3 : w3.cell? ⟨gb189, 3, none⟩ = some (.int .i64 a0_3) := (blk_cell BK189.out 3).trans rfl
              have hcz23_4 : w3.cell? ⟨gb189, 4, none⟩ = some (.int .i64 a0_4) := (blk_cell BK189.out 4).trans rfl
              have hcz23_5 : w3.cell? ⟨gb189, 5, none⟩ = some (.int .i64 a0_5) := (blk_cell BK189.out 5).trans rfl
              have hcz23_6 : w3.cell? ⟨gb189, 6, none⟩ = some (.bool a0_6) := (blk_cell BK189.out 6).trans rfl
              have hfz23_0 := blk_frozen BK189.out 0
              have hfz23_1 := blk_frozen BK189.out 1
              have hfz23_2 := blk_frozen BK189.out 2
              have hfz23_3 := blk_frozen BK189.out 3
              have hfz23_4 := blk_frozen BK189.out 4
              have hfz23_5 := blk_frozen BK189.out 5
              have hfz23_6 := blk_frozen BK189.out 6
              go_wp2
              go_meet
              case rel => exact ⟨_, ((a0_0 == 83000)), (true), (by first | rfl | (simp; done) | (simp [*]; done)), (by first | rfl | (simp; done) | (simp [*]; done)), H', ⟨by first | omega | exact Nat.le_refl _⟩, ⟨by (with_reducible repeat (first | refine blk_drewN ?_ _ | refine blk_drew ?_ | refine blk_alloc ?_ _)); exact BK189.out⟩, ⟨by repeat (first | (with_reducible first | exact HB.out | apply below_alloc | apply pw_below_drewN | apply below_drew1 | refine below_set ?_ GE189.out) | exact HB.out)⟩⟩
            · rw [if_neg c22] at H
              have c22b0 : decide (a0_4 < 1) = false := decide_eq_false c22
              clear c22
              by_cases c24 : a0_4 > 1000000000000
              · rw [if_pos c24] at H
                have c24b0 : decide (1000000000000 < a0_4) = true := decide_eq_true c24
                clear c24
                have H' := Aside0.mk H
                clear H
                have hcz25_0 : w3.cell? ⟨gb189, 0, none⟩ = some (.int .i64 a0_0) := (blk_cell BK189.out 0).trans rfl
                have hcz25_1 : w3.cell? ⟨gb189, 1, none⟩ = some (.int .i64 a0_1) := (blk_cell BK189.out 1).trans rfl
                have hcz25_2 : w3.cell? ⟨gb189, 2, none⟩ = some (.int .i64 a0_2) := (blk_cell BK189.out 2).trans rfl
                have hcz25_3 : w3.cell? ⟨gb189, 3, none⟩ = some (.int .i64 a0_3) := (blk_cell BK189.out 3).trans rfl
                have hcz25_4 : w3.cell? ⟨gb189, 4, none⟩ = some (.int .i64 a0_4) := (blk_cell BK189.out 4).trans rfl
                have hcz25_5 : w3.cell? ⟨gb189, 5, none⟩ = some (.int .i64 a0_5) := (blk_cell BK189.out 5).trans rfl
                have hcz25_6 : w3.cell? ⟨gb189, 6, none⟩ = some (.bool a0_6) := (blk_cell BK189.out 6).trans rfl
                have hfz25_0 := blk_frozen BK189.out 0
                have hfz25_1 := blk_frozen BK189.out 1
                have hfz25_2 := blk_frozen BK189.out 2
                have hfz25_3 := blk_frozen BK189.out 3
                have hfz25_4 := blk_frozen BK189.out 4
                have hfz25_5 := blk_frozen BK189.out 5
                have hfz25_6 := blk_frozen BK189.out 6
                go_wp2
                go_meet
                case rel => exact ⟨_, ((a0_0 == 83000)), (true), (by first | rfl | (simp; done) | (simp [*]; done)), (by first | rfl | (simp; done) | (simp [*]; done)), H', ⟨by first | omega | exact Nat.le_refl _⟩, ⟨by (with_reducible repeat (first | refine blk_drewN ?_ _ | refine blk_drew ?_ | refine blk_alloc ?_ _)); exact BK189.out⟩, ⟨by repeat (first | (with_reducible first | exact HB.out | apply below_alloc | apply pw_below_drewN | apply below_drew1 | refine below_set ?_ GE189.out) | exact HB.out)⟩⟩
              · rw [if_neg c24] at H
                have c24b0 : decide (1000000000000 < a0_4) = false := decide_eq_false c24
                clear c24
                by_cases c26 : a0_0 = 83000
                · rw [if_pos c26] at H
                  have c26b0 : (a0_0 == 83000) = true := beq_iff_eq.mpr c26
                  have c26b1 : (a0_0 != 83000) = false := bne_eq_false_iff_eq.mpr c26
                  clear c26
                  have H' := Aside0.mk H
                  clear H
                  have hcz27_0 : w3.cell? ⟨gb189, 0, none⟩ = some (.int .i64 a0_0) := (blk_cell BK189.out 0).trans rfl
                  have hcz27_1 : w3.cell? ⟨gb189, 1, none⟩ = some (.int .i64 a0_1) := (blk_cell BK189.out 1).trans rfl
                  have hcz27_2 : w3.cell? ⟨gb189, 2, none⟩ = some (.int .i64 a0_2) := (blk_cell BK189.out 2).trans rfl
                  have hcz27_3 : w3.cell? ⟨gb189, 3, none⟩ = some (.int .i64 a0_3) := (blk_cell BK189.out 3).trans rfl
                  have hcz27_4 : w3.cell? ⟨gb189, 4, none⟩ = some (.int .i64 a0_4) := (blk_cell BK189.out 4).trans rfl
                  have hcz27_5 : w3.cell? ⟨gb189, 5, none⟩ = some (.int .i64 a0_5) := (blk_cell BK189.out 5).trans rfl
                  have hcz27_6 : w3.cell? ⟨gb189, 6, none⟩ = some (.bool a0_6) := (blk_cell BK189.out 6).trans rfl
                  have hfz27_0 := blk_frozen BK189.out 0
                  have hfz27_1 := blk_frozen BK189.out 1
                  have hfz27_2 := blk_frozen BK189.out 2
                  have hfz27_3 := blk_frozen BK189.out 3
                  have hfz27_4 := blk_frozen BK189.out 4
                  have hfz27_5 := blk_frozen BK189.out 5
                  have hfz27_6 := blk_frozen BK189.out 6
                  go_wp2
                  go_meet
                  case rel => exact ⟨_, ((a0_0 == 83000)), (decide (a0_3 < 1)), (by first | rfl | (simp; done) | (simp [*]; done)), (by first | rfl | (simp; done) | (simp [*]; done)), H', ⟨by first | omega | exact Nat.le_refl _⟩, ⟨by (with_reducible repeat (first | refine blk_drewN ?_ _ | refine blk_drew ?_ | refine blk_alloc ?_ _)); exact BK189.out⟩, ⟨by repeat (first | (with_reducible first | exact HB.out | apply below_alloc | apply pw_below_drewN | apply below_drew1 | refine below_set ?_ GE189.out) | exact HB.out)⟩⟩
                · rw [if_neg c26] at H
                  have c26b0 : (a0_0 == 83000) = false := beq_eq_false_iff_ne.mpr c26
                  have c26b1 : (a0_0 != 83000) = true := bne_iff_ne.mpr c26
                  have H' := Aside0.mk H
                  clear H
                  have hcz28_0 : w3.cell? ⟨gb189, 0, none⟩ = some (.int .i64 a0_0) := (blk_cell BK189.out 0).trans rfl
                  have hcz28_1 : w3.cell? ⟨gb189, 1, none⟩ = some (.int .i64 a0_1) := (blk_cell BK189.out 1).trans rfl
                  have hcz28_2 : w3.cell? ⟨gb189, 2, none⟩ = some (.int .i64 a0_2) := (blk_cell BK189.out 2).trans rfl
                  have hcz28_3 : w3.cell? ⟨gb189, 3, none⟩ = some (.int .i64 a0_3) := (blk_cell BK189.out 3).trans rfl
                  have hcz28_4 : w3.cell? ⟨gb189, 4, none⟩ = some (.int .i64 a0_4) := (blk_cell BK189.out 4).trans rfl
                  have hcz28_5 : w3.cell? ⟨gb189, 5, none⟩ = some (.int .i64 a0_5) := (blk_cell BK189.out 5).trans rfl
                  have hcz28_6 : w3.cell? ⟨gb189, 6, none⟩ = some (.bool a0_6) := (blk_cell BK189.out 6).trans rfl
                  have hfz28_0 := blk_frozen BK189.out 0
                  have hfz28_1 := blk_frozen BK189.out 1
                  have hfz28_2 := blk_frozen BK189.out 2
                  have hfz28_3 := blk_frozen BK189.out 3
                  have hfz28_4 := blk_frozen BK189.out 4
                  have hfz28_5 := blk_frozen BK189.out 5
                  have hfz28_6 := blk_frozen BK189.out 6
                  go_wp2
                  go_meet
                  case rel => exact ⟨_, ((a0_0 == 83000)), (false), (by first | rfl | (simp; done) | (simp [*]; done)), (by first | rfl | (simp; done) | (simp [*]; done)), H', ⟨by first | omega | exact Nat.le_refl _⟩, ⟨by (with_reducible repeat (first | refine blk_drewN ?_ _ | refine blk_drew ?_ | refine blk_alloc ?_ _)); exact BK189.out⟩, ⟨by repeat (first | (with_reducible first | exact HB.out | apply below_alloc | apply pw_below_drewN | apply below_drew1 | refine below_set ?_ GE189.out) | exact HB.out)⟩⟩
      · rw [if_neg c17] at H
        have c17b0 : (a0_0 == 82000) = false := beq_eq_false_iff_ne.mpr c17
        have c17b1 : (a0_0 != 82000) = true := bne_iff_ne.mpr c17
        by_cases c29 : a0_0 = 83000
        · rw [if_pos c29] at H
          have c29b0 : (a0_0 == 83000) = true := beq_iff_eq.mpr c29
          have c29b1 : (a0_0 != 83000) = false := bne_eq_false_iff_eq.mpr c29
          clear c29
          by_cases c30 : a0_2 ≥ a0_1
          · rw [if_pos c30] at H
            have c30b0 : decide (a0_1 ≤ a0_2) = true := decide_eq_true c30
            clear c30
            have H' := Aside0.mk H
            clear H
            have hcz31_0 : w3.cell? ⟨gb189, 0, none⟩ = some (.int .i64 a0_0) := (blk_cell BK189.out 0).trans rfl
            have hcz31_1 : w3.cell? ⟨gb189, 1, none⟩ = some (.int .i64 a0_1) := (blk_cell BK189.out 1).trans rfl
            have hcz31_2 : w3.cell? ⟨gb189, 2, none⟩ = some (.int .i64 a0_2) := (blk_cell BK189.out 2).trans rfl
            have hcz31_3 : w3.cell? ⟨gb189, 3, none⟩ = some (.int .i64 a0_3) := (blk_cell BK189.out 3).trans rfl
            have hcz31_4 : w3.cell? ⟨gb189, 4, none⟩ = some (.int .i64 a0_4) := (blk_cell BK189.out 4).trans rfl
            have hcz31_5 : w3.cell? ⟨gb189, 5, none⟩ = some (.int .i64 a0_5) := (blk_cell BK189.out 5).trans rfl
            have hcz31_6 : w3.cell? ⟨gb189, 6, none⟩ = some (.bool a0_6) := (blk_cell BK189.out 6).trans rfl
            have hfz31_0 := blk_frozen BK189.out 0
            have hfz31_1 := blk_frozen BK189.out 1
            have hfz31_2 := blk_frozen BK189.out 2
            have hfz31_3 := blk_frozen BK189.out 3
            have hfz31_4 := blk_frozen BK189.out 4
            have hfz31_5 := blk_frozen BK189.out 5
            have hfz31_6 := blk_frozen BK189.out 6
            go_wp2
            go_meet
            case rel => exact ⟨_, ((a0_0 == 83000)), (true), (by first | rfl | (simp; done) | (simp [*]; done)), (by first | rfl | (simp; done) | (simp [*]; done)), H', ⟨by first | omega | exact Nat.le_refl _⟩, ⟨by (with_reducible repeat (first | refine blk_drewN ?_ _ | refine blk_drew ?_ | refine blk_alloc ?_ _)); exact BK189.out⟩, ⟨by repeat (first | (with_reducible first | exact HB.out | apply below_alloc | apply pw_below_drewN | apply below_drew1 | refine below_set ?_ GE189.out) | exact HB.out)⟩⟩
          · rw [if_neg c30] at H
            have c30b0 : decide (a0_1 ≤ a0_2) = false := decide_eq_false c30
            clear c30
            by_cases c32 : a0_1 > a0_5
            · rw [if_pos c32] at H
              have c32b0 : decide (a0_5 < a0_1) = true := decide_eq_true c32
              clear c32
              have H' := Aside0.mk H
              clear H
              have hcz33_0 : w3.cell? ⟨gb189, 0, none⟩ = some (.int .i64 a0_0) := (blk_cell BK189.out 0).trans rfl
              have hcz33_1 : w3.cell? ⟨gb189, 1, none⟩ = some (.int .i64 a0_1) := (blk_cell BK189.out 1).trans rfl
              have hcz33_2 : w3.cell? ⟨gb189, 2, none⟩ = some (.int .i64 a0_2) := (blk_cell BK189.out 2).trans rfl
              have hcz33_3 : w3.cell? ⟨gb189, 3, none⟩ = some (.int .i64 a0_3) := (blk_cell BK189.out 3).trans rfl
              have hcz33_4 : w3.cell? ⟨gb189, 4, none⟩ = some (.int .i64 a0_4) := (blk_cell BK189.out 4).trans rfl
              have hcz33_5 : w3.cell? ⟨gb189, 5, none⟩ = some (.int .i64 a0_5) := (blk_cell BK189.out 5).trans rfl
              have hcz33_6 : w3.cell? ⟨gb189, 6, none⟩ = some (.bool a0_6) := (blk_cell BK189.out 6).trans rfl
              have hfz33_0 := blk_frozen BK189.out 0
              have hfz33_1 := blk_frozen BK189.out 1
              have hfz33_2 := blk_frozen BK189.out 2
              have hfz33_3 := blk_frozen BK189.out 3
              have hfz33_4 := blk_frozen BK189.out 4
              have hfz33_5 := blk_frozen BK189.out 5
              have hfz33_6 := blk_frozen BK189.out 6
              go_wp2
              go_meet
              case rel => exact ⟨_, ((a0_0 == 83000)), (true), (by first | rfl | (simp; done) | (simp [*]; done)), (by first | rfl | (simp; done) | (simp [*]; done)), H', ⟨by first | omega | exact Nat.le_refl _⟩, ⟨by (with_reducible repeat (first | refine blk_drewN ?_ _ | refine blk_drew ?_ | refine blk_alloc ?_ _)); exact BK189.out⟩, ⟨by repeat (first | (with_reducible first | exact HB.out | apply below_alloc | apply pw_below_drewN | apply below_drew1 | refine below_set ?_ GE189.out) | exact HB.out)⟩⟩
            · rw [if_neg c32] at H
              have c32b0 : decide (a0_5 < a0_1) = false := decide_eq_false c32
              clear c32
              by_cases c34 : a0_4 < 1
              · rw [if_pos c34] at H
                have c34b0 : decide (a0_4 < 1) = true := decide_eq_true c34
                clear c34
                have H' := Aside0.mk H
                clear H
                have hcz35_0 : w3.cell? ⟨gb189, 0, none⟩ = some (.int .i64 a0_0) := (blk_cell BK189.out 0).trans rfl
                have hcz35_1 : w3.cell? ⟨gb189, 1, none⟩ = some (.int .i64 a0_1) := (blk_cell BK189.out 1).trans rfl
                have hcz35_2 : w3.cell? ⟨gb189, 2, none⟩ = some (.int .i64 a0_2) := (blk_cell BK189.out 2).trans rfl
                have hcz35_3 : w3.cell? ⟨gb189, 3, none⟩ = some (.int .i64 a0_3) := (blk_cell BK189.out 3).trans rfl
                have hcz35_4 : w3.cell? ⟨gb189, 4, none⟩ = some (.int .i64 a0_4) := (blk_cell BK189.out 4).trans rfl
                have hcz35_5 : w3.cell? ⟨gb189, 5, none⟩ = some (.int .i64 a0_5) := (blk_cell BK189.out 5).trans rfl
                have hcz35_6 : w3.cell? ⟨gb189, 6, none⟩ = some (.bool a0_6) := (blk_cell BK189.out 6).trans rfl
                have hfz35_0 := blk_frozen BK189.out 0
                have hfz35_1 := blk_frozen BK189.out 1
                have hfz35_2 := blk_frozen BK189.out 2
                have hfz35_3 := blk_frozen BK189.out 3
                have hfz35_4 := blk_frozen BK189.out 4
                have hfz35_5 := blk_frozen BK189.out 5
                have hfz35_6 := blk_frozen BK189.out 6
                go_wp2
                go_meet
                case rel => exact ⟨_, ((a0_0 == 83000)), (true), (by first | rfl | (simp; done) | (simp [*]; done)), (by first | rfl | (simp; done) | (simp [*]; done)), H', ⟨by first | omega | exact Nat.le_refl _⟩, ⟨by (with_reducible repeat (first | refine blk_drewN ?_ _ | refine blk_drew ?_ | refine blk_alloc ?_ _)); exact BK189.out⟩, ⟨by repeat (first | (with_reducible first | exact HB.out | apply below_alloc | apply pw_below_drewN | apply below_drew1 | refine below_set ?_ GE189.out) | exact HB.out)⟩⟩
              · rw [if_neg c34] at H
                have c34b0 : decide (a0_4 < 1) = false := decide_eq_false c34
                clear c34
                by_cases c36 : a0_4 > 1000000000000
                · rw [if_pos c36] at H
                  have c36b0 : decide (1000000000000 < a0_4) = true := decide_eq_true c36
                  clear c36
                  have H' := Aside0.mk H
                  clear H
                  have hcz37_0 : w3.cell? ⟨gb189, 0, none⟩ = some (.int .i64 a0_0) := (blk_cell BK189.out 0).trans rfl
                  have hcz37_1 : w3.cell? ⟨gb189, 1, none⟩ = some (.int .i64 a0_1) := (blk_cell BK189.out 1).trans rfl
                  have hcz37_2 : w3.cell? ⟨gb189, 2, none⟩ = some (.int .i64 a0_2) := (blk_cell BK189.out 2).trans rfl
                  have hcz37_3 : w3.cell? ⟨gb189, 3, none⟩ = some (.int .i64 a0_3) := (blk_cell BK189.out 3).trans rfl
                  have hcz37_4 : w3.cell? ⟨gb189, 4, none⟩ = some (.int .i64 a0_4) := (blk_cell BK189.out 4).trans rfl
                  have hcz37_5 : w3.cell? ⟨gb189, 5, none⟩ = some (.int .i64 a0_5) := (blk_cell BK189.out 5).trans rfl
                  have hcz37_6 : w3.cell? ⟨gb189, 6, none⟩ = some (.bool a0_6) := (blk_cell BK189.out 6).trans rfl
                  have hfz37_0 := blk_frozen BK189.out 0
                  have hfz37_1 := blk_frozen BK189.out 1
                  have hfz37_2 := blk_frozen BK189.out 2
                  have hfz37_3 := blk_frozen BK189.out 3
                  have hfz37_4 := blk_frozen BK189.out 4
                  have hfz37_5 := blk_frozen BK189.out 5
                  have hfz37_6 := blk_frozen BK189.out 6
                  go_wp2
                  go_meet
                  case rel => exact ⟨_, ((a0_0 == 83000)), (true), (by first | rfl | (simp; done) | (simp [*]; done)), (by first | rfl | (simp; done) | (simp [*]; done)), H', ⟨by first | omega | exact Nat.le_refl _⟩, ⟨by (with_reducible repeat (first | refine blk_drewN ?_ _ | refine blk_drew ?_ | refine blk_alloc ?_ _)); exact BK189.out⟩, ⟨by repeat (first | (with_reducible first | exact HB.out | apply below_alloc | apply pw_below_drewN | apply below_drew1 | refine below_set ?_ GE189.out) | exact HB.out)⟩⟩
                · rw [if_neg c36] at H
                  have c36b0 : decide (1000000000000 < a0_4) = false := decide_eq_false c36
                  clear c36
                  have H' := Aside0.mk H
                  clear H
                  have hcz38_0 : w3.cell? ⟨gb189, 0, none⟩ = some (.int .i64 a0_0) := (blk_cell BK189.out 0).trans rfl
                  have hcz38_1 : w3.cell? ⟨gb189, 1, none⟩ = some (.int .i64 a0_1) := (blk_cell BK189.out 1).trans rfl
                  have hcz38_2 : w3.cell? ⟨gb189, 2, none⟩ = some (.int .i64 a0_2) := (blk_cell BK189.out 2).trans rfl
                  have hcz38_3 : w3.cell? ⟨gb189, 3, none⟩ = some (.int .i64 a0_3) := (blk_cell BK189.out 3).trans rfl
                  have hcz38_4 : w3.cell? ⟨gb189, 4, none⟩ = some (.int .i64 a0_4) := (blk_cell BK189.out 4).trans rfl
                  have hcz38_5 : w3.cell? ⟨gb189, 5, none⟩ = some (.int .i64 a0_5) := (blk_cell BK189.out 5).trans rfl
                  have hcz38_6 : w3.cell? ⟨gb189, 6, none⟩ = some (.bool a0_6) := (blk_cell BK189.out 6).trans rfl
                  have hfz38_0 := blk_frozen BK189.out 0
                  have hfz38_1 := blk_frozen BK189.out 1
                  have hfz38_2 := blk_frozen BK189.out 2
                  have hfz38_3 := blk_frozen BK189.out 3
                  have hfz38_4 := blk_frozen BK189.out 4
                  have hfz38_5 := blk_frozen BK189.out 5
                  have hfz38_6 := blk_frozen BK189.out 6
                  go_wp2
                  go_meet
                  case rel => exact ⟨_, ((a0_0 == 83000)), (decide (a0_3 < 1)), (by first | rfl | (simp; done) | (simp [*]; done)), (by first | rfl | (simp; done) | (simp [*]; done)), H', ⟨by first | omega | exact Nat.le_refl _⟩, ⟨by (with_reducible repeat (first | refine blk_drewN ?_ _ | refine blk_drew ?_ | refine blk_alloc ?_ _)); exact BK189.out⟩, ⟨by repeat (first | (with_reducible first | exact HB.out | apply below_alloc | apply pw_below_drewN | apply below_drew1 | refine below_set ?_ GE189.out) | exact HB.out)⟩⟩
        · rw [if_neg c29] at H
          have c29b0 : (a0_0 == 83000) = false := beq_eq_false_iff_ne.mpr c29
          have c29b1 : (a0_0 != 83000) = true := bne_iff_ne.mpr c29
          have H' := Aside0.mk H
          clear H
          have hcz39_0 : w3.cell? ⟨gb189, 0, none⟩ = some (.int .i64 a0_0) := (blk_cell BK189.out 0).trans rfl
          have hcz39_1 : w3.cell? ⟨gb189, 1, none⟩ = some (.int .i64 a0_1) := (blk_cell BK189.out 1).trans rfl
          have hcz39_2 : w3.cell? ⟨gb189, 2, none⟩ = some (.int .i64 a0_2) := (blk_cell BK189.out 2).trans rfl
          have hcz39_3 : w3.cell? ⟨gb189, 3, none⟩ = some (.int .i64 a0_3) := (blk_cell BK189.out 3).trans rfl
          have hcz39_4 : w3.cell? ⟨gb189, 4, none⟩ = some (.int .i64 a0_4) := (blk_cell BK189.out 4).trans rfl
          have hcz39_5 : w3.cell? ⟨gb189, 5, none⟩ = some (.int .i64 a0_5) := (blk_cell BK189.out 5).trans rfl
          have hcz39_6 : w3.cell? ⟨gb189, 6, none⟩ = some (.bool a0_6) := (blk_cell BK189.out 6).trans rfl
          have hfz39_0 := blk_frozen BK189.out 0
          have hfz39_1 := blk_frozen BK189.out 1
          have hfz39_2 := blk_frozen BK189.out 2
          have hfz39_3 := blk_frozen BK189.out 3
          have hfz39_4 := blk_frozen BK189.out 4
          have hfz39_5 := blk_frozen BK189.out 5
          have hfz39_6 := blk_frozen BK189.out 6
          go_wp2
          go_meet
          case rel => exact ⟨_, ((a0_0 == 83000)), (true), (by first | rfl | (simp; done) | (simp [*]; done)), (by first | rfl | (simp; done) | (simp [*]; done)), H', ⟨by first | omega | exact Nat.le_refl _⟩, ⟨by (with_reducible repeat (first | refine blk_drewN ?_ _ | refine blk_drew ?_ | refine blk_alloc ?_ _)); exact BK189.out⟩, ⟨by repeat (first | (with_reducible first | exact HB.out | apply below_alloc | apply pw_below_drewN | apply below_drew1 | refine below_set ?_ GE189.out) | exact HB.out)⟩⟩
  case rest =>
    clear HC2
    try clear c1
    try clear c2
    try clear p2
    try clear c3
    try clear c5
    try clear c5b0
    try clear c5b1
    try clear c6
    try clear c6b0
    try clear c8
    try clear c8b0
    try clear c10
    try clear c10b0
    try clear c12
    try clear c12b0
    try clear c13
    try clear c14
    try clear c14b0
    try clear c14b1
    try clear c17
    try clear c17b0
    try clear c17b1
    try clear c18
    try clear c18b0
    try clear c20
    try clear c20b0
    try clear c22
    try clear c22b0
    try clear c24
    try clear c24b0
    try clear c26
    try clear c26b0
    try clear c26b1
    try clear c29
    try clear c29b0
    try clear c29b1
    try clear c30
    try clear c30b0
    try clear c32
    try clear c32b0
    try clear c34
    try clear c34b0
    try clear c36
    try clear c36b0
    try clear hcz11_0
    try clear hcz11_1
    try clear hcz11_2
    try clear hcz11_3
    try clear hcz11_4
    try clear hcz11_5
    try clear hcz11_6
    try clear hcz13_0
    try clear hcz13_1
    try clear hcz13_2
    try clear hcz13_3
    try clear hcz13_4
    try clear hcz13_5
    try clear hcz13_6
    try clear hcz15_0
    try clear hcz15_1
    try clear hcz15_2
    try clear hcz15_3
    try clear hcz15_4
    try clear hcz15_5
    try clear hcz15_6
    try clear hcz16_0
    try clear hcz16_1
    try clear hcz16_2
    try clear hcz16_3
    try clear hcz16_4
    try clear hcz16_5
    try clear hcz16_6
    try clear hcz19_0
    try clear hcz19_1
    try clear hcz19_2
    try clear hcz19_3
    try clear hcz19_4
    try clear hcz19_5
    try clear hcz19_6
    try clear hcz21_0
    try clear hcz21_1
    try clear hcz21_2
    try clear hcz21_3
    try clear hcz21_4
    try clear hcz21_5
    try clear hcz21_6
    try clear hcz23_0
    try clear hcz23_1
    try clear hcz23_2
    try clear hcz23_3
    try clear hcz23_4
    try clear hcz23_5
    try clear hcz23_6
    try clear hcz25_0
    try clear hcz25_1
    try clear hcz25_2
    try clear hcz25_3
    try clear hcz25_4
    try clear hcz25_5
    try clear hcz25_6
    try clear hcz27_0
    try clear hcz27_1
    try clear hcz27_2
    try clear hcz27_3
    try clear hcz27_4
    try clear hcz27_5
    try clear hcz27_6
    try clear hcz28_0
    try clear hcz28_1
    try clear hcz28_2
    try clear hcz28_3
    try clear hcz28_4
    try clear hcz28_5
    try clear hcz28_6
    try clear hcz31_0
    try clear hcz31_1
    try clear hcz31_2
    try clear hcz31_3
    try clear hcz31_4
    try clear hcz31_5
    try clear hcz31_6
    try clear hcz33_0
    try clear hcz33_1
    try clear hcz33_2
    try clear hcz33_3
    try clear hcz33_4
    try clear hcz33_5
    try clear hcz33_6
    try clear hcz35_0
    try clear hcz35_1
    try clear hcz35_2
    try clear hcz35_3
    try clear hcz35_4
    try clear hcz35_5
    try clear hcz35_6
    try clear hcz37_0
    try clear hcz37_1
    try clear hcz37_2
    try clear hcz37_3
    try clear hcz37_4
    try clear hcz37_5
    try clear hcz37_6
    try clear hcz38_0
    try clear hcz38_1
    try clear hcz38_2
    try clear hcz38_3
    try clear hcz38_4
    try clear hcz38_5
    try clear hcz38_6
    try clear hcz39_0
    try clear hcz39_1
    try clear hcz39_2
    try clear hcz39_3
    try clear hcz39_4
    try clear hcz39_5
    try clear hcz39_6
    try clear hcz4_0
    try clear hcz4_1
    try clear hcz4_2
    try clear hcz4_3
    try clear hcz4_4
    try clear hcz4_5
    try clear hcz4_6
    try clear hcz7_0
    try clear hcz7_1
    try clear hcz7_2
    try clear hcz7_3
    try clear hcz7_4
    try clear hcz7_5
    try clear hcz7_6
    try clear hcz9_0
    try clear hcz9_1
    try clear hcz9_2
    try clear hcz9_3
    try clear hcz9_4
    try clear hcz9_5
    try clear hcz9_6
    try clear hfz11_0
    try clear hfz11_1
    try clear hfz11_2
    try clear hfz11_3
    try clear hfz11_4
    try clear hfz11_5
    try clear hfz11_6
    try clear hfz13_0
    try clear hfz13_1
    try clear hfz13_2
    try clear hfz13_3
    try clear hfz13_4
    try clear hfz13_5
    try clear hfz13_6
    try clear hfz15_0
    try clear hfz15_1
    try clear hfz15_2
    try clear hfz15_3
    try clear hfz15_4
    try clear hfz15_5
    try clear hfz15_6
    try clear hfz16_0
    try clear hfz16_1
    try clear hfz16_2
    try clear hfz16_3
    try clear hfz16_4
    try clear hfz16_5
    try clear hfz16_6
    try clear hfz19_0
    try clear hfz19_1
    try clear hfz19_2
    try clear hfz19_3
    try clear hfz19_4
    try clear hfz19_5
    try clear hfz19_6
    try clear hfz21_0
    try clear hfz21_1
    try clear hfz21_2
    try clear hfz21_3
    try clear hfz21_4
    try clear hfz21_5
    try clear hfz21_6
    try clear hfz23_0
    try clear hfz23_1
    try clear hfz23_2
    try clear hfz23_3
    try clear hfz23_4
    try clear hfz23_5
    try clear hfz23_6
    try clear hfz25_0
    try clear hfz25_1
    try clear hfz25_2
    try clear hfz25_3
    try clear hfz25_4
    try clear hfz25_5
    try clear hfz25_6
    try clear hfz27_0
    try clear hfz27_1
    try clear hfz27_2
    try clear hfz27_3
    try clear hfz27_4
    try clear hfz27_5
    try clear hfz27_6
    try clear hfz28_0
    try clear hfz28_1
    try clear hfz28_2
    try clear hfz28_3
    try clear hfz28_4
    try clear hfz28_5
    try clear hfz28_6
    try clear hfz31_0
    try clear hfz31_1
    try clear hfz31_2
    try clear hfz31_3
    try clear hfz31_4
    try clear hfz31_5
    try clear hfz31_6
    try clear hfz33_0
    try clear hfz33_1
    try clear hfz33_2
    try clear hfz33_3
    try clear hfz33_4
    try clear hfz33_5
    try clear hfz33_6
    try clear hfz35_0
    try clear hfz35_1
    try clear hfz35_2
    try clear hfz35_3
    try clear hfz35_4
    try clear hfz35_5
    try clear hfz35_6
    try clear hfz37_0
    try clear hfz37_1
    try clear hfz37_2
    try clear hfz37_3
    try clear hfz37_4
    try clear hfz37_5
    try clear hfz37_6
    try clear hfz38_0
    try clear hfz38_1
    try clear hfz38_2
    try clear hfz38_3
    try clear hfz38_4
    try clear hfz38_5
    try clear hfz38_6
    try clear hfz39_0
    try clear hfz39_1
    try clear hfz39_2
    try clear hfz39_3
    try clear hfz39_4
    try clear hfz39_5
    try clear hfz39_6
    try clear hfz4_0
    try clear hfz4_1
    try clear hfz4_2
    try clear hfz4_3
    try clear hfz4_4
    try clear hfz4_5
    try clear hfz4_6
    try clear hfz7_0
    try clear hfz7_1
    try clear hfz7_2
    try clear hfz7_3
    try clear hfz7_4
    try clear hfz7_5
    try clear hfz7_6
    try clear hfz9_0
    try clear hfz9_1
    try clear hfz9_2
    try clear hfz9_3
    try clear hfz9_4
    try clear hfz9_5
    try clear hfz9_6
    obtain ⟨kq, x3_1, x52_1, rfl, rfl, HA, HJ1, BK189, HB⟩ := hcut
    cases kq with
    | zero => exact absurd HA.out (by simp [swarfref44_Valid.j0])
    | succ kj1 =>
      have H := HA.out
      clear HA
      simp only [swarfref44_Valid.j0] at H
      by_cases c40 : x52_1 = true
      · subst c40
        have H1 : (some 1) = some r := by rw [if_pos rfl] at H; exact H
        clear H
        have H := H1
        clear H1
        obtain rfl := Option.some.inj H
        go_wp2
        go_ret
        exact ⟨by first | rfl | (simp [errW_none, errW_some] <;> rfl) | (simp [*, errW_none, errW_some] <;> rfl), by repeat (first | (with_reducible first | exact HB.out | apply below_alloc | apply pw_below_drewN | apply below_drew1 | refine below_set ?_ GE189.out) | exact HB.out)⟩
      · replace c40 := Bool.eq_false_iff.mpr c40
        subst c40
        have H1 : ((swarfref44_in.f a0_1).bind fun t190 => (if t190 = true then ((swarfref44_in.f a0_2).bind fun t191 => (if t191 = true then ((swarfref44_in.f a0_5).bind fun t192 => (if t192 = true then (if x3_1 = true then ((swarfref44_in.f a0_3).bind fun t193 => (swarfref44_Valid.j1 kj1 x3_1 (!t193) a0_0 a0_1 a0_2 a0_3 a0_4 a0_5 a0_6)) else (swarfref44_Valid.j1 kj1 x3_1 false a0_0 a0_1 a0_2 a0_3 a0_4 a0_5 a0_6)) else (swarfref44_Valid.j1 kj1 x3_1 true a0_0 a0_1 a0_2 a0_3 a0_4 a0_5 a0_6))) else (swarfref44_Valid.j1 kj1 x3_1 true a0_0 a0_1 a0_2 a0_3 a0_4 a0_5 a0_6))) else (swarfref44_Valid.j1 kj1 x3_1 true a0_0 a0_1 a0_2 a0_3 a0_4 a0_5 a0_6))) = some r := by rw [if_neg (show ¬ (false = true) by decide)] at H; exact H
        clear H
        have H := H1
        clear H1
        have HC41 := Aside0.mk H
        clear H
        go_upto_region 4 with (fail)
        go_cut [77] (fun v77 wc => ∃ (kq : Nat) (x77_40 : Bool), v77 = .bool x77_40 ∧ Aside0 (swarfref44_Valid.j1 kq x3_1 x77_40 a0_0 a0_1 a0_2 a0_3 a0_4 a0_5 a0_6 = some r) ∧ Aside0 (kq ≤ kj1) ∧ Aside0 (wc.heap[gb189]? = some (.cells #[.int .i64 a0_0, .int .i64 a0_1, .int .i64 a0_2, .int .i64 a0_3, .int .i64 a0_4, .int .i64 a0_5, .bool a0_6] 23 (0, 0))) ∧ Aside0 (Below w.heap.size w wc))
        case first =>
          have H := HC41.out
          clear HC41
          replace H := Option.bind_eq_some_iff.mp H
          obtain ⟨t190, A420, H⟩ := H
          replace H : (if t190 = true then ((swarfref44_in.f a0_2).bind fun t191 => (if t191 = true then ((swarfref44_in.f a0_5).bind fun t192 => (if t192 = true then (if x3_1 = true then ((swarfref44_in.f a0_3).bind fun t193 => (swarfref44_Valid.j1 kj1 x3_1 (!t193) a0_0 a0_1 a0_2 a0_3 a0_4 a0_5 a0_6)) else (swarfref44_Valid.j1 kj1 x3_1 false a0_0 a0_1 a0_2 a0_3 a0_4 a0_5 a0_6)) else (swarfref44_Valid.j1 kj1 x3_1 true a0_0 a0_1 a0_2 a0_3 a0_4 a0_5 a0_6))) else (swarfref44_Valid.j1 kj1 x3_1 true a0_0 a0_1 a0_2 a0_3 a0_4 a0_5 a0_6))) else (swarfref44_Valid.j1 kj1 x3_1 true a0_0 a0_1 a0_2 a0_3 a0_4 a0_5 a0_6)) = some r := H
          have A42 := Aside0.mk A420
          clear A420
          by_cases c43 : t190 = true
          · subst c43
            have H1 : ((swarfref44_in.f a0_2).bind fun t191 => (if t191 = true then ((swarfref44_in.f a0_5).bind fun t192 => (if t192 = true then (if x3_1 = true then ((swarfref44_in.f a0_3).bind fun t193 => (swarfref44_Valid.j1 kj1 x3_1 (!t193) a0_0 a0_1 a0_2 a0_3 a0_4 a0_5 a0_6)) else (swarfref44_Valid.j1 kj1 x3_1 false a0_0 a0_1 a0_2 a0_3 a0_4 a0_5 a0_6)) else (swarfref44_Valid.j1 kj1 x3_1 true a0_0 a0_1 a0_2 a0_3 a0_4 a0_5 a0_6))) else (swarfref44_Valid.j1 kj1 x3_1 true a0_0 a0_1 a0_2 a0_3 a0_4 a0_5 a0_6))) = some r := by rw [if_pos rfl] at H; exact H
            clear H
            have H := H1
            clear H1
            replace H := Option.bind_eq_some_iff.mp H
            obtain ⟨t191, A440, H⟩ := H
            replace H : (if t191 = true then ((swarfref44_in.f a0_5).bind fun t192 => (if t192 = true then (if x3_1 = true then ((swarfref44_in.f a0_3).bind fun t193 => (swarfref44_Valid.j1 kj1 x3_1 (!t193) a0_0 a0_1 a0_2 a0_3 a0_4 a0_5 a0_6)) else (swarfref44_Valid.j1 kj1 x3_1 false a0_0 a0_1 a0_2 a0_3 a0_4 a0_5 a0_6)) else (swarfref44_Valid.j1 kj1 x3_1 true a0_0 a0_1 a0_2 a0_3 a0_4 a0_5 a0_6))) else (swarfref44_Valid.j1 kj1 x3_1 true a0_0 a0_1 a0_2 a0_3 a0_4 a0_5 a0_6)) = some r := H
            have A44 := Aside0.mk A440
            clear A440
            by_cases c45 : t191 = true
            · subst c45
              have H1 : ((swarfref44_in.f a0_5).bind fun t192 => (if t192 = true then (if x3_1 = true then ((swarfref44_in.f a0_3).bind fun t193 => (swarfref44_Valid.j1 kj1 x3_1 (!t193) a0_0 a0_1 a0_2 a0_3 a0_4 a0_5 a0_6)) else (swarfref44_Valid.j1 kj1 x3_1 false a0_0 a0_1 a0_2 a0_3 a0_4 a0_5 a0_6)) else (swarfref44_Valid.j1 kj1 x3_1 true a0_0 a0_1 a0_2 a0_3 a0_4 a0_5 a0_6))) = some r := by rw [if_pos rfl] at H; exact H
              clear H
              have H := H1
              clear H1
              replace H := Option.bind_eq_some_iff.mp H
              obtain ⟨t192, A460, H⟩ := H
              replace H : (if t192 = true then (if x3_1 = true then ((swarfref44_in.f a0_3).bind fun t193 => (swarfref44_Valid.j1 kj1 x3_1 (!t193) a0_0 a0_1 a0_2 a0_3 a0_4 a0_5 a0_6)) else (swarfref44_Valid.j1 kj1 x3_1 false a0_0 a0_1 a0_2 a0_3 a0_4 a0_5 a0_6)) else (swarfref44_Valid.j1 kj1 x3_1 true a0_0 a0_1 a0_2 a0_3 a0_4 a0_5 a0_6)) = some r := H
              have A46 := Aside0.mk A460
              clear A460
              by_cases c47 : t192 = true
              · subst c47
                have H1 : (if x3_1 = true then ((swarfref44_in.f a0_3).bind fun t193 => (swarfref44_Valid.j1 kj1 x3_1 (!t193) a0_0 a0_1 a0_2 a0_3 a0_4 a0_5 a0_6)) else (swarfref44_Valid.j1 kj1 x3_1 false a0_0 a0_1 a0_2 a0_3 a0_4 a0_5 a0_6)) = some r := by rw [if_pos rfl] at H; exact H
                clear H
                have H := H1
                clear H1
                by_cases c48 : x3_1 = true
                · subst c48
                  have H1 : ((swarfref44_in.f a0_3).bind fun t193 => (swarfref44_Valid.j1 kj1 true (!t193) a0_0 a0_1 a0_2 a0_3 a0_4 a0_5 a0_6)) = some r := by rw [if_pos rfl] at H; exact H
                  clear H
                  have H := H1
                  clear H1
                  replace H := Option.bind_eq_some_iff.mp H
                  obtain ⟨t193, A490, H⟩ := H
                  replace H : (swarfref44_Valid.j1 kj1 true (!t193) a0_0 a0_1 a0_2 a0_3 a0_4 a0_5 a0_6) = some r := H
                  have A49 := Aside0.mk A490
                  clear A490
                  have H' := Aside0.mk H
                  clear H
                  have hcz50_0 : wc.cell? ⟨gb189, 0, none⟩ = some (.int .i64 a0_0) := (blk_cell BK189.out 0).trans rfl
                  have hcz50_1 : wc.cell? ⟨gb189, 1, none⟩ = some (.int .i64 a0_1) := (blk_cell BK189.out 1).trans rfl
                  have hcz50_2 : wc.cell? ⟨gb189, 2, none⟩ = some (.int .i64 a0_2) := (blk_cell BK189.out 2).trans rfl
                  have hcz50_3 : wc.cell? ⟨gb189, 3, none⟩ = some (.int .i64 a0_3) := (blk_cell BK189.out 3).trans rfl
                  have hcz50_4 : wc.cell? ⟨gb189, 4, none⟩ = some (.int .i64 a0_4) := (blk_cell BK189.out 4).trans rfl
                  have hcz50_5 : wc.cell? ⟨gb189, 5, none⟩ = some (.int .i64 a0_5) := (blk_cell BK189.out 5).trans rfl
                  have hcz50_6 : wc.cell? ⟨gb189, 6, none⟩ = some (.bool a0_6) := (blk_cell BK189.out 6).trans rfl
                  have hfz50_0 := blk_frozen BK189.out 0
                  have hfz50_1 := blk_frozen BK189.out 1
                  have hfz50_2 := blk_frozen BK189.out 2
                  have hfz50_3 := blk_frozen BK189.out 3
                  have hfz50_4 := blk_frozen BK189.out 4
                  have hfz50_5 := blk_frozen BK189.out 5
                  have hfz50_6 := blk_frozen BK189.out 6
                  go_wp2_with (first | ((with_reducible refine gate_callee (f := 27) rfl ?_); refine goesL_ (some 55) rfl rfl Try.func27 (by kernel_rfl) rfl #[.int .i64 a0_1] rfl (by (try simp only [List.map_toArray, List.map_cons, List.map_nil]); first | done | rfl | (simp only [List.length_drop, List.length_take]; rfl)) ?_; (with_reducible refine (swarfref44_in.calls a0_1 true _ A42.out).mono ?_); rintro e w' ⟨rfl, ⟨nd, rfl⟩⟩; refine ⟨_, rfl, ?_⟩) | (go_at_call 27; (with_reducible refine (swarfref44_in.calls a0_2 true _ A44.out).mono ?_); rintro e w' ⟨rfl, ⟨nd, rfl⟩⟩) | (go_at_call 27; (with_reducible refine (swarfref44_in.calls a0_5 true _ A46.out).mono ?_); rintro e w' ⟨rfl, ⟨nd, rfl⟩⟩) | (go_at_call 27; (with_reducible refine (swarfref44_in.calls a0_3 t193 _ A49.out).mono ?_); rintro e w' ⟨rfl, ⟨nd, rfl⟩⟩))
                  go_meet
                  case rel => exact ⟨_, (!t193), (by first | rfl | (simp; done) | (simp [*]; done)), H', ⟨by have := HJ1.out; first | omega | exact Nat.le_refl _⟩, ⟨by (with_reducible repeat (first | refine blk_drewN ?_ _ | refine blk_drew ?_ | refine blk_alloc ?_ _)); exact BK189.out⟩, ⟨by repeat (first | (with_reducible first | exact HB.out | apply below_alloc | apply pw_below_drewN | apply below_drew1 | refine below_set ?_ GE189.out) | exact HB.out)⟩⟩
                · replace c48 := Bool.eq_false_iff.mpr c48
                  subst c48
                  have H1 : (swarfref44_Valid.j1 kj1 false false a0_0 a0_1 a0_2 a0_3 a0_4 a0_5 a0_6) = some r := by rw [if_neg (show ¬ (false = true) by decide)] at H; exact H
                  clear H
                  have H := H1
                  clear H1
                  have H' := Aside0.mk H
                  clear H
                  have hcz51_0 : wc.cell? ⟨gb189, 0, none⟩ = some (.int .i64 a0_0) := (blk_cell BK189.out 0).trans rfl
                  have hcz51_1 : wc.cell? ⟨gb189, 1, none⟩ = some (.int .i64 a0_1) := (blk_cell BK189.out 1).trans rfl
                  have hcz51_2 : wc.cell? ⟨gb189, 2, none⟩ = some (.int .i64 a0_2) := (blk_cell BK189.out 2).trans rfl
                  have hcz51_3 : wc.cell? ⟨gb189, 3, none⟩ = some (.int .i64 a0_3) := (blk_cell BK189.out 3).trans rfl
                  have hcz51_4 : wc.cell? ⟨gb189, 4, none⟩ = some (.int .i64 a0_4) := (blk_cell BK189.out 4).trans rfl
                  have hcz51_5 : wc.cell? ⟨gb189, 5, none⟩ = some (.int .i64 a0_5) := (blk_cell BK189.out 5).trans rfl
                  have hcz51_6 : wc.cell? ⟨gb189, 6, none⟩ = some (.bool a0_6) := (blk_cell BK189.out 6).trans rfl
                  have hfz51_0 := blk_frozen BK189.out 0
                  have hfz51_1 := blk_frozen BK189.out 1
                  have hfz51_2 := blk_frozen BK189.out 2
                  have hfz51_3 := blk_frozen BK189.out 3
                  have hfz51_4 := blk_frozen BK189.out 4
                  have hfz51_5 := blk_frozen BK189.out 5
                  have hfz51_6 := blk_frozen BK189.out 6
                  go_wp2_with (first | ((with_reducible refine gate_callee (f := 27) rfl ?_); refine goesL_ (some 55) rfl rfl Try.func27 (by kernel_rfl) rfl #[.int .i64 a0_1] rfl (by (try simp only [List.map_toArray, List.map_cons, List.map_nil]); first | done | rfl | (simp only [List.length_drop, List.length_take]; rfl)) ?_; (with_reducible refine (swarfref44_in.calls a0_1 true _ A42.out).mono ?_); rintro e w' ⟨rfl, ⟨nd, rfl⟩⟩; refine ⟨_, rfl, ?_⟩) | (go_at_call 27; (with_reducible refine (swarfref44_in.calls a0_2 true _ A44.out).mono ?_); rintro e w' ⟨rfl, ⟨nd, rfl⟩⟩) | (go_at_call 27; (with_reducible refine (swarfref44_in.calls a0_5 true _ A46.out).mono ?_); rintro e w' ⟨rfl, ⟨nd, rfl⟩⟩))
                  go_meet
                  case rel => exact ⟨_, (false), (by first | rfl | (simp; done) | (simp [*]; done)), H', ⟨by have := HJ1.out; first | omega | exact Nat.le_refl _⟩, ⟨by (with_reducible repeat (first | refine blk_drewN ?_ _ | refine blk_drew ?_ | refine blk_alloc ?_ _)); exact BK189.out⟩, ⟨by repeat (first | (with_reducible first | exact HB.out | apply below_alloc | apply pw_below_drewN | apply below_drew1 | refine below_set ?_ GE189.out) | exact HB.out)⟩⟩
              · replace c47 := Bool.eq_false_iff.mpr c47
                subst c47
                have H1 : (swarfref44_Valid.j1 kj1 x3_1 true a0_0 a0_1 a0_2 a0_3 a0_4 a0_5 a0_6) = some r := by rw [if_neg (show ¬ (false = true) by decide)] at H; exact H
                clear H
                have H := H1
                clear H1
                have H' := Aside0.mk H
                clear H
                have hcz52_0 : wc.cell? ⟨gb189, 0, none⟩ = some (.int .i64 a0_0) := (blk_cell BK189.out 0).trans rfl
                have hcz52_1 : wc.cell? ⟨gb189, 1, none⟩ = some (.int .i64 a0_1) := (blk_cell BK189.out 1).trans rfl
                have hcz52_2 : wc.cell? ⟨gb189, 2, none⟩ = some (.int .i64 a0_2) := (blk_cell BK189.out 2).trans rfl
                have hcz52_3 : wc.cell? ⟨gb189, 3, none⟩ = some (.int .i64 a0_3) := (blk_cell BK189.out 3).trans rfl
                have hcz52_4 : wc.cell? ⟨gb189, 4, none⟩ = some (.int .i64 a0_4) := (blk_cell BK189.out 4).trans rfl
                have hcz52_5 : wc.cell? ⟨gb189, 5, none⟩ = some (.int .i64 a0_5) := (blk_cell BK189.out 5).trans rfl
                have hcz52_6 : wc.cell? ⟨gb189, 6, none⟩ = some (.bool a0_6) := (blk_cell BK189.out 6).trans rfl
                have hfz52_0 := blk_frozen BK189.out 0
                have hfz52_1 := blk_frozen BK189.out 1
                have hfz52_2 := blk_frozen BK189.out 2
                have hfz52_3 := blk_frozen BK189.out 3
                have hfz52_4 := blk_frozen BK189.out 4
                have hfz52_5 := blk_frozen BK189.out 5
                have hfz52_6 := blk_frozen BK189.out 6
                go_wp2_with (first | ((with_reducible refine gate_callee (f := 27) rfl ?_); refine goesL_ (some 55) rfl rfl Try.func27 (by kernel_rfl) rfl #[.int .i64 a0_1] rfl (by (try simp only [List.map_toArray, List.map_cons, List.map_nil]); first | done | rfl | (simp only [List.length_drop, List.length_take]; rfl)) ?_; (with_reducible refine (swarfref44_in.calls a0_1 true _ A42.out).mono ?_); rintro e w' ⟨rfl, ⟨nd, rfl⟩⟩; refine ⟨_, rfl, ?_⟩) | (go_at_call 27; (with_reducible refine (swarfref44_in.calls a0_2 true _ A44.out).mono ?_); rintro e w' ⟨rfl, ⟨nd, rfl⟩⟩) | (go_at_call 27; (with_reducible refine (swarfref44_in.calls a0_5 false _ A46.out).mono ?_); rintro e w' ⟨rfl, ⟨nd, rfl⟩⟩))
                go_meet
                case rel => exact ⟨_, (true), (by first | rfl | (simp; done) | (simp [*]; done)), H', ⟨by have := HJ1.out; first | omega | exact Nat.le_refl _⟩, ⟨by (with_reducible repeat (first | refine blk_drewN ?_ _ | refine blk_drew ?_ | refine blk_alloc ?_ _)); exact BK189.out⟩, ⟨by repeat (first | (with_reducible first | exact HB.out | apply below_alloc | apply pw_below_drewN | apply below_drew1 | refine below_set ?_ GE189.out) | exact HB.out)⟩⟩
            · replace c45 := Bool.eq_false_iff.mpr c45
              subst c45
              have H1 : (swarfref44_Valid.j1 kj1 x3_1 true a0_0 a0_1 a0_2 a0_3 a0_4 a0_5 a0_6) = some r := by rw [if_neg (show ¬ (false = true) by decide)] at H; exact H
              clear H
              have H := H1
              clear H1
              have H' := Aside0.mk H
              clear H
              have hcz53_0 : wc.cell? ⟨gb189, 0, none⟩ = some (.int .i64 a0_0) := (blk_cell BK189.out 0).trans rfl
              have hcz53_1 : wc.cell? ⟨gb189, 1, none⟩ = some (.int .i64 a0_1) := (blk_cell BK189.out 1).trans rfl
              have hcz53_2 : wc.cell? ⟨gb189, 2, none⟩ = some (.int .i64 a0_2) := (blk_cell BK189.out 2).trans rfl
              have hcz53_3 : wc.cell? ⟨gb189, 3, none⟩ = some (.int .i64 a0_3) := (blk_cell BK189.out 3).trans rfl
              have hcz53_4 : wc.cell? ⟨gb189, 4, none⟩ = some (.int .i64 a0_4) := (blk_cell BK189.out 4).trans rfl
              have hcz53_5 : wc.cell? ⟨gb189, 5, none⟩ = some (.int .i64 a0_5) := (blk_cell BK189.out 5).trans rfl
              have hcz53_6 : wc.cell? ⟨gb189, 6, none⟩ = some (.bool a0_6) := (blk_cell BK189.out 6).trans rfl
              have hfz53_0 := blk_frozen BK189.out 0
              have hfz53_1 := blk_frozen BK189.out 1
              have hfz53_2 := blk_frozen BK189.out 2
              have hfz53_3 := blk_frozen BK189.out 3
              have hfz53_4 := blk_frozen BK189.out 4
              have hfz53_5 := blk_frozen BK189.out 5
              have hfz53_6 := blk_frozen BK189.out 6
              go_wp2_with (first | ((with_reducible refine gate_callee (f := 27) rfl ?_); refine goesL_ (some 55) rfl rfl Try.func27 (by kernel_rfl) rfl #[.int .i64 a0_1] rfl (by (try simp only [List.map_toArray, List.map_cons, List.map_nil]); first | done | rfl | (simp only [List.length_drop, List.length_take]; rfl)) ?_; (with_reducible refine (swarfref44_in.calls a0_1 true _ A42.out).mono ?_); rintro e w' ⟨rfl, ⟨nd, rfl⟩⟩; refine ⟨_, rfl, ?_⟩) | (go_at_call 27; (with_reducible refine (swarfref44_in.calls a0_2 false _ A44.out).mono ?_); rintro e w' ⟨rfl, ⟨nd, rfl⟩⟩))
              go_meet
              case rel => exact ⟨_, (true), (by first | rfl | (simp; done) | (simp [*]; done)), H', ⟨by have := HJ1.out; first | omega | exact Nat.le_refl _⟩, ⟨by (with_reducible repeat (first | refine blk_drewN ?_ _ | refine blk_drew ?_ | refine blk_alloc ?_ _)); exact BK189.out⟩, ⟨by repeat (first | (with_reducible first | exact HB.out | apply below_alloc | apply pw_below_drewN | apply below_drew1 | refine below_set ?_ GE189.out) | exact HB.out)⟩⟩
          · replace c43 := Bool.eq_false_iff.mpr c43
            subst c43
            have H1 : (swarfref44_Valid.j1 kj1 x3_1 true a0_0 a0_1 a0_2 a0_3 a0_4 a0_5 a0_6) = some r := by rw [if_neg (show ¬ (false = true) by decide)] at H; exact H
            clear H
            have H := H1
            clear H1
            have H' := Aside0.mk H
            clear H
            have hcz54_0 : wc.cell? ⟨gb189, 0, none⟩ = some (.int .i64 a0_0) := (blk_cell BK189.out 0).trans rfl
            have hcz54_1 : wc.cell? ⟨gb189, 1, none⟩ = some (.int .i64 a0_1) := (blk_cell BK189.out 1).trans rfl
            have hcz54_2 : wc.cell? ⟨gb189, 2, none⟩ = some (.int .i64 a0_2) := (blk_cell BK189.out 2).trans rfl
            have hcz54_3 : wc.cell? ⟨gb189, 3, none⟩ = some (.int .i64 a0_3) := (blk_cell BK189.out 3).trans rfl
            have hcz54_4 : wc.cell? ⟨gb189, 4, none⟩ = some (.int .i64 a0_4) := (blk_cell BK189.out 4).trans rfl
            have hcz54_5 : wc.cell? ⟨gb189, 5, none⟩ = some (.int .i64 a0_5) := (blk_cell BK189.out 5).trans rfl
            have hcz54_6 : wc.cell? ⟨gb189, 6, none⟩ = some (.bool a0_6) := (blk_cell BK189.out 6).trans rfl
            have hfz54_0 := blk_frozen BK189.out 0
            have hfz54_1 := blk_frozen BK189.out 1
            have hfz54_2 := blk_frozen BK189.out 2
            have hfz54_3 := blk_frozen BK189.out 3
            have hfz54_4 := blk_frozen BK189.out 4
            have hfz54_5 := blk_frozen BK189.out 5
            have hfz54_6 := blk_frozen BK189.out 6
            go_wp2_with (first | ((with_reducible refine gate_callee (f := 27) rfl ?_); refine goesL_ (some 55) rfl rfl Try.func27 (by kernel_rfl) rfl #[.int .i64 a0_1] rfl (by (try simp only [List.map_toArray, List.map_cons, List.map_nil]); first | done | rfl | (simp only [List.length_drop, List.length_take]; rfl)) ?_; (with_reducible refine (swarfref44_in.calls a0_1 false _ A42.out).mono ?_); rintro e w' ⟨rfl, ⟨nd, rfl⟩⟩; refine ⟨_, rfl, ?_⟩))
            go_meet
            case rel => exact ⟨_, (true), (by first | rfl | (simp; done) | (simp [*]; done)), H', ⟨by have := HJ1.out; first | omega | exact Nat.le_refl _⟩, ⟨by (with_reducible repeat (first | refine blk_drewN ?_ _ | refine blk_drew ?_ | refine blk_alloc ?_ _)); exact BK189.out⟩, ⟨by repeat (first | (with_reducible first | exact HB.out | apply below_alloc | apply pw_below_drewN | apply below_drew1 | refine below_set ?_ GE189.out) | exact HB.out)⟩⟩
        case rest =>
          clear HC41
          try clear c1
          try clear c2
          try clear p2
          try clear c3
          try clear c4
          try clear c5
          try clear c5b0
          try clear c5b1
          try clear c6
          try clear c6b0
          try clear c8
          try clear c8b0
          try clear c10
          try clear c10b0
          try clear c12
          try clear c12b0
          try clear c13
          try clear c14
          try clear c14b0
          try clear c14b1
          try clear c17
          try clear c17b0
          try clear c17b1
          try clear c18
          try clear c18b0
          try clear c20
          try clear c20b0
          try clear c22
          try clear c22b0
          try clear c24
          try clear c24b0
          try clear c26
          try clear c26b0
          try clear c26b1
          try clear c27
          try clear c29
          try clear c29b0
          try clear c29b1
          try clear c30
          try clear c30b0
          try clear c32
          try clear c32b0
          try clear c34
          try clear c34b0
          try clear c36
          try clear c36b0
          try clear c40
          try clear c43
          try clear c45
          try clear c47
          try clear c48
          try clear hcz11_0
          try clear hcz11_1
          try clear hcz11_2
          try clear hcz11_3
          try clear hcz11_4
          try clear hcz11_5
          try clear hcz11_6
          try clear hcz13_0
          try clear hcz13_1
          try clear hcz13_2
          try clear hcz13_3
          try clear hcz13_4
          try clear hcz13_5
          try clear hcz13_6
          try clear hcz15_0
          try clear hcz15_1
          try clear hcz15_2
          try clear hcz15_3
          try clear hcz15_4
          try clear hcz15_5
          try clear hcz15_6
          try clear hcz16_0
          try clear hcz16_1
          try clear hcz16_2
          try clear hcz16_3
          try clear hcz16_4
          try clear hcz16_5
          try clear hcz16_6
          try clear hcz19_0
          try clear hcz19_1
          try clear hcz19_2
          try clear hcz19_3
          try clear hcz19_4
          try clear hcz19_5
          try clear hcz19_6
          try clear hcz21_0
          try clear hcz21_1
          try clear hcz21_2
          try clear hcz21_3
          try clear hcz21_4
          try clear hcz21_5
          try clear hcz21_6
          try clear hcz23_0
          try clear hcz23_1
          try clear hcz23_2
          try clear hcz23_3
          try clear hcz23_4
          try clear hcz23_5
          try clear hcz23_6
          try clear hcz25_0
          try clear hcz25_1
          try clear hcz25_2
          try clear hcz25_3
          try clear hcz25_4
          try clear hcz25_5
          try clear hcz25_6
          try clear hcz27_0
          try clear hcz27_1
          try clear hcz27_2
          try clear hcz27_3
          try clear hcz27_4
          try clear hcz27_5
          try clear hcz27_6
          try clear hcz28_0
          try clear hcz28_1
          try clear hcz28_2
          try clear hcz28_3
          try clear hcz28_4
          try clear hcz28_5
          try clear hcz28_6
          try clear hcz31_0
          try clear hcz31_1
          try clear hcz31_2
          try clear hcz31_3
          try clear hcz31_4
          try clear hcz31_5
          try clear hcz31_6
          try clear hcz33_0
          try clear hcz33_1
          try clear hcz33_2
          try clear hcz33_3
          try clear hcz33_4
          try clear hcz33_5
          try clear hcz33_6
          try clear hcz35_0
          try clear hcz35_1
          try clear hcz35_2
          try clear hcz35_3
          try clear hcz35_4
          try clear hcz35_5
          try clear hcz35_6
          try clear hcz37_0
          try clear hcz37_1
          try clear hcz37_2
          try clear hcz37_3
          try clear hcz37_4
          try clear hcz37_5
          try clear hcz37_6
          try clear hcz38_0
          try clear hcz38_1
          try clear hcz38_2
          try clear hcz38_3
          try clear hcz38_4
          try clear hcz38_5
          try clear hcz38_6
          try clear hcz39_0
          try clear hcz39_1
          try clear hcz39_2
          try clear hcz39_3
          try clear hcz39_4
          try clear hcz39_5
          try clear hcz39_6
          try clear hcz4_0
          try clear hcz4_1
          try clear hcz4_2
          try clear hcz4_3
          try clear hcz4_4
          try clear hcz4_5
          try clear hcz4_6
          try clear hcz50_0
          try clear hcz50_1
          try clear hcz50_2
          try clear hcz50_3
          try clear hcz50_4
          try clear hcz50_5
          try clear hcz50_6
          try clear hcz51_0
          try clear hcz51_1
          try clear hcz51_2
          try clear hcz51_3
          try clear hcz51_4
          try clear hcz51_5
          try clear hcz51_6
          try clear hcz52_0
          try clear hcz52_1
          try clear hcz52_2
          try clear hcz52_3
          try clear hcz52_4
          try clear hcz52_5
          try clear hcz52_6
          try clear hcz53_0
          try clear hcz53_1
          try clear hcz53_2
          try clear hcz53_3
          try clear hcz53_4
          try clear hcz53_5
          try clear hcz53_6
          try clear hcz54_0
          try clear hcz54_1
          try clear hcz54_2
          try clear hcz54_3
          try clear hcz54_4
          try clear hcz54_5
          try clear hcz54_6
          try clear hcz7_0
          try clear hcz7_1
          try clear hcz7_2
          try clear hcz7_3
          try clear hcz7_4
          try clear hcz7_5
          try clear hcz7_6
          try clear hcz9_0
          try clear hcz9_1
          try clear hcz9_2
          try clear hcz9_3
          try clear hcz9_4
          try clear hcz9_5
          try clear hcz9_6
          try clear hfz11_0
          try clear hfz11_1
          try clear hfz11_2
          try clear hfz11_3
          try clear hfz11_4
          try clear hfz11_5
          try clear hfz11_6
          try clear hfz13_0
          try clear hfz13_1
          try clear hfz13_2
          try clear hfz13_3
          try clear hfz13_4
          try clear hfz13_5
          try clear hfz13_6
          try clear hfz15_0
          try clear hfz15_1
          try clear hfz15_2
          try clear hfz15_3
          try clear hfz15_4
          try clear hfz15_5
          try clear hfz15_6
          try clear hfz16_0
          try clear hfz16_1
          try clear hfz16_2
          try clear hfz16_3
          try clear hfz16_4
          try clear hfz16_5
          try clear hfz16_6
          try clear hfz19_0
          try clear hfz19_1
          try clear hfz19_2
          try clear hfz19_3
          try clear hfz19_4
          try clear hfz19_5
          try clear hfz19_6
          try clear hfz21_0
          try clear hfz21_1
          try clear hfz21_2
          try clear hfz21_3
          try clear hfz21_4
          try clear hfz21_5
          try clear hfz21_6
          try clear hfz23_0
          try clear hfz23_1
          try clear hfz23_2
          try clear hfz23_3
          try clear hfz23_4
          try clear hfz23_5
          try clear hfz23_6
          try clear hfz25_0
          try clear hfz25_1
          try clear hfz25_2
          try clear hfz25_3
          try clear hfz25_4
          try clear hfz25_5
          try clear hfz25_6
          try clear hfz27_0
          try clear hfz27_1
          try clear hfz27_2
          try clear hfz27_3
          try clear hfz27_4
          try clear hfz27_5
          try clear hfz27_6
          try clear hfz28_0
          try clear hfz28_1
          try clear hfz28_2
          try clear hfz28_3
          try clear hfz28_4
          try clear hfz28_5
          try clear hfz28_6
          try clear hfz31_0
          try clear hfz31_1
          try clear hfz31_2
          try clear hfz31_3
          try clear hfz31_4
          try clear hfz31_5
          try clear hfz31_6
          try clear hfz33_0
          try clear hfz33_1
          try clear hfz33_2
          try clear hfz33_3
          try clear hfz33_4
          try clear hfz33_5
          try clear hfz33_6
          try clear hfz35_0
          try clear hfz35_1
          try clear hfz35_2
          try clear hfz35_3
          try clear hfz35_4
          try clear hfz35_5
          try clear hfz35_6
          try clear hfz37_0
          try clear hfz37_1
          try clear hfz37_2
          try clear hfz37_3
          try clear hfz37_4
          try clear hfz37_5
          try clear hfz37_6
          try clear hfz38_0
          try clear hfz38_1
          try clear hfz38_2
          try clear hfz38_3
          try clear hfz38_4
          try clear hfz38_5
          try clear hfz38_6
          try clear hfz39_0
          try clear hfz39_1
          try clear hfz39_2
          try clear hfz39_3
          try clear hfz39_4
          try clear hfz39_5
          try clear hfz39_6
          try clear hfz4_0
          try clear hfz4_1
          try clear hfz4_2
          try clear hfz4_3
          try clear hfz4_4
          try clear hfz4_5
          try clear hfz4_6
          try clear hfz50_0
          try clear hfz50_1
          try clear hfz50_2
          try clear hfz50_3
          try clear hfz50_4
          try clear hfz50_5
          try clear hfz50_6
          try clear hfz51_0
          try clear hfz51_1
          try clear hfz51_2
          try clear hfz51_3
          try clear hfz51_4
          try clear hfz51_5
          try clear hfz51_6
          try clear hfz52_0
          try clear hfz52_1
          try clear hfz52_2
          try clear hfz52_3
          try clear hfz52_4
          try clear hfz52_5
          try clear hfz52_6
          try clear hfz53_0
          try clear hfz53_1
          try clear hfz53_2
          try clear hfz53_3
          try clear hfz53_4
          try clear hfz53_5
          try clear hfz53_6
          try clear hfz54_0
          try clear hfz54_1
          try clear hfz54_2
          try clear hfz54_3
          try clear hfz54_4
          try clear hfz54_5
          try clear hfz54_6
          try clear hfz7_0
          try clear hfz7_1
          try clear hfz7_2
          try clear hfz7_3
          try clear hfz7_4
          try clear hfz7_5
          try clear hfz7_6
          try clear hfz9_0
          try clear hfz9_1
          try clear hfz9_2
          try clear hfz9_3
          try clear hfz9_4
          try clear hfz9_5
          try clear hfz9_6
          try clear p2
          obtain ⟨kq, x77_40, rfl, HA, HJ40, BK189, HB⟩ := hcut
          cases kq with
          | zero => exact absurd HA.out (by simp [swarfref44_Valid.j1])
          | succ kj40 =>
            have H := HA.out
            clear HA
            simp only [swarfref44_Valid.j1] at H
            by_cases c55 : x77_40 = true
            · subst c55
              have H1 : (some 11) = some r := by rw [if_pos rfl] at H; exact H
              clear H
              have H := H1
              clear H1
              obtain rfl := Option.some.inj H
              go_wp2
              go_ret
              exact ⟨by first | rfl | (simp [errW_none, errW_some] <;> rfl) | (simp [*, errW_none, errW_some] <;> rfl), by repeat (first | (with_reducible first | exact HB.out | apply below_alloc | apply pw_below_drewN | apply below_drew1 | refine below_set ?_ GE189.out) | exact HB.out)⟩
            · replace c55 := Bool.eq_false_iff.mpr c55
              subst c55
              have H1 : (if x3_1 = true then (swarfref44_Valid.l0 kj40 0 (wrap64 (a0_1 - a0_3)) a0_0 a0_1 a0_2 a0_3 a0_4 a0_5 a0_6) else (some 0)) = some r := by rw [if_neg (show ¬ (false = true) by decide)] at H; exact H
              clear H
              have H := H1
              clear H1
              by_cases c56 : x3_1 = true
              · subst c56
                have H1 : (swarfref44_Valid.l0 kj40 0 (wrap64 (a0_1 - a0_3)) a0_0 a0_1 a0_2 a0_3 a0_4 a0_5 a0_6) = some r := by rw [if_pos rfl] at H; exact H
                clear H
                have H := H1
                clear H1
                have H' := Aside0.mk H
                clear H
                have hcz57_0 : wc.cell? ⟨gb189, 0, none⟩ = some (.int .i64 a0_0) := (blk_cell BK189.out 0).trans rfl
                have hcz57_1 : wc.cell? ⟨gb189, 1, none⟩ = some (.int .i64 a0_1) := (blk_cell BK189.out 1).trans rfl
                have hcz57_2 : wc.cell? ⟨gb189, 2, none⟩ = some (.int .i64 a0_2) := (blk_cell BK189.out 2).trans rfl
                have hcz57_3 : wc.cell? ⟨gb189, 3, none⟩ = some (.int .i64 a0_3) := (blk_cell BK189.out 3).trans rfl
                have hcz57_4 : wc.cell? ⟨gb189, 4, none⟩ = some (.int .i64 a0_4) := (blk_cell BK189.out 4).trans rfl
                have hcz57_5 : wc.cell? ⟨gb189, 5, none⟩ = some (.int .i64 a0_5) := (blk_cell BK189.out 5).trans rfl
                have hcz57_6 : wc.cell? ⟨gb189, 6, none⟩ = some (.bool a0_6) := (blk_cell BK189.out 6).trans rfl
                have hfz57_0 := blk_frozen BK189.out 0
                have hfz57_1 := blk_frozen BK189.out 1
                have hfz57_2 := blk_frozen BK189.out 2
                have hfz57_3 := blk_frozen BK189.out 3
                have hfz57_4 := blk_frozen BK189.out 4
                have hfz57_5 := blk_frozen BK189.out 5
                have hfz57_6 := blk_frozen BK189.out 6
                go_wp2
                go_loopg [4, 5] kj40 (fun kq v4 v5 w' => ∃ (x4_3 : Int) (x5_3 : Int), v4 = .int .i64 x4_3 ∧ v5 = .int .i64 x5_3 ∧ Aside0 (swarfref44_Valid.l0 kq x4_3 x5_3 a0_0 a0_1 a0_2 a0_3 a0_4 a0_5 a0_6 = some r) ∧ Aside0 (kq ≤ kj40) ∧ Aside0 (w'.heap[gb189]? = some (.cells #[.int .i64 a0_0, .int .i64 a0_1, .int .i64 a0_2, .int .i64 a0_3, .int .i64 a0_4, .int .i64 a0_5, .bool a0_6] 23 (0, 0))) ∧ Aside0 (Below w.heap.size w w'))
                case atStart => exact ⟨(0), (wrap64 (a0_1 - a0_3)), (by first | rfl | (simp; done) | (simp [*]; done)), (by first | rfl | (simp; done) | (simp [*]; done)), H', ⟨Nat.le_refl _⟩, ⟨by (with_reducible repeat (first | refine blk_drewN ?_ _ | refine blk_drew ?_ | refine blk_alloc ?_ _)); exact BK189.out⟩, ⟨by repeat (first | (with_reducible first | exact HB.out | apply below_alloc | apply pw_below_drewN | apply below_drew1 | refine below_set ?_ GE189.out) | exact HB.out)⟩⟩
                case round =>
                  clear H'
                  try clear c1
                  try clear c2
                  try clear p2
                  try clear c3
                  try clear c4
                  try clear c5
                  try clear c5b0
                  try clear c5b1
                  try clear c6
                  try clear c6b0
                  try clear p6
                  try clear c8
                  try clear c8b0
                  try clear c10
                  try clear c10b0
                  try clear c12
                  try clear c12b0
                  try clear c13
                  try clear c14
                  try clear c14b0
                  try clear c14b1
                  try clear c17
                  try clear c17b0
                  try clear c17b1
                  try clear c18
                  try clear c18b0
                  try clear c20
                  try clear c20b0
                  try clear c22
                  try clear c22b0
                  try clear c24
                  try clear c24b0
                  try clear c26
                  try clear c26b0
                  try clear c26b1
                  try clear c27
                  try clear c29
                  try clear c29b0
                  try clear c29b1
                  try clear c30
                  try clear c30b0
                  try clear c32
                  try clear c32b0
                  try clear c34
                  try clear c34b0
                  try clear c36
                  try clear c36b0
                  try clear c40
                  try clear c43
                  try clear c45
                  try clear c47
                  try clear c48
                  try clear c55
                  try clear c56
                  try clear hcz11_0
                  try clear hcz11_1
                  try clear hcz11_2
                  try clear hcz11_3
                  try clear hcz11_4
                  try clear hcz11_5
                  try clear hcz11_6
                  try clear hcz13_0
                  try clear hcz13_1
                  try clear hcz13_2
                  try clear hcz13_3
                  try clear hcz13_4
                  try clear hcz13_5
                  try clear hcz13_6
                  try clear hcz15_0
                  try clear hcz15_1
                  try clear hcz15_2
                  try clear hcz15_3
                  try clear hcz15_4
                  try clear hcz15_5
                  try clear hcz15_6
                  try clear hcz16_0
                  try clear hcz16_1
                  try clear hcz16_2
                  try clear hcz16_3
                  try clear hcz16_4
                  try clear hcz16_5
                  try clear hcz16_6
                  try clear hcz19_0
                  try clear hcz19_1
                  try clear hcz19_2
                  try clear hcz19_3
                  try clear hcz19_4
                  try clear hcz19_5
                  try clear hcz19_6
                  try clear hcz21_0
                  try clear hcz21_1
                  try clear hcz21_2
                  try clear hcz21_3
                  try clear hcz21_4
                  try clear hcz21_5
                  try clear hcz21_6
                  try clear hcz23_0
                  try clear hcz23_1
                  try clear hcz23_2
                  try clear hcz23_3
                  try clear hcz23_4
                  try clear hcz23_5
                  try clear hcz23_6
                  try clear hcz25_0
                  try clear hcz25_1
                  try clear hcz25_2
                  try clear hcz25_3
                  try clear hcz25_4
                  try clear hcz25_5
                  try clear hcz25_6
                  try clear hcz27_0
                  try clear hcz27_1
                  try clear hcz27_2
                  try clear hcz27_3
                  try clear hcz27_4
                  try clear hcz27_5
                  try clear hcz27_6
                  try clear hcz28_0
                  try clear hcz28_1
                  try clear hcz28_2
                  try clear hcz28_3
                  try clear hcz28_4
                  try clear hcz28_5
                  try clear hcz28_6
                  try clear hcz31_0
                  try clear hcz31_1
                  try clear hcz31_2
                  try clear hcz31_3
                  try clear hcz31_4
                  try clear hcz31_5
                  try clear hcz31_6
                  try clear hcz33_0
                  try clear hcz33_1
                  try clear hcz33_2
                  try clear hcz33_3
                  try clear hcz33_4
                  try clear hcz33_5
                  try clear hcz33_6
                  try clear hcz35_0
                  try clear hcz35_1
                  try clear hcz35_2
                  try clear hcz35_3
                  try clear hcz35_4
                  try clear hcz35_5
                  try clear hcz35_6
                  try clear hcz37_0
                  try clear hcz37_1
                  try clear hcz37_2
                  try clear hcz37_3
                  try clear hcz37_4
                  try clear hcz37_5
                  try clear hcz37_6
                  try clear hcz38_0
                  try clear hcz38_1
                  try clear hcz38_2
                  try clear hcz38_3
                  try clear hcz38_4
                  try clear hcz38_5
                  try clear hcz38_6
                  try clear hcz39_0
                  try clear hcz39_1
                  try clear hcz39_2
                  try clear hcz39_3
                  try clear hcz39_4
                  try clear hcz39_5
                  try clear hcz39_6
                  try clear hcz4_0
                  try clear hcz4_1
                  try clear hcz4_2
                  try clear hcz4_3
                  try clear hcz4_4
                  try clear hcz4_5
                  try clear hcz4_6
                  try clear hcz50_0
                  try clear hcz50_1
                  try clear hcz50_2
                  try clear hcz50_3
                  try clear hcz50_4
                  try clear hcz50_5
                  try clear hcz50_6
                  try clear hcz51_0
                  try clear hcz51_1
                  try clear hcz51_2
                  try clear hcz51_3
                  try clear hcz51_4
                  try clear hcz51_5
                  try clear hcz51_6
                  try clear hcz52_0
                  try clear hcz52_1
                  try clear hcz52_2
                  try clear hcz52_3
                  try clear hcz52_4
                  try clear hcz52_5
                  try clear hcz52_6
                  try clear hcz53_0
                  try clear hcz53_1
                  try clear hcz53_2
                  try clear hcz53_3
                  try clear hcz53_4
                  try clear hcz53_5
                  try clear hcz53_6
                  try clear hcz54_0
                  try clear hcz54_1
                  try clear hcz54_2
                  try clear hcz54_3
                  try clear hcz54_4
                  try clear hcz54_5
                  try clear hcz54_6
                  try clear hcz57_0
                  try clear hcz57_1
                  try clear hcz57_2
                  try clear hcz57_3
                  try clear hcz57_4
                  try clear hcz57_5
                  try clear hcz57_6
                  try clear hcz7_0
                  try clear hcz7_1
                  try clear hcz7_2
                  try clear hcz7_3
                  try clear hcz7_4
                  try clear hcz7_5
                  try clear hcz7_6
                  try clear hcz9_0
                  try clear hcz9_1
                  try clear hcz9_2
                  try clear hcz9_3
                  try clear hcz9_4
                  try clear hcz9_5
                  try clear hcz9_6
                  try clear hfz11_0
                  try clear hfz11_1
                  try clear hfz11_2
                  try clear hfz11_3
                  try clear hfz11_4
                  try clear hfz11_5
                  try clear hfz11_6
                  try clear hfz13_0
                  try clear hfz13_1
                  try clear hfz13_2
                  try clear hfz13_3
                  try clear hfz13_4
                  try clear hfz13_5
                  try clear hfz13_6
                  try clear hfz15_0
                  try clear hfz15_1
                  try clear hfz15_2
                  try clear hfz15_3
                  try clear hfz15_4
                  try clear hfz15_5
                  try clear hfz15_6
                  try clear hfz16_0
                  try clear hfz16_1
                  try clear hfz16_2
                  try clear hfz16_3
                  try clear hfz16_4
                  try clear hfz16_5
                  try clear hfz16_6
                  try clear hfz19_0
                  try clear hfz19_1
                  try clear hfz19_2
                  try clear hfz19_3
                  try clear hfz19_4
                  try clear hfz19_5
                  try clear hfz19_6
                  try clear hfz21_0
                  try clear hfz21_1
                  try clear hfz21_2
                  try clear hfz21_3
                  try clear hfz21_4
                  try clear hfz21_5
                  try clear hfz21_6
                  try clear hfz23_0
                  try clear hfz23_1
                  try clear hfz23_2
                  try clear hfz23_3
                  try clear hfz23_4
                  try clear hfz23_5
                  try clear hfz23_6
                  try clear hfz25_0
                  try clear hfz25_1
                  try clear hfz25_2
                  try clear hfz25_3
                  try clear hfz25_4
                  try clear hfz25_5
                  try clear hfz25_6
                  try clear hfz27_0
                  try clear hfz27_1
                  try clear hfz27_2
                  try clear hfz27_3
                  try clear hfz27_4
                  try clear hfz27_5
                  try clear hfz27_6
                  try clear hfz28_0
                  try clear hfz28_1
                  try clear hfz28_2
                  try clear hfz28_3
                  try clear hfz28_4
                  try clear hfz28_5
                  try clear hfz28_6
                  try clear hfz31_0
                  try clear hfz31_1
                  try clear hfz31_2
                  try clear hfz31_3
                  try clear hfz31_4
                  try clear hfz31_5
                  try clear hfz31_6
                  try clear hfz33_0
                  try clear hfz33_1
                  try clear hfz33_2
                  try clear hfz33_3
                  try clear hfz33_4
                  try clear hfz33_5
                  try clear hfz33_6
                  try clear hfz35_0
                  try clear hfz35_1
                  try clear hfz35_2
                  try clear hfz35_3
                  try clear hfz35_4
                  try clear hfz35_5
                  try clear hfz35_6
                  try clear hfz37_0
                  try clear hfz37_1
                  try clear hfz37_2
                  try clear hfz37_3
                  try clear hfz37_4
                  try clear hfz37_5
                  try clear hfz37_6
                  try clear hfz38_0
                  try clear hfz38_1
                  try clear hfz38_2
                  try clear hfz38_3
                  try clear hfz38_4
                  try clear hfz38_5
                  try clear hfz38_6
                  try clear hfz39_0
                  try clear hfz39_1
                  try clear hfz39_2
                  try clear hfz39_3
                  try clear hfz39_4
                  try clear hfz39_5
                  try clear hfz39_6
                  try clear hfz4_0
                  try clear hfz4_1
                  try clear hfz4_2
                  try clear hfz4_3
                  try clear hfz4_4
                  try clear hfz4_5
                  try clear hfz4_6
                  try clear hfz50_0
                  try clear hfz50_1
                  try clear hfz50_2
                  try clear hfz50_3
                  try clear hfz50_4
                  try clear hfz50_5
                  try clear hfz50_6
                  try clear hfz51_0
                  try clear hfz51_1
                  try clear hfz51_2
                  try clear hfz51_3
                  try clear hfz51_4
                  try clear hfz51_5
                  try clear hfz51_6
                  try clear hfz52_0
                  try clear hfz52_1
                  try clear hfz52_2
                  try clear hfz52_3
                  try clear hfz52_4
                  try clear hfz52_5
                  try clear hfz52_6
                  try clear hfz53_0
                  try clear hfz53_1
                  try clear hfz53_2
                  try clear hfz53_3
                  try clear hfz53_4
                  try clear hfz53_5
                  try clear hfz53_6
                  try clear hfz54_0
                  try clear hfz54_1
                  try clear hfz54_2
                  try clear hfz54_3
                  try clear hfz54_4
                  try clear hfz54_5
                  try clear hfz54_6
                  try clear hfz57_0
                  try clear hfz57_1
                  try clear hfz57_2
                  try clear hfz57_3
                  try clear hfz57_4
                  try clear hfz57_5
                  try clear hfz57_6
                  try clear hfz7_0
                  try clear hfz7_1
                  try clear hfz7_2
                  try clear hfz7_3
                  try clear hfz7_4
                  try clear hfz7_5
                  try clear hfz7_6
                  try clear hfz9_0
                  try clear hfz9_1
                  try clear hfz9_2
                  try clear hfz9_3
                  try clear hfz9_4
                  try clear hfz9_5
                  try clear hfz9_6
                  try clear p2
                  obtain ⟨x4_3, x5_3, rfl, rfl, HA, HK3, BK189, HB⟩ := hrel
                  cases gk with
                  | zero => exact absurd HA.out (by simp [swarfref44_Valid.l0])
                  | succ k3 =>
                    have H := HA.out
                    clear HA
                    simp only [swarfref44_Valid.l0] at H
                    by_cases c58 : x5_3 > a0_2
                    · rw [if_pos c58] at H
                      have c58b0 : decide (a0_2 < x5_3) = true := decide_eq_true c58
                      clear c58
                      by_cases c59 : (wrap64 (x4_3 + 1)) > 999
                      · rw [if_pos c59] at H
                        have c59b0 : decide (999 < (wrap64 (x4_3 + 1))) = true := decide_eq_true c59
                        clear c59
                        obtain rfl := Option.some.inj H
                        have hcz60_0 : wr.cell? ⟨gb189, 0, none⟩ = some (.int .i64 a0_0) := (blk_cell BK189.out 0).trans rfl
                        have hcz60_1 : wr.cell? ⟨gb189, 1, none⟩ = some (.int .i64 a0_1) := (blk_cell BK189.out 1).trans rfl
                        have hcz60_2 : wr.cell? ⟨gb189, 2, none⟩ = some (.int .i64 a0_2) := (blk_cell BK189.out 2).trans rfl
                        have hcz60_3 : wr.cell? ⟨gb189, 3, none⟩ = some (.int .i64 a0_3) := (blk_cell BK189.out 3).trans rfl
                        have hcz60_4 : wr.cell? ⟨gb189, 4, none⟩ = some (.int .i64 a0_4) := (blk_cell BK189.out 4).trans rfl
                        have hcz60_5 : wr.cell? ⟨gb189, 5, none⟩ = some (.int .i64 a0_5) := (blk_cell BK189.out 5).trans rfl
                        have hcz60_6 : wr.cell? ⟨gb189, 6, none⟩ = some (.bool a0_6) := (blk_cell BK189.out 6).trans rfl
                        have hfz60_0 := blk_frozen BK189.out 0
                        have hfz60_1 := blk_frozen BK189.out 1
                        have hfz60_2 := blk_frozen BK189.out 2
                        have hfz60_3 := blk_frozen BK189.out 3
                        have hfz60_4 := blk_frozen BK189.out 4
                        have hfz60_5 := blk_frozen BK189.out 5
                        have hfz60_6 := blk_frozen BK189.out 6
                        go_wp2
                        go_ret
                        exact ⟨by first | rfl | (simp [errW_none, errW_some] <;> rfl) | (simp [*, errW_none, errW_some] <;> rfl), by repeat (first | (with_reducible first | exact HB.out | apply below_alloc | apply pw_below_drewN | apply below_drew1 | refine below_set ?_ GE189.out) | exact HB.out)⟩
                      · rw [if_neg c59] at H
                        have c59b0 : decide (999 < (wrap64 (x4_3 + 1))) = false := decide_eq_false c59
                        clear c59
                        have H' := Aside0.mk H
                        clear H
                        have hcz61_0 : wr.cell? ⟨gb189, 0, none⟩ = some (.int .i64 a0_0) := (blk_cell BK189.out 0).trans rfl
                        have hcz61_1 : wr.cell? ⟨gb189, 1, none⟩ = some (.int .i64 a0_1) := (blk_cell BK189.out 1).trans rfl
                        have hcz61_2 : wr.cell? ⟨gb189, 2, none⟩ = some (.int .i64 a0_2) := (blk_cell BK189.out 2).trans rfl
                        have hcz61_3 : wr.cell? ⟨gb189, 3, none⟩ = some (.int .i64 a0_3) := (blk_cell BK189.out 3).trans rfl
                        have hcz61_4 : wr.cell? ⟨gb189, 4, none⟩ = some (.int .i64 a0_4) := (blk_cell BK189.out 4).trans rfl
                        have hcz61_5 : wr.cell? ⟨gb189, 5, none⟩ = some (.int .i64 a0_5) := (blk_cell BK189.out 5).trans rfl
                        have hcz61_6 : wr.cell? ⟨gb189, 6, none⟩ = some (.bool a0_6) := (blk_cell BK189.out 6).trans rfl
                        have hfz61_0 := blk_frozen BK189.out 0
                        have hfz61_1 := blk_frozen BK189.out 1
                        have hfz61_2 := blk_frozen BK189.out 2
                        have hfz61_3 := blk_frozen BK189.out 3
                        have hfz61_4 := blk_frozen BK189.out 4
                        have hfz61_5 := blk_frozen BK189.out 5
                        have hfz61_6 := blk_frozen BK189.out 6
                        go_wp2
                        go_roundg k3
                        case measure => have := HJ1.out; have := HJ40.out; have := HK3.out; omega
                        case rel => exact ⟨(wrap64 (x4_3 + 1)), (wrap64 (x5_3 - a0_3)), (by first | rfl | (simp; done) | (simp [*]; done)), (by first | rfl | (simp; done) | (simp [*]; done)), H', ⟨by have := HJ1.out; have := HJ40.out; have := HK3.out; omega⟩, ⟨by (with_reducible repeat (first | refine blk_drewN ?_ _ | refine blk_drew ?_ | refine blk_alloc ?_ _)); exact BK189.out⟩, ⟨by repeat (first | (with_reducible first | exact HB.out | apply below_alloc | apply pw_below_drewN | apply below_drew1 | refine below_set ?_ GE189.out) | exact HB.out)⟩⟩
                    · rw [if_neg c58] at H
                      have c58b0 : decide (a0_2 < x5_3) = false := decide_eq_false c58
                      clear c58
                      obtain rfl := Option.some.inj H
                      have hcz62_0 : wr.cell? ⟨gb189, 0, none⟩ = some (.int .i64 a0_0) := (blk_cell BK189.out 0).trans rfl
                      have hcz62_1 : wr.cell? ⟨gb189, 1, none⟩ = some (.int .i64 a0_1) := (blk_cell BK189.out 1).trans rfl
                      have hcz62_2 : wr.cell? ⟨gb189, 2, none⟩ = some (.int .i64 a0_2) := (blk_cell BK189.out 2).trans rfl
                      have hcz62_3 : wr.cell? ⟨gb189, 3, none⟩ = some (.int .i64 a0_3) := (blk_cell BK189.out 3).trans rfl
                      have hcz62_4 : wr.cell? ⟨gb189, 4, none⟩ = some (.int .i64 a0_4) := (blk_cell BK189.out 4).trans rfl
                      have hcz62_5 : wr.cell? ⟨gb189, 5, none⟩ = some (.int .i64 a0_5) := (blk_cell BK189.out 5).trans rfl
                      have hcz62_6 : wr.cell? ⟨gb189, 6, none⟩ = some (.bool a0_6) := (blk_cell BK189.out 6).trans rfl
                      have hfz62_0 := blk_frozen BK189.out 0
                      have hfz62_1 := blk_frozen BK189.out 1
                      have hfz62_2 := blk_frozen BK189.out 2
                      have hfz62_3 := blk_frozen BK189.out 3
                      have hfz62_4 := blk_frozen BK189.out 4
                      have hfz62_5 := blk_frozen BK189.out 5
                      have hfz62_6 := blk_frozen BK189.out 6
                      go_wp2
                      go_ret
                      exact ⟨by first | rfl | (simp [errW_none, errW_some] <;> rfl) | (simp [*, errW_none, errW_some] <;> rfl), by repeat (first | (with_reducible first | exact HB.out | apply below_alloc | apply pw_below_drewN | apply below_drew1 | refine below_set ?_ GE189.out) | exact HB.out)⟩
              · replace c56 := Bool.eq_false_iff.mpr c56
                subst c56
                have H1 : (some 0) = some r := by rw [if_neg (show ¬ (false = true) by decide)] at H; exact H
                clear H
                have H := H1
                clear H1
                obtain rfl := Option.some.inj H
                go_wp2
                go_ret
                exact ⟨by first | rfl | (simp [errW_none, errW_some] <;> rfl) | (simp [*, errW_none, errW_some] <;> rfl), by repeat (first | (with_reducible first | exact HB.out | apply below_alloc | apply pw_below_drewN | apply below_drew1 | refine below_set ?_ GE189.out) | exact HB.out)⟩

end Go.Proofs.Ytmaochcdjmnffaa.P
