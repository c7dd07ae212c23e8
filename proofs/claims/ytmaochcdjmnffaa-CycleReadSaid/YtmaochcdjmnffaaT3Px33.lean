-- PRINTED by print.py (a twelfth state) out of the translation. Not trusted: Lean checks it.
import Derived.Test.YtmaochcdjmnffaaT3Px0
import Derived.Test.YtmaochcdjmnffaaT3Px32
namespace Go.Proofs.Ytmaochcdjmnffaa.P
open Go.RowKit Go.Proofs.YtmaochcdjmnffaaW.PrintWords Go.Proofs.YtmaochcdjmnffaaW.PrintLast Go.Proofs.YtmaochcdjmnffaaW.PrintMore
attribute [local go_sem] max2_int min2_int max_two min_two max_three min_three max_four min_four   -- for this text's walks alone
set_option linter.unusedVariables false
set_option linter.unusedSimpArgs false

/-! ### swarfref44_value: function 32 -/
def swarfref44_value.f (k : Nat) (a0_0 : Bool) (l0_1 : List (S80)) (a0_2 : ByteArray) (a1 : Int) (a2 : Int) : Option (Int) := (swarfref41_Find.f k a0_0 l0_1 a0_2 a1).bind fun bt364 => (if bt364.2 = true then (some bt364.1) else (some a2))
theorem swarfref44_value.mono : ∀ a0 a1 a2 a3 a4 k, LeO (swarfref44_value.f k a0 a1 a2 a3 a4) (swarfref44_value.f (k + 1) a0 a1 a2 a3 a4) := by
  intro a0 a1 a2 a3 a4 k
  unfold swarfref44_value.f
  repeat' first
      | (with_reducible exact swarfref41_Find.mono _ _ _ _ _)
      | (with_reducible exact LeO.refl _)
      | (with_reducible exact LeO.none _)
      | (with_reducible refine LeO.ite ?_ ?_)
      | (with_reducible refine LeO.bind ?_ (fun _ => ?_))
      | exact swarfref41_Find.mono _ _ _ _ _
      | exact LeO.none _
      | refine LeO.ite ?_ ?_
      | refine LeO.bind ?_ (fun _ => ?_)
set_option maxHeartbeats 8000000 in
set_option maxRecDepth 100000 in
theorem swarfref44_value.calls (k : Nat) (a0_0 : Bool) (A0_1 : Option Addr) (c0_1 : Nat) (l0_1 : List (S80)) (a0_2 : ByteArray) (a1 : Int) (a2 : Int) (r : Int) (w : World) (hr0_1 : Kd.C k80 w A0_1 l0_1.length l0_1) (hc0_1 : l0_1.length ≤ c0_1) (h : swarfref44_value.f k a0_0 l0_1 a0_2 a1 a2 = some r) :
    Calls Try.prog 32 #[.agg #[.bool a0_0, .slice A0_1 l0_1.length c0_1, .string a0_2], .int .u8 a1, .int .i64 a2] w fun e w' => e = .returned (.int .i64 r) ∧ Below w.heap.size w w' := by
  have hu54 := Try.underlying54
  have HR0_1 := Aside0.mk hr0_1
  have HC0_1 := Aside0.mk hc0_1
  clear hr0_1 hc0_1
  have HB := Aside0.mk (Below.refl w.heap.size w)
  have H : ((swarfref41_Find.f k a0_0 l0_1 a0_2 a1).bind fun bt364 => (if bt364.2 = true then (some bt364.1) else (some a2))) = some r := h
  clear h
  replace H := Option.bind_eq_some_iff.mp H
  obtain ⟨⟨t364, t365⟩, A40, H⟩ := H
  replace H : (if t365 = true then (some t364) else (some a2)) = some r := H
  have A4 := Aside0.mk A40
  clear A40
  by_cases c5 : t365 = true
  · subst c5
    have H1 : (some t364) = some r := by rw [if_pos rfl] at H; exact H
    clear H
    have H := H1
    clear H1
    obtain rfl := Option.some.inj H
    go_enter Try.func32, Try.ntmps32
    go_wp2_with (first | ((with_reducible refine gate_dst (N := 3) rfl ?_); refine box_event ?hg (N := 3) ?hd (cs := #[.bool a0_0, .slice A0_1 l0_1.length c0_1, .string a0_2]) (t := 54) ?hr ?_; (case hd => rfl); (case hg => rfl); (case hr => first | (go_simp; done) | (go_simp; rfl)); intro gb363 hg w6 hbox hb; have n0_ := Aside0.mk (below_step (by repeat (first | (with_reducible first | exact HB.out | apply below_alloc | apply pw_below_drewN | apply below_drew1) | exact HB.out)) hb); have n1_ := Aside0.mk (hbox); have n2_ := Aside0.mk ((by rw [hg]; exact (below_size (by repeat (first | (with_reducible first | exact HB.out | apply below_alloc | apply pw_below_drewN | apply below_drew1) | exact HB.out))) : w.heap.size ≤ gb363)); have n3_ := Aside0.mk ((by rw [hg]; exact (below_size (by repeat (first | (with_reducible first | exact HB.out | apply below_alloc | apply pw_below_drewN | apply below_drew1) | exact HB.out))) : w.heap.size ≤ gb363)); clear HB; have HB := n0_; have BK363 := n1_; have GW363 := n2_; have GE363 := n3_; clear n0_ n1_ n2_ n3_; clear hb hbox hg; have hcz7_0 : w6.cell? ⟨gb363, 0, none⟩ = some (.bool a0_0) := (blk_cell BK363.out 0).trans rfl; have hcz7_1 : w6.cell? ⟨gb363, 1, none⟩ = some (.slice A0_1 l0_1.length c0_1) := (blk_cell BK363.out 1).trans rfl; have hcz7_2 : w6.cell? ⟨gb363, 2, none⟩ = some (.string a0_2) := (blk_cell BK363.out 2).trans rfl; have hfz7_0 := blk_frozen BK363.out 0; have hfz7_1 := blk_frozen BK363.out 1; have hfz7_2 := blk_frozen BK363.out 2) | ((with_reducible refine gate_callee (f := 38) rfl ?_); refine goesL_ (some 12) rfl rfl Try.func38 (by kernel_rfl) rfl #[.agg #[.bool a0_0, .slice A0_1 l0_1.length c0_1, .string a0_2], .int .u8 a1] rfl (by (try simp only [List.map_toArray, List.map_cons, List.map_nil]); first | done | rfl | (simp only [List.length_drop, List.length_take]; rfl)) ?_; (with_reducible refine (swarfref41_Find.calls k a0_0 _ _ l0_1 a0_2 a1 t364 true _ ?side1 ?side2 A4.out).mono ?_); (case side1 => repeat (first | exact (Kd.C_below HR0_1.out HB.out) | (with_reducible refine Kd.C_alloc ?_ _) | (with_reducible refine Kd.C_drewN ?_ _) | (with_reducible refine Kd.C_drew ?_))); (case side2 => exact HC0_1.out); rintro e w8 ⟨rfl, hb⟩; refine ⟨_, rfl, ?_⟩; have n0_ := Aside0.mk (blk_below (g := gb363) (o := .cells #[.bool a0_0, .slice A0_1 l0_1.length c0_1, .string a0_2] 54 (0, 0)) (by (with_reducible repeat (first | refine blk_drewN ?_ _ | refine blk_drew ?_ | refine blk_alloc ?_ _)); exact BK363.out) hb); have n1_ := Aside0.mk (below_step (by repeat (first | (with_reducible first | exact HB.out | apply below_alloc | apply pw_below_drewN | apply below_drew1 | refine below_set ?_ GE363.out) | exact HB.out)) hb); clear BK363; clear HB; have BK363 := n0_; have HB := n1_; clear n0_ n1_; (try clear hb); (try clear hb2); (try clear hk); (try clear hi)))
    go_ret
    exact ⟨by first | rfl | (simp [errW_none, errW_some] <;> rfl) | (simp [*, errW_none, errW_some] <;> rfl), by repeat (first | (with_reducible first | exact HB.out | apply below_alloc | apply pw_below_drewN | apply below_drew1 | refine below_set ?_ GE363.out) | exact HB.out)⟩
  · replace c5 := Bool.eq_false_iff.mpr c5
    subst c5
    have H1 : (some a2) = some r := by rw [if_neg (show ¬ (false = true) by decide)] at H; exact H
    clear H
    have H := H1
    clear H1
    obtain rfl := Option.some.inj H
    go_enter Try.func32, Try.ntmps32
    go_wp2_with (first | ((with_reducible refine gate_dst (N := 3) rfl ?_); refine box_event ?hg (N := 3) ?hd (cs := #[.bool a0_0, .slice A0_1 l0_1.length c0_1, .string a0_2]) (t := 54) ?hr ?_; (case hd => rfl); (case hg => rfl); (case hr => first | (go_simp; done) | (go_simp; rfl)); intro gb363 hg w9 hbox hb; have n0_ := Aside0.mk (below_step (by repeat (first | (with_reducible first | exact HB.out | apply below_alloc | apply pw_below_drewN | apply below_drew1) | exact HB.out)) hb); have n1_ := Aside0.mk (hbox); have n2_ := Aside0.mk ((by rw [hg]; exact (below_size (by repeat (first | (with_reducible first | exact HB.out | apply below_alloc | apply pw_below_drewN | apply below_drew1) | exact HB.out))) : w.heap.size ≤ gb363)); have n3_ := Aside0.mk ((by rw [hg]; exact (below_size (by repeat (first | (with_reducible first | exact HB.out | apply below_alloc | apply pw_below_drewN | apply below_drew1) | exact HB.out))) : w.heap.size ≤ gb363)); clear HB; have HB := n0_; have BK363 := n1_; have GW363 := n2_; have GE363 := n3_; clear n0_ n1_ n2_ n3_; clear hb hbox hg; have hcz10_0 : w9.cell? ⟨gb363, 0, none⟩ = some (.bool a0_0) := (blk_cell BK363.out 0).trans rfl; have hcz10_1 : w9.cell? ⟨gb363, 1, none⟩ = some (.slice A0_1 l0_1.length c0_1) := (blk_cell BK363.out 1).trans rfl; have hcz10_2 : w9.cell? ⟨gb363, 2, none⟩ = some (.string a0_2) := (blk_cell BK363.out 2).trans rfl; have hfz10_0 := blk_frozen BK363.out 0; have hfz10_1 := blk_frozen BK363.out 1; have hfz10_2 := blk_frozen BK363.out 2) | ((with_reducible refine gate_callee (f := 38) rfl ?_); refine goesL_ (some 12) rfl rfl Try.func38 (by kernel_rfl) rfl #[.agg #[.bool a0_0, .slice A0_1 l0_1.length c0_1, .string a0_2], .int .u8 a1] rfl (by (try simp only [List.map_toArray, List.map_cons, List.map_nil]); first | done | rfl | (simp only [List.length_drop, List.length_take]; rfl)) ?_; (with_reducible refine (swarfref41_Find.calls k a0_0 _ _ l0_1 a0_2 a1 t364 false _ ?side1 ?side2 A4.out).mono ?_); (case side1 => repeat (first | exact (Kd.C_below HR0_1.out HB.out) | (with_reducible refine Kd.C_alloc ?_ _) | (with_reducible refine Kd.C_drewN ?_ _) | (with_reducible refine Kd.C_drew ?_))); (case side2 => exact HC0_1.out); rintro e w11 ⟨rfl, hb⟩; refine ⟨_, rfl, ?_⟩; have n0_ := Aside0.mk (blk_below (g := gb363) (o := .cells #[.bool a0_0, .slice A0_1 l0_1.length c0_1, .string a0_2] 54 (0, 0)) (by (with_reducible repeat (first | refine blk_drewN ?_ _ | refine blk_drew ?_ | refine blk_alloc ?_ _)); exact BK363.out) hb); have n1_ := Aside0.mk (below_step (by repeat (first | (with_reducible first | exact HB.out | apply below_alloc | apply pw_below_drewN | apply below_drew1 | refine below_set ?_ GE363.out) | exact HB.out)) hb); clear BK363; clear HB; have BK363 := n0_; have HB := n1_; clear n0_ n1_; (try clear hb); (try clear hb2); (try clear hk); (try clear hi)))
    go_ret
    exact ⟨by first | rfl | (simp [errW_none, errW_some] <;> rfl) | (simp [*, errW_none, errW_some] <;> rfl), by repeat (first | (with_reducible first | exact HB.out | apply below_alloc | apply pw_below_drewN | apply below_drew1 | refine below_set ?_ GE363.out) | exact HB.out)⟩

end Go.Proofs.Ytmaochcdjmnffaa.P
