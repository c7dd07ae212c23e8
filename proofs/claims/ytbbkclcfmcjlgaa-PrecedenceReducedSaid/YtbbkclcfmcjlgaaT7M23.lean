import Derived.Test.YtbbkclcfmcjlgaaT7M21
import Derived.Test.YtbbkclcfmcjlgaaT7GRead
import Derived.Deep.DeepMust
import Derived.Deep.QuietTactic
import Derived.BigQuiet
import Derived.BigRegion


namespace Go.Proofs.Ytbbkclcfmcjlgaa.P
open Go.RowKit Go.Proofs.YtbbkclcfmcjlgaaW.PrintWords Go.Proofs.YtbbkclcfmcjlgaaW.PrintLast Go.Proofs.YtbbkclcfmcjlgaaW.PrintMore
attribute [local go_sem] max2_int min2_int max_two min_two max_three min_three max_four min_four
set_option linter.unusedVariables false
set_option linter.unusedSimpArgs false

mutual
def precedence_Order.l0 : Nat → Int → List Int → List (List Int) → Int → Int → List (List Int) → List (List Int) → Option (List Int × Int)
 | 0, _, _, _, _, _, _, _ => none
 | k + 1, x0, x8, x27, x28, x29, x112000, x112001 => if x29 < x28 then (if 0 ≤ x29 then (if x29 < (x27.length : Int) then (if x29 < (x8.length : Int) then (precedence_Order.l0 k x0 (x8.set (x29 : Int).toNat ((rd_L3 x27 x29).length : Int)) x27 x28 (wrap64 (x29 + 1)) x112000 x112001) else (none)) else (none)) else (none)) else (precedence_Order.l1 k x0 x8 ([] : List Int) x112000 x112001)
def precedence_Order.l1 : Nat → Int → List Int → List Int → List (List Int) → List (List Int) → Option (List Int × Int)
 | 0, _, _, _, _, _ => none
 | k + 1, x0, x8, x11, x112000, x112001 => if (x11.length : Int) < x0 then ((slices_Index_int_int.f k x8 0).bind fun t117 => (if t117 < 0 then (some (([] : List Int), 12)) else (if 0 ≤ t117 then (if t117 < (x8.length : Int) then (if t117 < (x112001.length : Int) then (precedence_Order.l2 k x0 (x8.set (t117 : Int).toNat (-1)) x11 t117 (rd_L3 x112001 t117) ((rd_L3 x112001 t117).length : Int) 0 x112000 x112001) else (none)) else (none)) else (none)))) else (some (x11, 0))
def precedence_Order.l2 : Nat → Int → List Int → List Int → Int → List Int → Int → Int → List (List Int) → List (List Int) → Option (List Int × Int)
 | 0, _, _, _, _, _, _, _, _, _ => none
 | k + 1, x0, x8, x11, x12, x55, x56, x57, x112000, x112001 => if x57 < x56 then (if 0 ≤ x57 then (if x57 < (x55.length : Int) then (if 0 ≤ (rd x55 x57) then (if (rd x55 x57) < (x8.length : Int) then (precedence_Order.l2 k x0 (x8.set ((rd x55 x57) : Int).toNat (wrap64 ((rd x8 (rd x55 x57)) - 1))) x11 x12 x55 x56 (wrap64 (x57 + 1)) x112000 x112001) else (none)) else (none)) else (none)) else (none)) else (if x11.length < 17592186044416 then (precedence_Order.l1 k x0 x8 (x11 ++ [x12]) x112000 x112001) else (none))
end
def precedence_Order.f (k : Nat) (a0 : Int) (l1 : List (S47)) : Option (List Int × Int) := (precedence_Valid.f k a0 l1).bind fun t104 => (if t104 = 0 then ((precedence_read.f k a0 l1).bind fun bt105 => (if 0 ≤ a0 then (if (a0 : Int).toNat ≤ 35184372088832 then (precedence_Order.l0 k a0 (List.replicate (a0 : Int).toNat 0) bt105.1 (bt105.1.length : Int) 0 bt105.1 bt105.2) else (none)) else (none))) else (some (([] : List Int), t104)))
theorem precedence_Order.mono_l : ∀ k, (∀ y0 y1 y2 y3 y4 y5 y6, LeO (precedence_Order.l0 k y0 y1 y2 y3 y4 y5 y6) (precedence_Order.l0 (k + 1) y0 y1 y2 y3 y4 y5 y6)) ∧ (∀ y0 y1 y2 y3 y4, LeO (precedence_Order.l1 k y0 y1 y2 y3 y4) (precedence_Order.l1 (k + 1) y0 y1 y2 y3 y4)) ∧ (∀ y0 y1 y2 y3 y4 y5 y6 y7 y8, LeO (precedence_Order.l2 k y0 y1 y2 y3 y4 y5 y6 y7 y8) (precedence_Order.l2 (k + 1) y0 y1 y2 y3 y4 y5 y6 y7 y8))
 | 0 => ⟨fun _ _ _ _ _ _ _ r h => by simp [precedence_Order.l0] at h, fun _ _ _ _ _ r h => by simp [precedence_Order.l1] at h, fun _ _ _ _ _ _ _ _ _ r h => by simp [precedence_Order.l2] at h⟩
 | k + 1 => by
  obtain ⟨ih0, ih1, ih2⟩ := precedence_Order.mono_l k
  refine ⟨?_, ?_, ?_⟩
  ·intro y0 y1 y2 y3 y4 y5 y6
   unfold precedence_Order.l0
   repeat' first
   | (with_reducible exact ih0 _ _ _ _ _ _ _)
   | (with_reducible exact ih1 _ _ _ _ _)
   | (with_reducible exact ih2 _ _ _ _ _ _ _ _ _)
   | (with_reducible exact precedence_Valid.mono _ _ _)
   | (with_reducible exact precedence_read.mono _ _ _)
   | (with_reducible exact slices_Index_int_int.mono _ _ _)
   | (with_reducible exact LeO.refl _)
   | (with_reducible exact LeO.none _)
   | (with_reducible refine LeO.ite ?_ ?_)
   | (with_reducible refine LeO.bind ?_ (fun _ => ?_))
   | exact ih0 _ _ _ _ _ _ _
   | exact ih1 _ _ _ _ _
   | exact ih2 _ _ _ _ _ _ _ _ _
   | exact precedence_Valid.mono _ _ _
   | exact precedence_read.mono _ _ _
   | exact slices_Index_int_int.mono _ _ _
   | exact LeO.none _
   | refine LeO.ite ?_ ?_
   | refine LeO.bind ?_ (fun _ => ?_)
  ·intro y0 y1 y2 y3 y4
   unfold precedence_Order.l1
   repeat' first
   | (with_reducible exact ih0 _ _ _ _ _ _ _)
   | (with_reducible exact ih1 _ _ _ _ _)
   | (with_reducible exact ih2 _ _ _ _ _ _ _ _ _)
   | (with_reducible exact precedence_Valid.mono _ _ _)
   | (with_reducible exact precedence_read.mono _ _ _)
   | (with_reducible exact slices_Index_int_int.mono _ _ _)
   | (with_reducible exact LeO.refl _)
   | (with_reducible exact LeO.none _)
   | (with_reducible refine LeO.ite ?_ ?_)
   | (with_reducible refine LeO.bind ?_ (fun _ => ?_))
   | exact ih0 _ _ _ _ _ _ _
   | exact ih1 _ _ _ _ _
   | exact ih2 _ _ _ _ _ _ _ _ _
   | exact precedence_Valid.mono _ _ _
   | exact precedence_read.mono _ _ _
   | exact slices_Index_int_int.mono _ _ _
   | exact LeO.none _
   | refine LeO.ite ?_ ?_
   | refine LeO.bind ?_ (fun _ => ?_)
  ·intro y0 y1 y2 y3 y4 y5 y6 y7 y8
   unfold precedence_Order.l2
   repeat' first
   | (with_reducible exact ih0 _ _ _ _ _ _ _)
   | (with_reducible exact ih1 _ _ _ _ _)
   | (with_reducible exact ih2 _ _ _ _ _ _ _ _ _)
   | (with_reducible exact precedence_Valid.mono _ _ _)
   | (with_reducible exact precedence_read.mono _ _ _)
   | (with_reducible exact slices_Index_int_int.mono _ _ _)
   | (with_reducible exact LeO.refl _)
   | (with_reducible exact LeO.none _)
   | (with_reducible refine LeO.ite ?_ ?_)
   | (with_reducible refine LeO.bind ?_ (fun _ => ?_))
   | exact ih0 _ _ _ _ _ _ _
   | exact ih1 _ _ _ _ _
   | exact ih2 _ _ _ _ _ _ _ _ _
   | exact precedence_Valid.mono _ _ _
   | exact precedence_read.mono _ _ _
   | exact slices_Index_int_int.mono _ _ _
   | exact LeO.none _
   | refine LeO.ite ?_ ?_
   | refine LeO.bind ?_ (fun _ => ?_)
theorem precedence_Order.mono : ∀ a0 a1 k, LeO (precedence_Order.f k a0 a1) (precedence_Order.f (k + 1) a0 a1) := by
 intro a0 a1 k
 obtain ⟨ih0, ih1, ih2⟩ := precedence_Order.mono_l k
 unfold precedence_Order.f
 repeat' first
   | (with_reducible exact ih0 _ _ _ _ _ _ _)
   | (with_reducible exact ih1 _ _ _ _ _)
   | (with_reducible exact ih2 _ _ _ _ _ _ _ _ _)
   | (with_reducible exact precedence_Valid.mono _ _ _)
   | (with_reducible exact precedence_read.mono _ _ _)
   | (with_reducible exact slices_Index_int_int.mono _ _ _)
   | (with_reducible exact LeO.refl _)
   | (with_reducible exact LeO.none _)
   | (with_reducible refine LeO.ite ?_ ?_)
   | (with_reducible refine LeO.bind ?_ (fun _ => ?_))
   | exact ih0 _ _ _ _ _ _ _
   | exact ih1 _ _ _ _ _
   | exact ih2 _ _ _ _ _ _ _ _ _
   | exact precedence_Valid.mono _ _ _
   | exact precedence_read.mono _ _ _
   | exact slices_Index_int_int.mono _ _ _
   | exact LeO.none _
   | refine LeO.ite ?_ ?_
   | refine LeO.bind ?_ (fun _ => ?_)
set_option maxHeartbeats 8000000 in
set_option maxRecDepth 100000 in
theorem precedence_Order.calls (k : Nat) (a0 : Int) (A1 : Option Addr) (c1 : Nat) (l1 : List (S47)) (r1 : List Int) (r2 : Int) (w : World) (hr1 : Kd.C k47 w A1 l1.length l1) (hc1 : l1.length ≤ c1) (h : precedence_Order.f k a0 l1 = some (r1, r2)) :
  Calls Try.prog 25 #[.int .i64 a0, .slice A1 l1.length c1] w fun e w' => ∃ v0_ : Value, e = .returned (.tuple #[v0_, .int .i64 r2]) ∧ Kd.R (Kd.int .i64) 3 w' w.heap.size (fun _ => True) v0_ r1 ∧ Below w.heap.size w w' := by
 have hu60 := Try.underlying60
 have HR1 := aK hr1
 have HC1 := aK hc1
 clear hr1 hc1
 have HB := aK (Below.refl w.heap.size w)
 have H : ((precedence_Valid.f k a0 l1).bind fun t104 => (if t104 = 0 then ((precedence_read.f k a0 l1).bind fun bt105 => (if 0 ≤ a0 then (if (a0 : Int).toNat ≤ 35184372088832 then (precedence_Order.l0 k a0 (List.replicate (a0 : Int).toNat 0) bt105.1 (bt105.1.length : Int) 0 bt105.1 bt105.2) else (none)) else (none))) else (some (([] : List Int), t104)))) = some (r1, r2) := h
 clear h
 replace H := oB_ H
 obtain ⟨t104, A30, H⟩ := H
 replace H : (if t104 = 0 then ((precedence_read.f k a0 l1).bind fun bt105 => (if 0 ≤ a0 then (if (a0 : Int).toNat ≤ 35184372088832 then (precedence_Order.l0 k a0 (List.replicate (a0 : Int).toNat 0) bt105.1 (bt105.1.length : Int) 0 bt105.1 bt105.2) else (none)) else (none))) else (some (([] : List Int), t104))) = some (r1, r2) := H
 have A3 := aK A30
 clear A30
 by_cases c4 : t104 = 0
 ·rw [if_pos c4] at H
  have c4b0 : (t104 == 0) = true := beq_iff_eq.mpr c4
  have c4b1 : (t104 != 0) = false := bne_eq_false_iff_eq.mpr c4
  clear c4; replace H := oB_ H
  obtain ⟨⟨t105, t108⟩, A50, H⟩ := H
  replace H : (if 0 ≤ a0 then (if (a0 : Int).toNat ≤ 35184372088832 then (precedence_Order.l0 k a0 (List.replicate (a0 : Int).toNat 0) t105 (t105.length : Int) 0 t105 t108) else (none)) else (none)) = some (r1, r2) := H
  have A5 := aK A50; clear A50
  by_cases c6 : 0 ≤ a0
  ·rw [if_pos c6] at H
   have c6b0 := eq_true c6
   have c6b1 : decide (0 ≤ a0) = true := decide_eq_true c6
   clear c6
   by_cases c7 : (a0 : Int).toNat ≤ 35184372088832
   ·rw [if_pos c7] at H
    have c7b0 := eq_true c7
    have c7b1 : decide ((a0 : Int).toNat ≤ 35184372088832) = true := decide_eq_true c7
    clear c7
    obtain ⟨y112, hy112⟩ : ∃ y_ : List Int, y_ = (List.replicate (a0 : Int).toNat 0) := ⟨_, rfl⟩
    replace H : (precedence_Order.l0 k a0 y112 t105 (t105.length : Int) 0 t105 t108) = some (r1, r2) := by first | (rw [hy112]; with_reducible exact H) | (have H2_ := (Option.bind_some _ _).symm.trans H; rw [hy112]; with_reducible exact H2_) | (have H2_ := (Option.bind_some _ _).symm.trans H; with_reducible exact H2_) | with_reducible exact H | (rw [hy112]; exact H) | exact H
    have Ny112 := aK hy112; clear hy112; have H' := aK H; clear H
    go_enter Try.func25, Try.ntmps25
    go_wp2_with (first | ((with_reducible refine gate_callee (f := 20) rfl ?_); refine goesL_ (some 17) rfl rfl Try.func20 (by kernel_rfl) rfl #[.int .i64 a0, .slice A1 l1.length c1] rfl (by (try simp only [List.map_toArray, List.map_cons, List.map_nil]); first | done | rfl | (simp only [List.length_drop, List.length_take]; rfl)) ?_; (with_reducible refine (precedence_Valid.calls k a0 _ _ l1 t104 _ ?side1 ?side2 A3.out).mono ?_); (case side1 => repeat (first | exact HR1.out | (with_reducible refine Kd.C_alloc ?_ _) | (with_reducible refine Kd.C_drewN ?_ _) | (with_reducible refine Kd.C_drew ?_))); (case side2 => exact HC1.out); rintro e w8 ⟨rfl, hb⟩; refine ⟨_, rfl, ?_⟩; have n0_ := aK (bT_ (by repeat (first | (with_reducible first | exact HB.out | apply bA_ | apply bN_ | apply bD_) | exact HB.out)) hb); clear HB; have HB := n0_; clear n0_; (try clear hb); (try clear hb2); (try clear hk); (try clear hi)) | ((with_reducible refine gate_callee (f := 42) rfl ?_); refine goesL_ (some 23) rfl rfl Try.func42 (by kernel_rfl) rfl #[.int .i64 a0, .slice A1 l1.length c1] rfl (by (try simp only [List.map_toArray, List.map_cons, List.map_nil]); first | done | rfl | (simp only [List.length_drop, List.length_take]; rfl)) ?_; (with_reducible refine (precedence_read.calls k a0 _ _ l1 t105 t108 _ ?side1 ?side2 A5.out).mono ?_); (case side1 => repeat (first | exact (Kd.C_below HR1.out HB.out) | (with_reducible refine Kd.C_alloc ?_ _) | (with_reducible refine Kd.C_drewN ?_ _) | (with_reducible refine Kd.C_drew ?_))); (case side2 => exact HC1.out); rintro e w9 ⟨v106, v109, rfl, ho0, ho1, hb⟩; refine ⟨_, rfl, ?_⟩; have n0_ := aK (Kd.S_lower ho0 (bZ_ (by repeat (first | (with_reducible first | exact HB.out | apply bA_ | apply bN_ | apply bD_) | exact HB.out)))); have n1_ := aK (Kd.S_lower ho1 (bZ_ (by repeat (first | (with_reducible first | exact HB.out | apply bA_ | apply bN_ | apply bD_) | exact HB.out)))); have n2_ := aK (bT_ (by repeat (first | (with_reducible first | exact HB.out | apply bA_ | apply bN_ | apply bD_) | exact HB.out)) hb); clear HB; have HO107 := n0_; have HO110 := n1_; have HB := n2_; clear n0_ n1_ n2_; (try clear hb); (try clear hb2); (try clear hk); (try clear hi); (try clear ho0); (try clear ho1)) | ((with_reducible refine gate_dst (N := 7) rfl ?_); refine box_event ?hg (N := 7) ?hd (cs := #[.slice none 0 0, .slice none 0 0]) (t := 60) ?hr ?_; (case hd => rfl); (case hg => rfl); (case hr => first | (go_simp; done) | (go_simp; rfl)); intro gb111 hg w10 hbox hb; have n0_ := aK (Kd.S_below (by (with_reducible repeat (first | apply Kd.S_alloc | apply Kd.S_drewN | apply Kd.S_drew)); exact HO107.out) hb); have n1_ := aK (Kd.S_below (by (with_reducible repeat (first | apply Kd.S_alloc | apply Kd.S_drewN | apply Kd.S_drew)); exact HO110.out) hb); have n2_ := aK (bT_ (by repeat (first | (with_reducible first | exact HB.out | apply bA_ | apply bN_ | apply bD_) | exact HB.out)) hb); have n3_ := aK (hbox); have n4_ := aK ((by rw [hg]; exact (bZ_ (by repeat (first | (with_reducible first | exact HB.out | apply bA_ | apply bN_ | apply bD_) | exact HB.out))) : w.heap.size ≤ gb111)); have n5_ := aK ((by rw [hg]; exact (bZ_ (by repeat (first | (with_reducible first | exact HB.out | apply bA_ | apply bN_ | apply bD_) | exact HB.out))) : w.heap.size ≤ gb111)); clear HO107; clear HO110; clear HB; have HO107 := n0_; have HO110 := n1_; have HB := n2_; have BK111 := n3_; have GW111 := n4_; have GE111 := n5_; clear n0_ n1_ n2_ n3_ n4_ n5_; clear hb hbox hg; obtain ⟨Ao11, co11, eo11⟩ := Kd.S_slice HO107.out; subst eo11; have hcz12_0 : w10.cell? ⟨gb111, 0, none⟩ = some (.slice none 0 0) := (blk_cell BK111.out 0).trans rfl; have hcz12_1 : w10.cell? ⟨gb111, 1, none⟩ = some (.slice none 0 0) := (blk_cell BK111.out 1).trans rfl; have hfz12_0 := blk_frozen BK111.out 0; have hfz12_1 := blk_frozen BK111.out 1; obtain ⟨Ao13, co13, eo13⟩ := Kd.S_slice HO110.out; subst eo13) | ((with_reducible refine gate_dst (N := 25) rfl ?_); refine Kd.R_make (Kd.int .i64) _ 3 rfl (N := 25) rfl 31 _ _ rfl a0 rfl rfl Try.underlying31 (.int .i64 0) 8 info3 rfl (by decide) (by omega) 0 (ok := fun _ => True) (okp := fun _ => True) rfl (fun _ hk => hk) trivial (of_decide_eq_true (by first | (with_reducible assumption) | assumption)) (Nat.le_trans (Nat.mul_le_mul_right _ (of_decide_eq_true (by first | (with_reducible assumption) | assumption) : a0.toNat ≤ 35184372088832)) (by omega)) (Below.refl _ _) (Nat.le_refl _) ?_; intro v113 w14 ho15 hb hg_ hnew_; clear hg_ hnew_; (first | rw [← Ny112.out] at ho15 | (simp only [Int.reduceToNat] at ho15; rw [← Ny112.out] at ho15)); have n0_ := aK (Kd.S_elder' (by (with_reducible repeat (first | apply Kd.S_alloc | apply Kd.S_drewN | apply Kd.S_drew)); exact (Kd.S_mono (Kd.S_far (p := ⟨gb111, 1, none⟩) (Kd.S_far (p := ⟨gb111, 0, none⟩) (Kd.S_types HO107.out BK111.out (by decide)) (fun _ hk => hk.2) (.slice Ao11 t105.length co11)) (fun _ hk => hk.2) (.slice Ao13 t108.length co13)) (fun _ h_ => h_.1))) (Kd.R_base ho15) hb); have n1_ := aK (Kd.S_elder' (by (with_reducible repeat (first | apply Kd.S_alloc | apply Kd.S_drewN | apply Kd.S_drew)); exact (Kd.S_mono (Kd.S_far (p := ⟨gb111, 1, none⟩) (Kd.S_far (p := ⟨gb111, 0, none⟩) (Kd.S_types HO110.out BK111.out (by decide)) (fun _ hk => hk.2) (.slice Ao11 t105.length co11)) (fun _ hk => hk.2) (.slice Ao13 t108.length co13)) (fun _ h_ => h_.1))) (Kd.R_base ho15) hb); have n2_ := aK (Kd.R_lower ho15 (bZ_ (by repeat (first | (with_reducible first | exact HB.out | apply bA_ | apply bN_ | apply bD_ | refine below_set ?_ GE111.out) | exact HB.out)))); have n3_ := aK (blk_below (g := gb111) (o := .cells #[.slice Ao11 t105.length co11, .slice Ao13 t108.length co13] 60 (0, 0)) (by (with_reducible repeat (first | refine blk_drewN ?_ _ | refine blk_drew ?_ | refine blk_alloc ?_ _)); refine blk_put (cs := #[.slice Ao11 t105.length co11, .slice none 0 0]) ?_ 1 _ rfl; (with_reducible repeat (first | refine blk_drewN ?_ _ | refine blk_drew ?_ | refine blk_alloc ?_ _)); refine blk_put (cs := #[.slice none 0 0, .slice none 0 0]) ?_ 0 _ rfl; (with_reducible repeat (first | refine blk_drewN ?_ _ | refine blk_drew ?_ | refine blk_alloc ?_ _)); exact BK111.out) hb); have n4_ := aK (bT_ (by repeat (first | (with_reducible first | exact HB.out | apply bA_ | apply bN_ | apply bD_ | refine below_set ?_ GE111.out) | exact HB.out)) hb); clear HO107; clear HO110; clear BK111; clear HB; have HO107 := n0_; have HO110 := n1_; have HO114 := n2_; have BK111 := n3_; have HB := n4_; clear n0_ n1_ n2_ n3_ n4_; clear hb ho15; have hcz16_0 : w14.cell? ⟨gb111, 0, none⟩ = some (.slice Ao11 t105.length co11) := (blk_cell BK111.out 0).trans rfl; have hcz16_1 : w14.cell? ⟨gb111, 1, none⟩ = some (.slice Ao13 t108.length co13) := (blk_cell BK111.out 1).trans rfl; have hfz16_0 := blk_frozen BK111.out 0; have hfz16_1 := blk_frozen BK111.out 1))
    go_loopg [29] k (fun kq v29 w' => ∃ (x8_1 : List Int) (x29_1 : Int), v29 = .int .i64 x29_1 ∧ Aside0 (precedence_Order.l0 kq a0 x8_1 t105 (t105.length : Int) x29_1 t105 t108 = some (r1, r2)) ∧ Aside0 (kq ≤ k) ∧ Aside0 (Kd.R (Kd.int .i64) 3 w' w.heap.size (fun _ => True) v113 x8_1) ∧ Aside0 (Kd.S (Kd.slice 3 (Kd.int .i64)) 31 w' w.heap.size (fun k_ => some k_ ≠ (v113 : Value).ownBlock ∧ some k_ ≠ ((.slice Ao13 t108.length co13) : Value).ownBlock) (.slice Ao11 t105.length co11) t105) ∧ Aside0 (Kd.S (Kd.slice 3 (Kd.int .i64)) 31 w' w.heap.size (fun k_ => some k_ ≠ (v113 : Value).ownBlock ∧ some k_ ≠ ((.slice Ao13 t108.length co13) : Value).ownBlock) (.slice Ao11 t105.length co11) t105) ∧ Aside0 (Kd.S (Kd.slice 3 (Kd.int .i64)) 31 w' w.heap.size (fun k_ => some k_ ≠ (v113 : Value).ownBlock ∧ some k_ ≠ ((.slice Ao11 t105.length co11) : Value).ownBlock ∧ some k_ ≠ ((.slice Ao11 t105.length co11) : Value).ownBlock) (.slice Ao13 t108.length co13) t108) ∧ Aside0 (w'.heap[gb111]? = some (.cells #[(.slice Ao11 t105.length co11), (.slice Ao13 t108.length co13)] 60 (0, 0))) ∧ Aside0 (Below w.heap.size w w'))
    case atStart => exact ⟨(y112), (0), (by first | rfl | (simp; done) | (simp [*]; done)), H', ⟨Nat.le_refl _⟩, ⟨by (with_reducible repeat (first | apply Kd.R_alloc | apply Kd.R_drewN | apply Kd.R_drew)); exact HO114.out⟩, ⟨by (with_reducible repeat (first | apply Kd.S_alloc | apply Kd.S_drewN | apply Kd.S_drew)); exact Kd.S_mono HO107.out (fun _ hk => ⟨hk.2, hk.1⟩)⟩, ⟨by (with_reducible repeat (first | apply Kd.S_alloc | apply Kd.S_drewN | apply Kd.S_drew)); exact Kd.S_mono HO107.out (fun _ hk => ⟨hk.2, hk.1⟩)⟩, ⟨by (with_reducible repeat (first | apply Kd.S_alloc | apply Kd.S_drewN | apply Kd.S_drew)); exact Kd.S_mono HO110.out (fun _ hk => ⟨hk.2, ⟨hk.1, hk.1⟩⟩)⟩, ⟨by (with_reducible repeat (first | refine blk_drewN ?_ _ | refine blk_drew ?_ | refine blk_alloc ?_ _)); exact BK111.out⟩, ⟨by repeat (first | (with_reducible first | exact HB.out | apply bA_ | apply bN_ | apply bD_ | refine below_set ?_ GE111.out) | exact HB.out)⟩⟩
    case round =>
     clear H'; try clear c1; try clear c2; try clear p2; try clear c4; try clear c4b0; try clear c4b1; try clear c6; try clear c6b0; try clear c6b1; try clear c7; try clear c7b0; try clear c7b1; try clear hcz12_0; try clear hcz12_1; try clear hcz16_0; try clear hcz16_1; try clear hfz12_0; try clear hfz12_1; try clear hfz16_0; try clear hfz16_1
     obtain ⟨x8_1, x29_1, rfl, HA, HK1, HO_8, HO_27, HO_112000, HO_112001, BK111, HB⟩ := hrel
     cases gk with
     | zero => exact absurd HA.out (by simp [precedence_Order.l0])
     | succ k1 =>
      have H := HA.out
      clear HA
      simp only [precedence_Order.l0] at H
      by_cases c17 : x29_1 < (t105.length : Int)
      ·rw [if_pos c17] at H
       have c17b0 : decide (x29_1 < (t105.length : Int)) = true := decide_eq_true c17
       clear c17
       by_cases c18 : 0 ≤ x29_1
       ·rw [if_pos c18] at H
        have c18b0 : decide (0 ≤ x29_1) = true := decide_eq_true c18
        clear c18
        by_cases c19 : x29_1 < (t105.length : Int)
        ·rw [if_pos c19] at H
         have c19b0 : decide (x29_1 < (t105.length : Int)) = true := decide_eq_true c19
         clear c19
         by_cases c20 : x29_1 < (x8_1.length : Int)
         ·rw [if_pos c20] at H
          have c20b0 : decide (x29_1 < (x8_1.length : Int)) = true := decide_eq_true c20
          clear c20
          obtain ⟨y116, hy116⟩ : ∃ y_ : List Int, y_ = (x8_1.set (x29_1 : Int).toNat ((rd_L3 t105 x29_1).length : Int)) := ⟨_, rfl⟩
          replace H : (precedence_Order.l0 k1 a0 y116 t105 (t105.length : Int) (wrap64 (x29_1 + 1)) t105 t108) = some (r1, r2) := by first | (rw [hy116]; with_reducible exact H) | (have H2_ := (Option.bind_some _ _).symm.trans H; rw [hy116]; with_reducible exact H2_) | (have H2_ := (Option.bind_some _ _).symm.trans H; with_reducible exact H2_) | with_reducible exact H | (rw [hy116]; exact H) | exact H
          have Ny116 := aK hy116; clear hy116; have H' := aK H; clear H
          have p115 : 0 ≤ (x29_1 : Int) := of_decide_eq_true (by first | (with_reducible assumption) | assumption)
          have q115 : x29_1 < (t105.length : Int) := of_decide_eq_true (by first | (with_reducible assumption) | assumption)
          obtain ⟨ad115, A115_0, c115_0, e115, hx115_0, hl115_0, hi115_0⟩ := at_L3 (Kd.S_reads' HO_27.out).2.2 x29_1 p115 q115
          cases e115
          obtain ⟨ce115, hce115, hMe115, hcc115⟩ := Kd.S_get HO_27.out [] x29_1 p115 (by first | exact q115 | exact of_decide_eq_true (by first | (with_reducible assumption) | assumption) | (have e_ := (Kd.S_reads' HO_27.out).1; omega))
          obtain ⟨ve115_0, rfl, ge115_0⟩ := hMe115
          have hv115_0 := hcc115 0 _ rfl
          rw [Nat.add_zero, show ((Kd.slice 3 (Kd.int .i64))).sz = 1 from rfl, Nat.mul_one] at hv115_0
          replace hv115_0 := Option.some.inj (hv115_0.symm.trans hx115_0)
          rw [hv115_0] at ge115_0
          have HL115_0 := aK (show Kd.R (Kd.int .i64) 3 _ _ _ _ (rd_L3 t105 x29_1) from ge115_0)
          clear hv115_0 ge115_0; clear hcc115 hce115; have HR115_0 := aK hi115_0; have HC115_0 := aK hl115_0; clear hi115_0 hl115_0; replace p115 := eq_true p115; replace q115 := eq_true q115
          have p21 : 0 ≤ (x29_1 : Int) := of_decide_eq_true (by first | (with_reducible assumption) | assumption)
          have q21 : (x29_1 : Int) < ((x8_1.length : Int) : Int) := of_decide_eq_true (by first | (with_reducible assumption) | assumption)
          obtain ⟨go21, co21, eo21, gb21, gl21, cl21, HG21⟩ := Kd.R_form HO_8.out (by omega)
          (first | cases eo21 | (injection eo21 with ea_ en_ ec_; (first | subst ea_ | (injection ea_ with ea_; subst ea_)); subst ec_; clear en_))
          have GB21 := aK gb21; have GG21 := aK HG21; clear gb21 gl21 HG21
          obtain ⟨hx21_0, hf21_0⟩ := Kd.R_celln 0 HO_8.out (x29_1 : Int) p21 q21
          replace p21 := eq_true p21; replace q21 := eq_true q21
          have HP22 := Kd.R_putg HO_8.out (x29_1 : Int) ((rd_L3 t105 x29_1).length : Int)
          go_wp2_with (first | ((with_reducible refine gate_store (t := 3) (p := 38) rfl ?_); refine store_event (t := 3) (p := 38) (v := ?vo_w23) (w1 := (wr.setCell ⟨go21, (x29_1 : Int).toNat, none⟩ (.int .i64 ((rd_L3 t105 x29_1).length : Int)))) ?hg ?ho ?hn ?hr ?_; (case ho => rfl); (case hg => rfl); (case hn => rfl); (case hr => first | (go_simp; done) | (go_simp; rfl)); intro w23 hw; have hg : wr.grownBy w23 (some go21) := (by rw [hw]; exact HP22.2); have hp_ : Kd.R (Kd.int .i64) 3 w23 w.heap.size (fun _ => True) (.slice (some ⟨go21, 0, none⟩) x8_1.length co21) y116 := (by rw [hw, Ny116.out]; exact HP22.1); clear HP22; have n0_ := aK (hp_); have n1_ := aK (Kd.S_after (v := (.slice (some ⟨go21, 0, none⟩) x8_1.length co21)) (v1 := (.slice (some ⟨go21, 0, none⟩) x8_1.length co21)) (ok := (fun k_ => some k_ ≠ (.slice Ao13 t108.length co13 : Value).ownBlock)) (by (with_reducible repeat (first | apply Kd.S_alloc | apply Kd.S_drewN | apply Kd.S_drew)); exact Kd.S_mono HO_27.out (fun _ hk => ⟨hk.2, hk.1⟩)) hg (.inl rfl)); have n2_ := aK (Kd.S_after (v := (.slice (some ⟨go21, 0, none⟩) x8_1.length co21)) (v1 := (.slice (some ⟨go21, 0, none⟩) x8_1.length co21)) (ok := (fun k_ => some k_ ≠ (.slice Ao13 t108.length co13 : Value).ownBlock)) (by (with_reducible repeat (first | apply Kd.S_alloc | apply Kd.S_drewN | apply Kd.S_drew)); exact Kd.S_mono HO_112000.out (fun _ hk => ⟨hk.2, hk.1⟩)) hg (.inl rfl)); have n3_ := aK (Kd.S_after (v := (.slice (some ⟨go21, 0, none⟩) x8_1.length co21)) (v1 := (.slice (some ⟨go21, 0, none⟩) x8_1.length co21)) (ok := (fun k_ => some k_ ≠ (.slice (some ad115) t105.length co11 : Value).ownBlock ∧ some k_ ≠ (.slice (some ad115) t105.length co11 : Value).ownBlock)) (by (with_reducible repeat (first | apply Kd.S_alloc | apply Kd.S_drewN | apply Kd.S_drew)); exact Kd.S_mono HO_112001.out (fun _ hk => ⟨⟨hk.2.1, hk.2.2⟩, hk.1⟩)) hg (.inl rfl)); have n4_ := aK (blk_grown (g := gb111) (o := .cells #[.slice (some ad115) t105.length co11, .slice Ao13 t108.length co13] 60 (0, 0)) (by (with_reducible repeat (first | refine blk_drewN ?_ _ | refine blk_drew ?_ | refine blk_alloc ?_ _)); exact BK111.out) hg (Kd.R_ne HO_8.out BK111.out (by decide))); have n5_ := aK (Kd.R_after (v := (.slice (some ⟨go21, 0, none⟩) x8_1.length co21)) (v1 := (.slice (some ⟨go21, 0, none⟩) x8_1.length co21)) (ok := (fun k_ => some k_ ≠ (.slice (some ad115) t105.length co11 : Value).ownBlock ∧ some k_ ≠ (.slice Ao13 t108.length co13 : Value).ownBlock)) (by (with_reducible repeat (first | apply Kd.R_alloc | apply Kd.R_drewN | apply Kd.R_drew)); exact Kd.R_mono HL115_0.out (fun _ hk => ⟨⟨hk.2, hk.1.2⟩, hk.1.1⟩)) hg (.inl rfl)); have n6_ := aK ((by rw [hw]; exact below_set (HB.out) GB21.out : Below w.heap.size w w23)); clear HO_8; clear HO_27; clear HO_112000; clear HO_112001; clear BK111; clear HL115_0; clear HB; have HO_8 := n0_; have HO_27 := n1_; have HO_112000 := n2_; have HO_112001 := n3_; have BK111 := n4_; have HL115_0 := n5_; have HB := n6_; clear n0_ n1_ n2_ n3_ n4_ n5_ n6_; clear hg hw hp_))
          go_roundg k1
          case measure => have := HK1.out; omega
          case rel => exact ⟨(y116), (wrap64 (x29_1 + 1)), (by first | rfl | (simp; done) | (simp [*]; done)), H', ⟨by have := HK1.out; omega⟩, ⟨by (with_reducible repeat (first | apply Kd.R_alloc | apply Kd.R_drewN | apply Kd.R_drew)); exact HO_8.out⟩, ⟨by (with_reducible repeat (first | apply Kd.S_alloc | apply Kd.S_drewN | apply Kd.S_drew)); exact Kd.S_mono HO_27.out (fun _ hk => ⟨hk.2, hk.1⟩)⟩, ⟨by (with_reducible repeat (first | apply Kd.S_alloc | apply Kd.S_drewN | apply Kd.S_drew)); exact Kd.S_mono HO_112000.out (fun _ hk => ⟨hk.2, hk.1⟩)⟩, ⟨by (with_reducible repeat (first | apply Kd.S_alloc | apply Kd.S_drewN | apply Kd.S_drew)); exact Kd.S_mono HO_112001.out (fun _ hk => ⟨hk.2, ⟨hk.1.1, hk.1.2⟩⟩)⟩, ⟨by (with_reducible repeat (first | refine blk_drewN ?_ _ | refine blk_drew ?_ | refine blk_alloc ?_ _)); exact BK111.out⟩, ⟨by repeat (first | (with_reducible first | exact HB.out | apply bA_ | apply bN_ | apply bD_ | refine below_set ?_ GE111.out) | exact HB.out)⟩⟩
         ·rw [if_neg c20] at H
          exact absurd H (by simp)
        ·rw [if_neg c19] at H
         exact absurd H (by simp)
       ·rw [if_neg c18] at H
        exact absurd H (by simp)
      ·rw [if_neg c17] at H
       have c17b0 : decide (x29_1 < (t105.length : Int)) = false := decide_eq_false c17
       clear c17; have H' := aK H; clear H; go_wp2
       go_loopg [11] k1 (fun kq v11 w' => ∃ (x8_2 : List Int) (x11_2 : List Int), Aside0 (precedence_Order.l1 kq a0 x8_2 x11_2 t105 t108 = some (r1, r2)) ∧ Aside0 (kq ≤ k1) ∧ Aside0 (Kd.R (Kd.int .i64) 3 w' w.heap.size (fun k_ => some k_ ≠ (v11 : Value).ownBlock) v113 x8_2) ∧ Aside0 (Kd.R (Kd.int .i64) 3 w' w.heap.size (fun k_ => some k_ ≠ (v113 : Value).ownBlock) v11 x11_2) ∧ Aside0 (Kd.S (Kd.slice 3 (Kd.int .i64)) 31 w' w.heap.size (fun k_ => some k_ ≠ (v113 : Value).ownBlock ∧ some k_ ≠ (v11 : Value).ownBlock ∧ some k_ ≠ ((.slice Ao13 t108.length co13) : Value).ownBlock) (.slice Ao11 t105.length co11) t105) ∧ Aside0 (Kd.S (Kd.slice 3 (Kd.int .i64)) 31 w' w.heap.size (fun k_ => some k_ ≠ (v113 : Value).ownBlock ∧ some k_ ≠ (v11 : Value).ownBlock ∧ some k_ ≠ ((.slice Ao11 t105.length co11) : Value).ownBlock) (.slice Ao13 t108.length co13) t108) ∧ Aside0 (w'.heap[gb111]? = some (.cells #[(.slice Ao11 t105.length co11), (.slice Ao13 t108.length co13)] 60 (0, 0))) ∧ Aside0 (Below w.heap.size w w'))
       case atStart => exact ⟨(x8_1), (([] : List Int)), H', ⟨Nat.le_refl _⟩, ⟨by (with_reducible repeat (first | apply Kd.R_alloc | apply Kd.R_drewN | apply Kd.R_drew)); exact Kd.R_mono HO_8.out (fun _ hk => (by simp [Value.ownBlock]))⟩, ⟨by first | exact Kd.R_nil _ _ _ _ _ | exact Kd.N_nil _ _ _ _ _ | exact Kd.V_nil _ _ _ _ _ | exact Kd.Q_nil _ _ _ _ _ | exact Kd.S_nil _ _ _ _ _⟩, ⟨by (with_reducible repeat (first | apply Kd.S_alloc | apply Kd.S_drewN | apply Kd.S_drew)); exact Kd.S_mono HO_112000.out (fun _ hk => ⟨hk.1, ⟨(by simp [Value.ownBlock]), hk.2⟩⟩)⟩, ⟨by (with_reducible repeat (first | apply Kd.S_alloc | apply Kd.S_drewN | apply Kd.S_drew)); exact Kd.S_mono HO_112001.out (fun _ hk => ⟨hk.1, ⟨(by simp [Value.ownBlock]), hk.2.2⟩⟩)⟩, ⟨by (with_reducible repeat (first | refine blk_drewN ?_ _ | refine blk_drew ?_ | refine blk_alloc ?_ _)); exact BK111.out⟩, ⟨by repeat (first | (with_reducible first | exact HB.out | apply bA_ | apply bN_ | apply bD_ | refine below_set ?_ GE111.out) | exact HB.out)⟩⟩
       case round =>
        clear H'; try clear c1; try clear p1; try clear q1; try clear hx1; try clear c2; try clear p2; try clear q2; try clear hx2; try clear hf2; try clear c4; try clear c4b0; try clear c4b1; try clear c6; try clear c6b0; try clear c6b1; try clear p6; try clear c7; try clear c7b0; try clear c7b1; try clear c11; try clear p11; try clear q11; try clear hx11; try clear c17; try clear c17b0; try clear c18
        try clear c18b0; try clear c19; try clear c19b0; try clear c20; try clear c20b0; try clear p21; try clear q21; try clear hx21; try clear hf21; try clear hcz12_0; try clear hcz12_1; try clear hcz16_0; try clear hcz16_1; try clear hfz12_0; try clear hfz12_1; try clear hfz16_0; try clear hfz16_1; try clear hx115_0; try clear hx21_0; try clear p115; try clear p2; try clear p21; try clear q115; try clear q21
        obtain ⟨x8_2, x11_2, HA, HK2, HO_8, HO_11, HO_112000, HO_112001, BK111, HB⟩ := hrel
        cases gk with
        | zero => exact absurd HA.out (by simp [precedence_Order.l1])
        | succ k2 =>
         have H := HA.out
         clear HA
         simp only [precedence_Order.l1] at H
         by_cases c24 : (x11_2.length : Int) < a0
         ·rw [if_pos c24] at H
          have c24b0 : decide ((x11_2.length : Int) < a0) = true := decide_eq_true c24
          clear c24; replace H := oB_ H
          obtain ⟨t117, A250, H⟩ := H
          replace H : (if t117 < 0 then (some (([] : List Int), 12)) else (if 0 ≤ t117 then (if t117 < (x8_2.length : Int) then (if t117 < (t108.length : Int) then (precedence_Order.l2 k2 a0 (x8_2.set (t117 : Int).toNat (-1)) x11_2 t117 (rd_L3 t108 t117) ((rd_L3 t108 t117).length : Int) 0 t105 t108) else (none)) else (none)) else (none))) = some (r1, r2) := H
          have A25 := aK A250; clear A250
          by_cases c26 : t117 < 0
          ·rw [if_pos c26] at H
           have c26b0 : decide (t117 < 0) = true := decide_eq_true c26
           clear c26
           simp only [Option.some.injEq, Prod.mk.injEq] at H
           obtain ⟨rfl, rfl⟩ := H
           obtain ⟨Ao27, co27, eo27⟩ := Kd.R_slice HO_11.out
           subst eo27
           obtain ⟨Ao28, co28, eo28⟩ := Kd.R_slice HO_8.out
           subst eo28
           go_wp2_with (first | ((with_reducible refine gate_callee (f := 46) rfl ?_); refine goesL_ (some 45) rfl rfl Try.func46 (by kernel_rfl) rfl #[.slice Ao28 x8_2.length co28, .int .i64 0] rfl (by (try simp only [List.map_toArray, List.map_cons, List.map_nil]); first | done | rfl | (simp only [List.length_drop, List.length_take]; rfl)) ?_; (with_reducible refine (slices_Index_int_int.calls k2 _ _ x8_2 0 t117 _ ?side1 ?side2 A25.out).mono ?_); (case side1 => repeat (first | exact (Kd.R_reads' HO_8.out).2.2 | (with_reducible refine Kd.C_alloc ?_ _) | (with_reducible refine Kd.C_drewN ?_ _) | (with_reducible refine Kd.C_drew ?_))); (case side2 => exact (Kd.R_reads' HO_8.out).2.1); rintro e w' ⟨rfl, ⟨nd, rfl⟩⟩; refine ⟨_, rfl, ?_⟩))
           go_ret2
           exact ⟨_, by first | rfl | (simp [errW_none, errW_some] <;> rfl) | (simp [*, errW_none, errW_some] <;> rfl), by first | exact Kd.R_nil _ _ _ _ _ | exact Kd.N_nil _ _ _ _ _ | exact Kd.V_nil _ _ _ _ _ | exact Kd.Q_nil _ _ _ _ _ | exact Kd.S_nil _ _ _ _ _, by repeat (first | (with_reducible first | exact HB.out | apply bA_ | apply bN_ | apply bD_ | refine below_set ?_ GE111.out) | exact HB.out)⟩
          ·rw [if_neg c26] at H
           have c26b0 : decide (t117 < 0) = false := decide_eq_false c26
           clear c26
           by_cases c29 : 0 ≤ t117
           ·rw [if_pos c29] at H
            have c29b0 : decide (0 ≤ t117) = true := decide_eq_true c29
            clear c29
            by_cases c30 : t117 < (x8_2.length : Int)
            ·rw [if_pos c30] at H
             have c30b0 : decide (t117 < (x8_2.length : Int)) = true := decide_eq_true c30
             clear c30
             obtain ⟨y118, hy118⟩ : ∃ y_ : List Int, y_ = (x8_2.set (t117 : Int).toNat (-1)) := ⟨_, rfl⟩
             replace H : (if t117 < (t108.length : Int) then (precedence_Order.l2 k2 a0 y118 x11_2 t117 (rd_L3 t108 t117) ((rd_L3 t108 t117).length : Int) 0 t105 t108) else (none)) = some (r1, r2) := by first | (rw [hy118]; with_reducible exact H) | (have H2_ := (Option.bind_some _ _).symm.trans H; rw [hy118]; with_reducible exact H2_) | (have H2_ := (Option.bind_some _ _).symm.trans H; with_reducible exact H2_) | with_reducible exact H | (rw [hy118]; exact H) | exact H
             have Ny118 := aK hy118; clear hy118
             by_cases c32 : t117 < (t108.length : Int)
             ·rw [if_pos c32] at H
              have c32b0 : decide (t117 < (t108.length : Int)) = true := decide_eq_true c32
              clear c32; have H' := aK H; clear H
              obtain ⟨Ao33, co33, eo33⟩ := Kd.R_slice HO_11.out
              subst eo33
              obtain ⟨Ao34, co34, eo34⟩ := Kd.R_slice HO_8.out
              subst eo34
              go_wp2_with (first | ((with_reducible refine gate_callee (f := 46) rfl ?_); refine goesL_ (some 45) rfl rfl Try.func46 (by kernel_rfl) rfl #[.slice Ao34 x8_2.length co34, .int .i64 0] rfl (by (try simp only [List.map_toArray, List.map_cons, List.map_nil]); first | done | rfl | (simp only [List.length_drop, List.length_take]; rfl)) ?_; (with_reducible refine (slices_Index_int_int.calls k2 _ _ x8_2 0 t117 _ ?side1 ?side2 A25.out).mono ?_); (case side1 => repeat (first | exact (Kd.R_reads' HO_8.out).2.2 | (with_reducible refine Kd.C_alloc ?_ _) | (with_reducible refine Kd.C_drewN ?_ _) | (with_reducible refine Kd.C_drew ?_))); (case side2 => exact (Kd.R_reads' HO_8.out).2.1); rintro e w' ⟨rfl, ⟨nd, rfl⟩⟩; refine ⟨_, rfl, ?_⟩; (try (rw [drewN_self wr]; generalize hq_ : World.drewN wr _ = wr; have n0_ : Aside0 (Kd.R (Kd.int .i64) 3 wr w.heap.size (fun k_ => some k_ ≠ (.slice Ao34 x8_2.length co34 : Value).ownBlock) (.slice Ao33 x11_2.length co33) x11_2) := ⟨by rw [← hq_]; exact (by (with_reducible repeat (first | apply Kd.R_alloc | apply Kd.R_drewN | apply Kd.R_drew)); exact HO_11.out)⟩; have n1_ : Aside0 (Kd.S (Kd.slice 3 (Kd.int .i64)) 31 wr w.heap.size (fun k_ => some k_ ≠ (.slice Ao33 x11_2.length co33 : Value).ownBlock ∧ some k_ ≠ (.slice Ao13 t108.length co13 : Value).ownBlock ∧ some k_ ≠ (.slice Ao34 x8_2.length co34 : Value).ownBlock) (.slice Ao11 t105.length co11) t105) := ⟨by rw [← hq_]; exact (by (with_reducible repeat (first | apply Kd.S_alloc | apply Kd.S_drewN | apply Kd.S_drew)); exact Kd.S_mono HO_112000.out (fun _ hk => ⟨hk.2.1, ⟨hk.2.2, hk.1⟩⟩))⟩; have n2_ : Aside0 (Kd.S (Kd.slice 3 (Kd.int .i64)) 31 wr w.heap.size (fun k_ => some k_ ≠ (.slice Ao33 x11_2.length co33 : Value).ownBlock ∧ some k_ ≠ (.slice Ao11 t105.length co11 : Value).ownBlock ∧ some k_ ≠ (.slice Ao34 x8_2.length co34 : Value).ownBlock) (.slice Ao13 t108.length co13) t108) := ⟨by rw [← hq_]; exact (by (with_reducible repeat (first | apply Kd.S_alloc | apply Kd.S_drewN | apply Kd.S_drew)); exact Kd.S_mono HO_112001.out (fun _ hk => ⟨hk.2.1, ⟨hk.2.2, hk.1⟩⟩))⟩; have n3_ : Aside0 (Kd.R (Kd.int .i64) 3 wr w.heap.size (fun k_ => some k_ ≠ (.slice Ao33 x11_2.length co33 : Value).ownBlock) (.slice Ao34 x8_2.length co34) x8_2) := ⟨by rw [← hq_]; exact (by (with_reducible repeat (first | apply Kd.R_alloc | apply Kd.R_drewN | apply Kd.R_drew)); exact HO_8.out)⟩; have n4_ : Aside0 (wr.heap[gb111]? = some (.cells #[.slice Ao11 t105.length co11, .slice Ao13 t108.length co13] 60 (0, 0))) := ⟨by rw [← hq_]; exact (by (with_reducible repeat (first | refine blk_drewN ?_ _ | refine blk_drew ?_ | refine blk_alloc ?_ _)); exact BK111.out)⟩; have n5_ : Aside0 (Below w.heap.size w wr) := ⟨by rw [← hq_]; exact (by repeat (first | (with_reducible first | exact HB.out | apply bA_ | apply bN_ | apply bD_ | refine below_set ?_ GE111.out) | exact HB.out))⟩; clear HO_11 HO_112000 HO_112001 HO_8 BK111 HB hq_; have HO_11 := n0_; have HO_112000 := n1_; have HO_112001 := n2_; have HO_8 := n3_; have BK111 := n4_; have HB := n5_; clear n0_ n1_ n2_ n3_ n4_ n5_)); have p31 : 0 ≤ (t117 : Int) := of_decide_eq_true (by first | (with_reducible assumption) | assumption); have q31 : (t117 : Int) < ((x8_2.length : Int) : Int) := of_decide_eq_true (by first | (with_reducible assumption) | assumption); obtain ⟨go31, co31, eo31, gb31, gl31, cl31, HG31⟩ := Kd.R_form HO_8.out (by omega); (first | cases eo31 | (injection eo31 with ea_ en_ ec_; (first | subst ea_ | (injection ea_ with ea_; subst ea_)); subst ec_; clear en_)); have GB31 := aK gb31; have GG31 := aK HG31; clear gb31 gl31 HG31; obtain ⟨hx31_0, hf31_0⟩ := Kd.R_celln 0 HO_8.out (t117 : Int) p31 q31; replace p31 := eq_true p31; replace q31 := eq_true q31; obtain ⟨hy35_, hz35_⟩ := Kd.R_celln 0 HO_8.out (t117 : Int) (of_decide_eq_true (by first | (with_reducible assumption) | assumption)) (of_decide_eq_true (by first | (with_reducible assumption) | assumption)); have HP35 := Kd.R_putg HO_8.out (t117 : Int) (-1)) | ((with_reducible refine gate_store (t := 3) (p := 50) rfl ?_); refine store_event (t := 3) (p := 50) (v := ?vo_w36) (w1 := (wr.setCell ⟨go31, (t117 : Int).toNat, none⟩ (.int .i64 (-1)))) ?hg ?ho ?hn ?hr ?_; (case ho => rfl); (case hg => rfl); (case hn => rfl); (case hr => first | (go_simp; done) | (go_simp; rfl)); intro w36 hw; have hg : wr.grownBy w36 (some go31) := (by rw [hw]; exact HP35.2); have hp_ : Kd.R (Kd.int .i64) 3 w36 w.heap.size (fun k_ => some k_ ≠ (.slice Ao33 x11_2.length co33 : Value).ownBlock) (.slice (some ⟨go31, 0, none⟩) x8_2.length co34) y118 := (by rw [hw, Ny118.out]; exact HP35.1); clear HP35; have n0_ := aK (hp_); have n1_ := aK (Kd.R_after (v := (.slice (some ⟨go31, 0, none⟩) x8_2.length co34)) (v1 := (.slice (some ⟨go31, 0, none⟩) x8_2.length co34)) (ok := (fun _ => True)) (by (with_reducible repeat (first | apply Kd.R_alloc | apply Kd.R_drewN | apply Kd.R_drew)); exact Kd.R_mono HO_11.out (fun _ hk => ⟨trivial, hk⟩)) hg (.inl rfl)); have n2_ := aK (Kd.S_after (v := (.slice (some ⟨go31, 0, none⟩) x8_2.length co34)) (v1 := (.slice (some ⟨go31, 0, none⟩) x8_2.length co34)) (ok := (fun k_ => some k_ ≠ (.slice Ao33 x11_2.length co33 : Value).ownBlock ∧ some k_ ≠ (.slice Ao13 t108.length co13 : Value).ownBlock)) (by (with_reducible repeat (first | apply Kd.S_alloc | apply Kd.S_drewN | apply Kd.S_drew)); exact Kd.S_mono HO_112000.out (fun _ hk => by with_reducible (first | exact ⟨⟨hk.2.1, hk.2.2⟩, hk.1⟩ | exact ⟨⟨hk.2.2, hk.2.1⟩, hk.1⟩ | exact ⟨⟨hk.1, hk.2.1⟩, hk.2.2⟩ | exact ⟨⟨hk.1, hk.2.2⟩, hk.2.1⟩ | exact ⟨⟨hk.2.1, hk.1⟩, hk.2.2⟩ | exact ⟨⟨hk.2.2, hk.1⟩, hk.2.1⟩))) hg (.inl rfl)); have n3_ := aK (Kd.S_after (v := (.slice (some ⟨go31, 0, none⟩) x8_2.length co34)) (v1 := (.slice (some ⟨go31, 0, none⟩) x8_2.length co34)) (ok := (fun k_ => some k_ ≠ (.slice Ao33 x11_2.length co33 : Value).ownBlock ∧ some k_ ≠ (.slice Ao11 t105.length co11 : Value).ownBlock)) (by (with_reducible repeat (first | apply Kd.S_alloc | apply Kd.S_drewN | apply Kd.S_drew)); exact Kd.S_mono HO_112001.out (fun _ hk => by with_reducible (first | exact ⟨⟨hk.2.1, hk.2.2⟩, hk.1⟩ | exact ⟨⟨hk.2.2, hk.2.1⟩, hk.1⟩ | exact ⟨⟨hk.1, hk.2.1⟩, hk.2.2⟩ | exact ⟨⟨hk.1, hk.2.2⟩, hk.2.1⟩ | exact ⟨⟨hk.2.1, hk.1⟩, hk.2.2⟩ | exact ⟨⟨hk.2.2, hk.1⟩, hk.2.1⟩))) hg (.inl rfl)); have n4_ := aK (blk_grown (g := gb111) (o := .cells #[.slice Ao11 t105.length co11, .slice Ao13 t108.length co13] 60 (0, 0)) (by (with_reducible repeat (first | refine blk_drewN ?_ _ | refine blk_drew ?_ | refine blk_alloc ?_ _)); exact BK111.out) hg (Kd.R_ne HO_8.out BK111.out (by decide))); have n5_ := aK ((by rw [hw]; exact below_set (HB.out) GB31.out : Below w.heap.size w w36)); clear HO_8; clear HO_11; clear HO_112000; clear HO_112001; clear BK111; clear HB; have HO_8 := n0_; have HO_11 := n1_; have HO_112000 := n2_; have HO_112001 := n3_; have BK111 := n4_; have HB := n5_; clear n0_ n1_ n2_ n3_ n4_ n5_; clear hg hw hp_; have hcz37_0 : w36.cell? ⟨gb111, 0, none⟩ = some (.slice Ao11 t105.length co11) := (blk_cell BK111.out 0).trans rfl; have hcz37_1 : w36.cell? ⟨gb111, 1, none⟩ = some (.slice Ao13 t108.length co13) := (blk_cell BK111.out 1).trans rfl; have hfz37_0 := blk_frozen BK111.out 0; have hfz37_1 := blk_frozen BK111.out 1; have p119 : 0 ≤ (t117 : Int) := of_decide_eq_true (by first | (with_reducible assumption) | assumption); have q119 : t117 < (t108.length : Int) := of_decide_eq_true (by first | (with_reducible assumption) | assumption); obtain ⟨ad119, A119_0, c119_0, e119, hx119_0, hl119_0, hi119_0⟩ := at_L3 (Kd.S_reads' HO_112001.out).2.2 t117 p119 q119; cases e119; obtain ⟨ce119, hce119, hMe119, hcc119⟩ := Kd.S_get HO_112001.out [] t117 p119 (by first | exact q119 | exact of_decide_eq_true (by first | (with_reducible assumption) | assumption) | (have e_ := (Kd.S_reads' HO_112001.out).1; omega)); obtain ⟨ve119_0, rfl, ge119_0⟩ := hMe119; have hv119_0 := hcc119 0 _ rfl; rw [Nat.add_zero, show ((Kd.slice 3 (Kd.int .i64))).sz = 1 from rfl, Nat.mul_one] at hv119_0; replace hv119_0 := Option.some.inj (hv119_0.symm.trans hx119_0); rw [hv119_0] at ge119_0; have HL119_0 := aK (show Kd.R (Kd.int .i64) 3 _ _ _ _ (rd_L3 t108 t117) from ge119_0); clear hv119_0 ge119_0; clear hcc119 hce119; have HR119_0 := aK hi119_0; have HC119_0 := aK hl119_0; clear hi119_0 hl119_0; replace p119 := eq_true p119; replace q119 := eq_true q119))
              go_loopg [57] k2 (fun kq v57 w' => ∃ (x8_3 : List Int) (x57_3 : Int), v57 = .int .i64 x57_3 ∧ Aside0 (precedence_Order.l2 kq a0 x8_3 x11_2 t117 (rd_L3 t108 t117) ((rd_L3 t108 t117).length : Int) x57_3 t105 t108 = some (r1, r2)) ∧ Aside0 (kq ≤ k2) ∧ Aside0 (Kd.R (Kd.int .i64) 3 w' w.heap.size (fun k_ => some k_ ≠ ((.slice Ao33 x11_2.length co33) : Value).ownBlock) (.slice (some ⟨go31, 0, none⟩) x8_2.length co34) x8_3) ∧ Aside0 (Kd.R (Kd.int .i64) 3 w' w.heap.size (fun k_ => some k_ ≠ ((.slice (some ⟨go31, 0, none⟩) x8_2.length co34) : Value).ownBlock) (.slice Ao33 x11_2.length co33) x11_2) ∧ Aside0 (Kd.S (Kd.slice 3 (Kd.int .i64)) 31 w' w.heap.size (fun k_ => some k_ ≠ ((.slice (some ⟨go31, 0, none⟩) x8_2.length co34) : Value).ownBlock ∧ some k_ ≠ ((.slice Ao33 x11_2.length co33) : Value).ownBlock ∧ some k_ ≠ ((.slice (some ad119) t108.length co13) : Value).ownBlock) (.slice Ao11 t105.length co11) t105) ∧ Aside0 (Kd.S (Kd.slice 3 (Kd.int .i64)) 31 w' w.heap.size (fun k_ => some k_ ≠ ((.slice (some ⟨go31, 0, none⟩) x8_2.length co34) : Value).ownBlock ∧ some k_ ≠ ((.slice Ao33 x11_2.length co33) : Value).ownBlock ∧ some k_ ≠ ((.slice Ao11 t105.length co11) : Value).ownBlock) (.slice (some ad119) t108.length co13) t108) ∧ Aside0 (w'.heap[gb111]? = some (.cells #[(.slice Ao11 t105.length co11), (.slice (some ad119) t108.length co13)] 60 (0, 0))) ∧ Aside0 (Below w.heap.size w w') ∧ Aside0 (Kd.R (Kd.int .i64) 3 w' w.heap.size (fun k_ => some k_ ≠ ((.slice (some ⟨go31, 0, none⟩) x8_2.length co34) : Value).ownBlock) (.slice A119_0 (rd_L3 t108 t117).length c119_0) (rd_L3 t108 t117)))
              case atStart => exact ⟨(y118), (0), (by first | rfl | (simp; done) | (simp [*]; done)), H', ⟨Nat.le_refl _⟩, ⟨by (with_reducible repeat (first | apply Kd.R_alloc | apply Kd.R_drewN | apply Kd.R_drew)); exact HO_8.out⟩, ⟨by (with_reducible repeat (first | apply Kd.R_alloc | apply Kd.R_drewN | apply Kd.R_drew)); exact Kd.R_mono HO_11.out (fun _ hk => hk.2)⟩, ⟨by (with_reducible repeat (first | apply Kd.S_alloc | apply Kd.S_drewN | apply Kd.S_drew)); exact Kd.S_mono HO_112000.out (fun _ hk => ⟨hk.2, ⟨hk.1.1, hk.1.2⟩⟩)⟩, ⟨by (with_reducible repeat (first | apply Kd.S_alloc | apply Kd.S_drewN | apply Kd.S_drew)); exact Kd.S_mono HO_112001.out (fun _ hk => ⟨hk.2, ⟨hk.1.1, hk.1.2⟩⟩)⟩, ⟨by (with_reducible repeat (first | refine blk_drewN ?_ _ | refine blk_drew ?_ | refine blk_alloc ?_ _)); exact BK111.out⟩, ⟨by repeat (first | (with_reducible first | exact HB.out | apply bA_ | apply bN_ | apply bD_ | refine below_set ?_ GE111.out) | exact HB.out)⟩, ⟨by (with_reducible repeat (first | apply Kd.R_alloc | apply Kd.R_drewN | apply Kd.R_drew)); exact Kd.R_mono HL119_0.out (fun _ hk => by first | exact hk.2 | exact hk.1 | exact hk.1.1 | exact hk.1.2 | exact hk.2.1 | exact hk.2.2)⟩⟩
              case round =>
               clear H'; try clear c1; try clear p1; try clear q1; try clear hx1; try clear c2; try clear p2; try clear q2; try clear hx2; try clear hf2; try clear c3; try clear p3; try clear q3; try clear hx3; try clear hf3; try clear c4; try clear c4b0; try clear c4b1; try clear c6; try clear c6b0; try clear c6b1; try clear p6; try clear c7; try clear c7b0; try clear c7b1; try clear c11; try clear p11
               try clear q11; try clear hx11; try clear c17; try clear c17b0; try clear c18; try clear c18b0; try clear c19; try clear c19b0; try clear c20; try clear c20b0; try clear p21; try clear q21; try clear hx21; try clear hf21; try clear c24; try clear c24b0; try clear c25; try clear c26; try clear c26b0; try clear c29; try clear c29b0; try clear c30; try clear c30b0; try clear p31; try clear q31
               try clear hx31; try clear hf31; try clear c32; try clear c32b0; try clear hcz12_0; try clear hcz12_1; try clear hcz16_0; try clear hcz16_1; try clear hcz37_0; try clear hcz37_1; try clear hfz12_0; try clear hfz12_1; try clear hfz16_0; try clear hfz16_1; try clear hfz37_0; try clear hfz37_1; try clear hx115_0; try clear hx119_0; try clear hx21_0; try clear hx31_0; try clear p1; try clear p11
               try clear p115; try clear p119; try clear p2; try clear p21; try clear p31; try clear p6; try clear q1; try clear q11; try clear q115; try clear q119; try clear q2; try clear q21; try clear q31
               obtain ⟨x8_3, x57_3, rfl, HA, HK3, HO_8, HO_11, HO_112000, HO_112001, BK111, HB, HL119_1⟩ := hrel
               have hl8_3 := (Kd.R_reads' HO_8.out).1
               rw [hl8_3] at HO_8
               (try simp only [hl8_3])
               (try simp only [hl8_3] at BK111)
               (try simp only [hl8_3] at HO_11)
               (try simp only [hl8_3] at HO_112000)
               (try simp only [hl8_3] at HO_112001)
               cases gk with
               | zero => exact absurd HA.out (by simp [precedence_Order.l2])
               | succ k3 =>
                have H := HA.out
                clear HA
                simp only [precedence_Order.l2] at H
                by_cases c38 : x57_3 < ((rd_L3 t108 t117).length : Int)
                ·rw [if_pos c38] at H
                 have c38b0 : decide (x57_3 < ((rd_L3 t108 t117).length : Int)) = true := decide_eq_true c38
                 clear c38
                 by_cases c39 : 0 ≤ x57_3
                 ·rw [if_pos c39] at H
                  have c39b0 : decide (0 ≤ x57_3) = true := decide_eq_true c39
                  clear c39
                  by_cases c40 : x57_3 < ((rd_L3 t108 t117).length : Int)
                  ·rw [if_pos c40] at H
                   have c40b0 : decide (x57_3 < ((rd_L3 t108 t117).length : Int)) = true := decide_eq_true c40
                   clear c40
                   by_cases c41 : 0 ≤ (rd (rd_L3 t108 t117) x57_3)
                   ·rw [if_pos c41] at H
                    have c41b0 : decide (0 ≤ (rd (rd_L3 t108 t117) x57_3)) = true := decide_eq_true c41
                    clear c41
                    by_cases c42 : (rd (rd_L3 t108 t117) x57_3) < (x8_3.length : Int)
                    ·rw [if_pos c42] at H
                     have c42b0 : decide ((rd (rd_L3 t108 t117) x57_3) < (x8_3.length : Int)) = true := decide_eq_true c42
                     clear c42
                     obtain ⟨y122, hy122⟩ : ∃ y_ : List Int, y_ = (x8_3.set ((rd (rd_L3 t108 t117) x57_3) : Int).toNat (wrap64 ((rd x8_3 (rd (rd_L3 t108 t117) x57_3)) - 1))) := ⟨_, rfl⟩
                     replace H : (precedence_Order.l2 k3 a0 y122 x11_2 t117 (rd_L3 t108 t117) ((rd_L3 t108 t117).length : Int) (wrap64 (x57_3 + 1)) t105 t108) = some (r1, r2) := by first | (rw [hy122]; with_reducible exact H) | (have H2_ := (Option.bind_some _ _).symm.trans H; rw [hy122]; with_reducible exact H2_) | (have H2_ := (Option.bind_some _ _).symm.trans H; with_reducible exact H2_) | with_reducible exact H | (rw [hy122]; exact H) | exact H
                     have Ny122 := aK hy122; clear hy122; have H' := aK H; clear H
                     have p120 : 0 ≤ (x57_3 : Int) := of_decide_eq_true (by first | (with_reducible assumption) | assumption)
                     have q120 : x57_3 < ((rd_L3 t108 t117).length : Int) := of_decide_eq_true (by first | (with_reducible assumption) | assumption)
                     obtain ⟨ad120, e120, hx120_0⟩ := Kd.at_int (Kd.R_reads' HL119_1.out).2.2 x57_3 p120 q120
                     cases e120

                     replace p120 := eq_true p120; replace q120 := eq_true q120
                     have p121 : 0 ≤ ((rd (rd_L3 t108 t117) x57_3) : Int) := of_decide_eq_true (by first | (with_reducible assumption) | assumption)
                     have q121 : (rd (rd_L3 t108 t117) x57_3) < (x8_3.length : Int) := of_decide_eq_true (by first | (with_reducible assumption) | assumption)
                     obtain ⟨ad121, e121, hx121_0⟩ := Kd.at_int (Kd.R_reads' HO_8.out).2.2 (rd (rd_L3 t108 t117) x57_3) p121 q121
                     obtain rfl : (⟨go31, 0, none⟩ : Addr) = ad121 := (by injection e121)
                     (first | simp only [add_plain] at hx121_0 | simp only [add_at] at hx121_0 | simp only [Addr.add, Nat.zero_add] at hx121_0 | skip)
                     replace p121 := eq_true p121; replace q121 := eq_true q121
                     have p43 : 0 ≤ ((rd (rd_L3 t108 t117) x57_3) : Int) := of_decide_eq_true (by first | (with_reducible assumption) | assumption)
                     have q43 : ((rd (rd_L3 t108 t117) x57_3) : Int) < ((x8_3.length : Int) : Int) := of_decide_eq_true (by first | (with_reducible assumption) | assumption)
                     obtain ⟨hx43_0, hf43_0⟩ := Kd.R_celln 0 HO_8.out ((rd (rd_L3 t108 t117) x57_3) : Int) p43 q43
                     replace p43 := eq_true p43; replace q43 := eq_true q43
                     have HP44 := Kd.R_putg HO_8.out ((rd (rd_L3 t108 t117) x57_3) : Int) (wrap64 ((rd x8_3 (rd (rd_L3 t108 t117) x57_3)) - 1))
                     go_wp2_with (first | ((with_reducible refine gate_store (t := 3) (p := 66) rfl ?_); refine store_event (t := 3) (p := 66) (v := ?vo_w45) (w1 := (wr.setCell ⟨go31, ((rd (rd_L3 t108 t117) x57_3) : Int).toNat, none⟩ (.int .i64 (wrap64 ((rd x8_3 (rd (rd_L3 t108 t117) x57_3)) - 1))))) ?hg ?ho ?hn ?hr ?_; (case ho => rfl); (case hg => rfl); (case hn => rfl); (case hr => first | (go_simp; done) | (go_simp; rfl)); intro w45 hw; have hg : wr.grownBy w45 (some go31) := (by rw [hw]; exact HP44.2); have hp_ : Kd.R (Kd.int .i64) 3 w45 w.heap.size (fun k_ => some k_ ≠ (.slice Ao33 x11_2.length co33 : Value).ownBlock) (.slice (some ⟨go31, 0, none⟩) x8_3.length co34) y122 := (by rw [hw, Ny122.out]; exact HP44.1); clear HP44; have n0_ := aK (hp_); have n1_ := aK (Kd.R_after (v := (.slice (some ⟨go31, 0, none⟩) x8_3.length co34)) (v1 := (.slice (some ⟨go31, 0, none⟩) x8_3.length co34)) (ok := (fun _ => True)) (by (with_reducible repeat (first | apply Kd.R_alloc | apply Kd.R_drewN | apply Kd.R_drew)); exact Kd.R_mono HO_11.out (fun _ hk => ⟨trivial, hk⟩)) hg (.inl rfl)); have n2_ := aK (Kd.S_after (v := (.slice (some ⟨go31, 0, none⟩) x8_3.length co34)) (v1 := (.slice (some ⟨go31, 0, none⟩) x8_3.length co34)) (ok := (fun k_ => some k_ ≠ (.slice Ao33 x11_2.length co33 : Value).ownBlock ∧ some k_ ≠ (.slice (some ad119) t108.length co13 : Value).ownBlock)) (by (with_reducible repeat (first | apply Kd.S_alloc | apply Kd.S_drewN | apply Kd.S_drew)); exact Kd.S_mono HO_112000.out (fun _ hk => ⟨⟨hk.2.1, hk.2.2⟩, hk.1⟩)) hg (.inl rfl)); have n3_ := aK (Kd.S_after (v := (.slice (some ⟨go31, 0, none⟩) x8_3.length co34)) (v1 := (.slice (some ⟨go31, 0, none⟩) x8_3.length co34)) (ok := (fun k_ => some k_ ≠ (.slice Ao33 x11_2.length co33 : Value).ownBlock ∧ some k_ ≠ (.slice Ao11 t105.length co11 : Value).ownBlock)) (by (with_reducible repeat (first | apply Kd.S_alloc | apply Kd.S_drewN | apply Kd.S_drew)); exact Kd.S_mono HO_112001.out (fun _ hk => ⟨⟨hk.2.1, hk.2.2⟩, hk.1⟩)) hg (.inl rfl)); have n4_ := aK (blk_grown (g := gb111) (o := .cells #[.slice Ao11 t105.length co11, .slice (some ad119) t108.length co13] 60 (0, 0)) (by (with_reducible repeat (first | refine blk_drewN ?_ _ | refine blk_drew ?_ | refine blk_alloc ?_ _)); exact BK111.out) hg (Kd.R_ne HO_8.out BK111.out (by decide))); have n5_ := aK ((by rw [hw]; exact below_set (HB.out) GB31.out : Below w.heap.size w w45)); have n6_ := aK (Kd.R_after (v := (.slice (some ⟨go31, 0, none⟩) x8_3.length co34)) (v1 := (.slice (some ⟨go31, 0, none⟩) x8_3.length co34)) (ok := (fun _ => True)) (by (with_reducible repeat (first | apply Kd.R_alloc | apply Kd.R_drewN | apply Kd.R_drew)); exact Kd.R_mono HL119_1.out (fun _ hk => ⟨trivial, hk⟩)) hg (.inl rfl)); clear HL119_1; have HL119_1 := n6_; clear n6_; clear HO_8; clear HO_11; clear HO_112000; clear HO_112001; clear BK111; clear HB; have HO_8 := n0_; have HO_11 := n1_; have HO_112000 := n2_; have HO_112001 := n3_; have BK111 := n4_; have HB := n5_; clear n0_ n1_ n2_ n3_ n4_ n5_; clear hg hw hp_))
                     (try simp only [← hl8_3])
                     go_roundg k3
                     case measure => have := HK1.out; have := HK2.out; have := HK3.out; omega
                     case rel => exact ⟨(y122), (wrap64 (x57_3 + 1)), (by first | rfl | (simp; done) | (simp [*]; done)), H', ⟨by have := HK1.out; have := HK2.out; have := HK3.out; omega⟩, ⟨by (try simp only [hl8_3]); (with_reducible repeat (first | apply Kd.R_alloc | apply Kd.R_drewN | apply Kd.R_drew)); exact HO_8.out⟩, ⟨by (try simp only [hl8_3]); (with_reducible repeat (first | apply Kd.R_alloc | apply Kd.R_drewN | apply Kd.R_drew)); exact Kd.R_mono HO_11.out (fun _ hk => hk.2)⟩, ⟨by (try simp only [hl8_3]); (with_reducible repeat (first | apply Kd.S_alloc | apply Kd.S_drewN | apply Kd.S_drew)); exact Kd.S_mono HO_112000.out (fun _ hk => ⟨hk.2, ⟨hk.1.1, hk.1.2⟩⟩)⟩, ⟨by (try simp only [hl8_3]); (with_reducible repeat (first | apply Kd.S_alloc | apply Kd.S_drewN | apply Kd.S_drew)); exact Kd.S_mono HO_112001.out (fun _ hk => ⟨hk.2, ⟨hk.1.1, hk.1.2⟩⟩)⟩, ⟨by (try simp only [hl8_3]); (with_reducible repeat (first | refine blk_drewN ?_ _ | refine blk_drew ?_ | refine blk_alloc ?_ _)); exact BK111.out⟩, ⟨by repeat (first | (with_reducible first | exact HB.out | apply bA_ | apply bN_ | apply bD_ | refine below_set ?_ GE111.out) | exact HB.out)⟩, ⟨by (try simp only [hl8_3]); (with_reducible repeat (first | apply Kd.R_alloc | apply Kd.R_drewN | apply Kd.R_drew)); exact Kd.R_mono HL119_1.out (fun _ hk => hk.2)⟩⟩
                    ·rw [if_neg c42] at H
                     exact absurd H (by simp)
                   ·rw [if_neg c41] at H
                    exact absurd H (by simp)
                  ·rw [if_neg c40] at H
                   exact absurd H (by simp)
                 ·rw [if_neg c39] at H
                  exact absurd H (by simp)
                ·rw [if_neg c38] at H
                 have c38b0 : decide (x57_3 < ((rd_L3 t108 t117).length : Int)) = false := decide_eq_false c38
                 clear c38
                 by_cases c46 : x11_2.length < 17592186044416
                 ·rw [if_pos c46] at H; have LMc46 := aK c46; clear c46
                  obtain ⟨y123, hy123⟩ : ∃ y_ : List Int, y_ = (x11_2 ++ [t117]) := ⟨_, rfl⟩
                  replace H : (precedence_Order.l1 k3 a0 x8_3 y123 t105 t108) = some (r1, r2) := by first | (rw [hy123]; with_reducible exact H) | (have H2_ := (Option.bind_some _ _).symm.trans H; rw [hy123]; with_reducible exact H2_) | (have H2_ := (Option.bind_some _ _).symm.trans H; with_reducible exact H2_) | with_reducible exact H | (rw [hy123]; exact H) | exact H
                  have Ny123 := aK hy123; clear hy123; have H' := aK H; clear H
                  go_wp2_with (first | ((with_reducible refine gate_builtin (b := .append) (xs := #[.tmp 68, .tmp 70]) rfl ?_); at_builtin; refine Kd.R_append (Kd.int .i64) (w0 := w) w.heap.size rfl (.tmp 68) (.tmp 70) 31 3 (.int .i64 0) 8 rfl Try.underlying31 info3 rfl (by decide) (by omega) (.slice Ao33 x11_2.length co33) x11_2 t117 [.int .i64 t117] (fun k_ => some k_ ≠ (.slice (some ⟨go31, 0, none⟩) x8_3.length co34 : Value).ownBlock) (fun _ => False) rfl rfl ?aP (fun _ hk => hk.elim) ?aF ?aO ?aB ?aS ?aL ?_; (case aP => exact rfl); (case aB => exact (by repeat (first | (with_reducible first | exact HB.out | apply bA_ | apply bN_ | apply bD_ | refine below_set ?_ GE111.out) | exact HB.out))); (case aF => exact (fun k_ hk => Kd.fresh' (Kd.R_lt (by (with_reducible repeat (first | apply Kd.R_alloc | apply Kd.R_drewN | apply Kd.R_drew)); exact HO_8.out)) k_ hk)); (case aO => exact (by (with_reducible repeat (first | apply Kd.R_alloc | apply Kd.R_drewN | apply Kd.R_drew)); exact HO_11.out)); (case aS => exact (bZ_ (by repeat (first | (with_reducible first | exact HB.out | apply bA_ | apply bN_ | apply bD_ | refine below_set ?_ GE111.out) | exact HB.out)))); (case aL => have := LMc46.out; omega); intro v124 w47 ho hb hg hat; rw [← Ny123.out] at ho; have n0_ := aK (Kd.R_after (ok := (fun _ => True)) (by (with_reducible repeat (first | apply Kd.R_alloc | apply Kd.R_drewN | apply Kd.R_drew)); exact Kd.R_mono HO_8.out (fun _ hk => ⟨trivial, hk⟩)) hg hat); have n1_ := aK (Kd.S_after (ok := (fun k_ => some k_ ≠ (.slice (some ⟨go31, 0, none⟩) x8_3.length co34 : Value).ownBlock ∧ some k_ ≠ (.slice (some ad119) t108.length co13 : Value).ownBlock)) (by (with_reducible repeat (first | apply Kd.S_alloc | apply Kd.S_drewN | apply Kd.S_drew)); exact Kd.S_mono HO_112000.out (fun _ hk => ⟨⟨hk.1, hk.2.2⟩, hk.2.1⟩)) hg hat); have n2_ := aK (Kd.S_after (ok := (fun k_ => some k_ ≠ (.slice (some ⟨go31, 0, none⟩) x8_3.length co34 : Value).ownBlock ∧ some k_ ≠ (.slice Ao11 t105.length co11 : Value).ownBlock)) (by (with_reducible repeat (first | apply Kd.S_alloc | apply Kd.S_drewN | apply Kd.S_drew)); exact Kd.S_mono HO_112001.out (fun _ hk => ⟨⟨hk.1, hk.2.2⟩, hk.2.1⟩)) hg hat); have n3_ := aK (blk_grown (g := gb111) (o := .cells #[.slice Ao11 t105.length co11, .slice (some ad119) t108.length co13] 60 (0, 0)) (by (with_reducible repeat (first | refine blk_drewN ?_ _ | refine blk_drew ?_ | refine blk_alloc ?_ _)); exact BK111.out) hg (Kd.R_ne HO_11.out BK111.out (by decide))); have n4_ := aK (hb); have n5_ := aK (ho); clear HO_8; clear HO_112000; clear HO_112001; clear BK111; clear HB; clear HO_11; have HO_8 := n0_; have HO_112000 := n1_; have HO_112001 := n2_; have BK111 := n3_; have HB := n4_; have HO125 := n5_; clear n0_ n1_ n2_ n3_ n4_ n5_; clear ho hb hg hat))
                  (try simp only [← hl8_3])
                  go_roundg k3
                  case measure => have := HK1.out; have := HK2.out; have := HK3.out; omega
                  case rel => exact ⟨(x8_3), (y123), H', ⟨by have := HK1.out; have := HK2.out; have := HK3.out; omega⟩, ⟨by (try simp only [hl8_3]); (with_reducible repeat (first | apply Kd.R_alloc | apply Kd.R_drewN | apply Kd.R_drew)); exact Kd.R_mono HO_8.out (fun _ hk => hk.2)⟩, ⟨by (try simp only [hl8_3]); (with_reducible repeat (first | apply Kd.R_alloc | apply Kd.R_drewN | apply Kd.R_drew)); exact HO125.out⟩, ⟨by (try simp only [hl8_3]); (with_reducible repeat (first | apply Kd.S_alloc | apply Kd.S_drewN | apply Kd.S_drew)); exact Kd.S_mono HO_112000.out (fun _ hk => ⟨hk.1.1, ⟨hk.2, hk.1.2⟩⟩)⟩, ⟨by (try simp only [hl8_3]); (with_reducible repeat (first | apply Kd.S_alloc | apply Kd.S_drewN | apply Kd.S_drew)); exact Kd.S_mono HO_112001.out (fun _ hk => ⟨hk.1.1, ⟨hk.2, hk.1.2⟩⟩)⟩, ⟨by (try simp only [hl8_3]); (with_reducible repeat (first | refine blk_drewN ?_ _ | refine blk_drew ?_ | refine blk_alloc ?_ _)); exact BK111.out⟩, ⟨by repeat (first | (with_reducible first | exact HB.out | apply bA_ | apply bN_ | apply bD_ | refine below_set ?_ GE111.out) | exact HB.out)⟩⟩
                 ·rw [if_neg c46] at H
                  exact absurd H (by simp)
             ·rw [if_neg c32] at H
              exact absurd H (by simp)
            ·rw [if_neg c30] at H
             exact absurd H (by simp)
           ·rw [if_neg c29] at H
            exact absurd H (by simp)
         ·rw [if_neg c24] at H
          have c24b0 : decide ((x11_2.length : Int) < a0) = false := decide_eq_false c24
          clear c24
          simp only [Option.some.injEq, Prod.mk.injEq] at H
          obtain ⟨rfl, rfl⟩ := H
          obtain ⟨Ao48, co48, eo48⟩ := Kd.R_slice HO_11.out
          subst eo48; go_wp2
          go_ret2
          exact ⟨_, by first | rfl | (simp [errW_none, errW_some] <;> rfl) | (simp [*, errW_none, errW_some] <;> rfl), by (with_reducible repeat (first | apply Kd.R_alloc | apply Kd.R_drewN | apply Kd.R_drew)); exact Kd.R_mono HO_11.out (fun _ hk => trivial), by repeat (first | (with_reducible first | exact HB.out | apply bA_ | apply bN_ | apply bD_ | refine below_set ?_ GE111.out) | exact HB.out)⟩
   ·rw [if_neg c7] at H
    exact absurd H (by simp)
  ·rw [if_neg c6] at H
   exact absurd H (by simp)
 ·rw [if_neg c4] at H
  have c4b0 : (t104 == 0) = false := beq_eq_false_iff_ne.mpr c4
  have c4b1 : (t104 != 0) = true := bne_iff_ne.mpr c4
  simp only [Option.some.injEq, Prod.mk.injEq] at H
  obtain ⟨rfl, rfl⟩ := H
  go_enter Try.func25, Try.ntmps25
  go_wp2_with (first | ((with_reducible refine gate_callee (f := 20) rfl ?_); refine goesL_ (some 17) rfl rfl Try.func20 (by kernel_rfl) rfl #[.int .i64 a0, .slice A1 l1.length c1] rfl (by (try simp only [List.map_toArray, List.map_cons, List.map_nil]); first | done | rfl | (simp only [List.length_drop, List.length_take]; rfl)) ?_; (with_reducible refine (precedence_Valid.calls k a0 _ _ l1 t104 _ ?side1 ?side2 A3.out).mono ?_); (case side1 => repeat (first | exact HR1.out | (with_reducible refine Kd.C_alloc ?_ _) | (with_reducible refine Kd.C_drewN ?_ _) | (with_reducible refine Kd.C_drew ?_))); (case side2 => exact HC1.out); rintro e w49 ⟨rfl, hb⟩; refine ⟨_, rfl, ?_⟩; have n0_ := aK (bT_ (by repeat (first | (with_reducible first | exact HB.out | apply bA_ | apply bN_ | apply bD_) | exact HB.out)) hb); clear HB; have HB := n0_; clear n0_; (try clear hb); (try clear hb2); (try clear hk); (try clear hi)))
  go_ret2
  exact ⟨_, by first | rfl | (simp [errW_none, errW_some] <;> rfl) | (simp [*, errW_none, errW_some] <;> rfl), by first | exact Kd.R_nil _ _ _ _ _ | exact Kd.N_nil _ _ _ _ _ | exact Kd.V_nil _ _ _ _ _ | exact Kd.Q_nil _ _ _ _ _ | exact Kd.S_nil _ _ _ _ _, by repeat (first | (with_reducible first | exact HB.out | apply bA_ | apply bN_ | apply bD_) | exact HB.out)⟩

end Go.Proofs.Ytbbkclcfmcjlgaa.P


namespace Go.Proofs.Ytbbkclcfmcjlgaa.P
open Go.RowKit Go.Proofs.YtbbkclcfmcjlgaaW.PrintWords Go.Proofs.YtbbkclcfmcjlgaaW.PrintLast Go.Proofs.YtbbkclcfmcjlgaaW.PrintMore
attribute [local go_sem] max2_int min2_int max_two min_two max_three min_three max_four min_four
set_option linter.unusedVariables false
set_option linter.unusedSimpArgs false

def swarfref29_in.l0 : Nat → List Int → Int → Int → Option (Bool)
 | 0, _, _, _ => none
 | k + 1, x0, x1, x5 => if x5 < (x0.length : Int) then (if 0 ≤ x5 then (if (rd x0 x5) = x1 then (some true) else (swarfref29_in.l0 k x0 x1 (wrap64 (x5 + 1)))) else (none)) else (some false)
def swarfref29_in.f (k : Nat) (l0 : List Int) (a1 : Int) : Option (Bool) := swarfref29_in.l0 k l0 a1 0
theorem swarfref29_in.mono_l : ∀ k, (∀ y0 y1 y2, LeO (swarfref29_in.l0 k y0 y1 y2) (swarfref29_in.l0 (k + 1) y0 y1 y2))
 | 0 => fun _ _ _ r h => by simp [swarfref29_in.l0] at h
 | k + 1 => by
  have ih0 := swarfref29_in.mono_l k
  ·intro y0 y1 y2
   unfold swarfref29_in.l0
   repeat' first
   | (with_reducible exact ih0 _ _ _)
   | (with_reducible exact LeO.refl _)
   | (with_reducible exact LeO.none _)
   | (with_reducible refine LeO.ite ?_ ?_)
   | (with_reducible refine LeO.bind ?_ (fun _ => ?_))
   | exact ih0 _ _ _
   | exact LeO.none _
   | refine LeO.ite ?_ ?_
   | refine LeO.bind ?_ (fun _ => ?_)
theorem swarfref29_in.mono : ∀ a0 a1 k, LeO (swarfref29_in.f k a0 a1) (swarfref29_in.f (k + 1) a0 a1) := by
 intro a0 a1 k
 have ih0 := swarfref29_in.mono_l k
 unfold swarfref29_in.f
 repeat' first
   | (with_reducible exact ih0 _ _ _)
   | (with_reducible exact LeO.refl _)
   | (with_reducible exact LeO.none _)
   | (with_reducible refine LeO.ite ?_ ?_)
   | (with_reducible refine LeO.bind ?_ (fun _ => ?_))
   | exact ih0 _ _ _
   | exact LeO.none _
   | refine LeO.ite ?_ ?_
   | refine LeO.bind ?_ (fun _ => ?_)
set_option maxHeartbeats 8000000 in
set_option maxRecDepth 100000 in
theorem swarfref29_in.calls (k : Nat) (A0 : Option Addr) (c0 : Nat) (l0 : List Int) (a1 : Int) (r : Bool) (w : World) (hr0 : Kd.C (Kd.int .i64) w A0 l0.length l0) (hc0 : l0.length ≤ c0) (h : swarfref29_in.f k l0 a1 = some r) :
  Calls Try.prog 40 #[.slice A0 l0.length c0, .int .i64 a1] w fun e w' => e = .returned (.bool r) ∧ Drawn0 w w' := by
 have HR0 := aK hr0
 have HC0 := aK hc0
 clear hr0 hc0
 have H : (swarfref29_in.l0 k l0 a1 0) = some r := h
 clear h
 have H' := aK H
 clear H
 go_enter Try.func40, Try.ntmps40
 go_wp2
 go_loopg [5] k (fun kq v5 w' => ∃ (x5_1 : Int), v5 = .int .i64 x5_1 ∧ Aside0 (swarfref29_in.l0 kq l0 a1 x5_1 = some r) ∧ Aside0 (kq ≤ k) ∧ Drawn0 w w')
 case atStart => exact ⟨(0), (by first | rfl | (simp; done) | (simp [*]; done)), H', ⟨Nat.le_refl _⟩, by repeat (first | exact Drawn0.refl _ | apply Drawn0.step)⟩
 case round =>
  clear H'; try clear p2
  obtain ⟨x5_1, rfl, HA, HK1, ⟨m1, rfl⟩⟩ := hrel
  cases gk with
  | zero => exact absurd HA.out (by simp [swarfref29_in.l0])
  | succ k1 =>
   have H := HA.out
   clear HA
   simp only [swarfref29_in.l0] at H
   by_cases c3 : x5_1 < (l0.length : Int)
   ·rw [if_pos c3] at H
    have c3b0 : decide (x5_1 < (l0.length : Int)) = true := decide_eq_true c3
    clear c3
    by_cases c4 : 0 ≤ x5_1
    ·rw [if_pos c4] at H
     have c4b0 : decide (0 ≤ x5_1) = true := decide_eq_true c4
     clear c4
     by_cases c5 : (rd l0 x5_1) = a1
     ·rw [if_pos c5] at H
      have c5b0 : ((rd l0 x5_1) == a1) = true := beq_iff_eq.mpr c5
      have c5b1 : ((rd l0 x5_1) != a1) = false := bne_eq_false_iff_eq.mpr c5
      clear c5; obtain rfl := Option.some.inj H
      have p130 : 0 ≤ (x5_1 : Int) := of_decide_eq_true (by first | (with_reducible assumption) | assumption)
      have q130 : x5_1 < (l0.length : Int) := of_decide_eq_true (by first | (with_reducible assumption) | assumption)
      obtain ⟨ad130, e130, hx130_0⟩ := Kd.at_int HR0.out x5_1 p130 q130
      cases e130; replace p130 := eq_true p130; replace q130 := eq_true q130; go_wp2; go_ret
      exact ⟨by first | rfl | (simp; done) | (simp [*]; done), by repeat (first | exact Drawn0.refl _ | apply Drawn0.step)⟩
     ·rw [if_neg c5] at H
      have c5b0 : ((rd l0 x5_1) == a1) = false := beq_eq_false_iff_ne.mpr c5
      have c5b1 : ((rd l0 x5_1) != a1) = true := bne_iff_ne.mpr c5
      have H' := aK H; clear H
      have p130 : 0 ≤ (x5_1 : Int) := of_decide_eq_true (by first | (with_reducible assumption) | assumption)
      have q130 : x5_1 < (l0.length : Int) := of_decide_eq_true (by first | (with_reducible assumption) | assumption)
      obtain ⟨ad130, e130, hx130_0⟩ := Kd.at_int HR0.out x5_1 p130 q130
      cases e130; replace p130 := eq_true p130; replace q130 := eq_true q130; go_wp2
      go_roundg k1
      case measure => have := HK1.out; omega
      case rel => exact ⟨(wrap64 (x5_1 + 1)), (by first | rfl | (simp; done) | (simp [*]; done)), H', ⟨by have := HK1.out; omega⟩, by repeat (first | exact Drawn0.refl _ | apply Drawn0.step)⟩
    ·rw [if_neg c4] at H
     exact absurd H (by simp)
   ·rw [if_neg c3] at H
    have c3b0 : decide (x5_1 < (l0.length : Int)) = false := decide_eq_false c3
    clear c3; obtain rfl := Option.some.inj H; go_wp2; go_ret
    exact ⟨by first | rfl | (simp; done) | (simp [*]; done), by repeat (first | exact Drawn0.refl _ | apply Drawn0.step)⟩

end Go.Proofs.Ytbbkclcfmcjlgaa.P


namespace Go.Proofs.Ytbbkclcfmcjlgaa.P
open Go.RowKit Go.Proofs.YtbbkclcfmcjlgaaW.PrintWords Go.Proofs.YtbbkclcfmcjlgaaW.PrintLast Go.Proofs.YtbbkclcfmcjlgaaW.PrintMore
attribute [local go_sem] max2_int min2_int max_two min_two max_three min_three max_four min_four
set_option linter.unusedVariables false
set_option linter.unusedSimpArgs false

def swarfref29_Has.l0 : Nat → List (S47) → Int → Int → Int → Option (Bool)
 | 0, _, _, _, _ => none
 | k + 1, x0, x1, x2, x7 => if x7 < (x0.length : Int) then (if 0 ≤ x7 then (if ((rd_T47 x0 x7).f0) = x1 then (if ((rd_T47 x0 x7).f1) = x2 then (some true) else (swarfref29_Has.l0 k x0 x1 x2 (wrap64 (x7 + 1)))) else (swarfref29_Has.l0 k x0 x1 x2 (wrap64 (x7 + 1)))) else (none)) else (some false)
def swarfref29_Has.f (k : Nat) (l0 : List (S47)) (a1 : Int) (a2 : Int) : Option (Bool) := swarfref29_Has.l0 k l0 a1 a2 0
theorem swarfref29_Has.mono_l : ∀ k, (∀ y0 y1 y2 y3, LeO (swarfref29_Has.l0 k y0 y1 y2 y3) (swarfref29_Has.l0 (k + 1) y0 y1 y2 y3))
 | 0 => fun _ _ _ _ r h => by simp [swarfref29_Has.l0] at h
 | k + 1 => by
  have ih0 := swarfref29_Has.mono_l k
  ·intro y0 y1 y2 y3
   unfold swarfref29_Has.l0
   repeat' first
   | (with_reducible exact ih0 _ _ _ _)
   | (with_reducible exact LeO.refl _)
   | (with_reducible exact LeO.none _)
   | (with_reducible refine LeO.ite ?_ ?_)
   | (with_reducible refine LeO.bind ?_ (fun _ => ?_))
   | exact ih0 _ _ _ _
   | exact LeO.none _
   | refine LeO.ite ?_ ?_
   | refine LeO.bind ?_ (fun _ => ?_)
theorem swarfref29_Has.mono : ∀ a0 a1 a2 k, LeO (swarfref29_Has.f k a0 a1 a2) (swarfref29_Has.f (k + 1) a0 a1 a2) := by
 intro a0 a1 a2 k
 have ih0 := swarfref29_Has.mono_l k
 unfold swarfref29_Has.f
 repeat' first
   | (with_reducible exact ih0 _ _ _ _)
   | (with_reducible exact LeO.refl _)
   | (with_reducible exact LeO.none _)
   | (with_reducible refine LeO.ite ?_ ?_)
   | (with_reducible refine LeO.bind ?_ (fun _ => ?_))
   | exact ih0 _ _ _ _
   | exact LeO.none _
   | refine LeO.ite ?_ ?_
   | refine LeO.bind ?_ (fun _ => ?_)
set_option maxHeartbeats 8000000 in
set_option maxRecDepth 100000 in
theorem swarfref29_Has.calls (k : Nat) (A0 : Option Addr) (c0 : Nat) (l0 : List (S47)) (a1 : Int) (a2 : Int) (r : Bool) (w : World) (hr0 : Kd.C k47 w A0 l0.length l0) (hc0 : l0.length ≤ c0) (h : swarfref29_Has.f k l0 a1 a2 = some r) :
  Calls Try.prog 45 #[.slice A0 l0.length c0, .int .i64 a1, .int .i64 a2] w fun e w' => e = .returned (.bool r) ∧ Drawn0 w w' := by
 have HR0 := aK hr0
 have HC0 := aK hc0
 clear hr0 hc0
 have H : (swarfref29_Has.l0 k l0 a1 a2 0) = some r := h
 clear h
 have H' := aK H
 clear H
 go_enter Try.func45, Try.ntmps45
 go_wp2
 go_loopg [7] k (fun kq v7 w' => ∃ (x7_1 : Int), v7 = .int .i64 x7_1 ∧ Aside0 (swarfref29_Has.l0 kq l0 a1 a2 x7_1 = some r) ∧ Aside0 (kq ≤ k) ∧ Drawn0 w w')
 case atStart => exact ⟨(0), (by first | rfl | (simp; done) | (simp [*]; done)), H', ⟨Nat.le_refl _⟩, by repeat (first | exact Drawn0.refl _ | apply Drawn0.step)⟩
 case round =>
  clear H'; try clear p2
  obtain ⟨x7_1, rfl, HA, HK1, ⟨m1, rfl⟩⟩ := hrel
  cases gk with
  | zero => exact absurd HA.out (by simp [swarfref29_Has.l0])
  | succ k1 =>
   have H := HA.out
   clear HA
   simp only [swarfref29_Has.l0] at H
   by_cases c4 : x7_1 < (l0.length : Int)
   ·rw [if_pos c4] at H
    have c4b0 : decide (x7_1 < (l0.length : Int)) = true := decide_eq_true c4
    clear c4
    by_cases c5 : 0 ≤ x7_1
    ·rw [if_pos c5] at H
     have c5b0 : decide (0 ≤ x7_1) = true := decide_eq_true c5
     clear c5
     by_cases c6 : ((rd_T47 l0 x7_1).f0) = a1
     ·rw [if_pos c6] at H
      have c6b0 : (((rd_T47 l0 x7_1).f0) == a1) = true := beq_iff_eq.mpr c6
      have c6b1 : (((rd_T47 l0 x7_1).f0) != a1) = false := bne_eq_false_iff_eq.mpr c6
      clear c6
      by_cases c7 : ((rd_T47 l0 x7_1).f1) = a2
      ·rw [if_pos c7] at H
       have c7b0 : (((rd_T47 l0 x7_1).f1) == a2) = true := beq_iff_eq.mpr c7
       have c7b1 : (((rd_T47 l0 x7_1).f1) != a2) = false := bne_eq_false_iff_eq.mpr c7
       clear c7; obtain rfl := Option.some.inj H
       have p131 : 0 ≤ (x7_1 : Int) := of_decide_eq_true (by first | (with_reducible assumption) | assumption)
       have q131 : x7_1 < (l0.length : Int) := of_decide_eq_true (by first | (with_reducible assumption) | assumption)
       obtain ⟨ad131, e131, hx131_0, hx131_1⟩ := at_T47 HR0.out x7_1 p131 q131
       cases e131; replace p131 := eq_true p131; replace q131 := eq_true q131
       have p132 : 0 ≤ (x7_1 : Int) := of_decide_eq_true (by first | (with_reducible assumption) | assumption)
       have q132 : x7_1 < (l0.length : Int) := of_decide_eq_true (by first | (with_reducible assumption) | assumption)
       obtain ⟨ad132, e132, hx132_0, hx132_1⟩ := at_T47 HR0.out x7_1 p132 q132
       obtain rfl : ad131 = ad132 := (by injection e132)
       replace p132 := eq_true p132; replace q132 := eq_true q132; go_wp2; go_ret
       exact ⟨by first | rfl | (simp; done) | (simp [*]; done), by repeat (first | exact Drawn0.refl _ | apply Drawn0.step)⟩
      ·rw [if_neg c7] at H
       have c7b0 : (((rd_T47 l0 x7_1).f1) == a2) = false := beq_eq_false_iff_ne.mpr c7
       have c7b1 : (((rd_T47 l0 x7_1).f1) != a2) = true := bne_iff_ne.mpr c7
       have H' := aK H; clear H
       have p131 : 0 ≤ (x7_1 : Int) := of_decide_eq_true (by first | (with_reducible assumption) | assumption)
       have q131 : x7_1 < (l0.length : Int) := of_decide_eq_true (by first | (with_reducible assumption) | assumption)
       obtain ⟨ad131, e131, hx131_0, hx131_1⟩ := at_T47 HR0.out x7_1 p131 q131
       cases e131; replace p131 := eq_true p131; replace q131 := eq_true q131
       have p132 : 0 ≤ (x7_1 : Int) := of_decide_eq_true (by first | (with_reducible assumption) | assumption)
       have q132 : x7_1 < (l0.length : Int) := of_decide_eq_true (by first | (with_reducible assumption) | assumption)
       obtain ⟨ad132, e132, hx132_0, hx132_1⟩ := at_T47 HR0.out x7_1 p132 q132
       obtain rfl : ad131 = ad132 := (by injection e132)
       replace p132 := eq_true p132; replace q132 := eq_true q132; go_wp2
       go_roundg k1
       case measure => have := HK1.out; omega
       case rel => exact ⟨(wrap64 (x7_1 + 1)), (by first | rfl | (simp; done) | (simp [*]; done)), H', ⟨by have := HK1.out; omega⟩, by repeat (first | exact Drawn0.refl _ | apply Drawn0.step)⟩
     ·rw [if_neg c6] at H
      have c6b0 : (((rd_T47 l0 x7_1).f0) == a1) = false := beq_eq_false_iff_ne.mpr c6
      have c6b1 : (((rd_T47 l0 x7_1).f0) != a1) = true := bne_iff_ne.mpr c6
      have H' := aK H; clear H
      have p131 : 0 ≤ (x7_1 : Int) := of_decide_eq_true (by first | (with_reducible assumption) | assumption)
      have q131 : x7_1 < (l0.length : Int) := of_decide_eq_true (by first | (with_reducible assumption) | assumption)
      obtain ⟨ad131, e131, hx131_0, hx131_1⟩ := at_T47 HR0.out x7_1 p131 q131
      cases e131; replace p131 := eq_true p131; replace q131 := eq_true q131; go_wp2
      go_roundg k1
      case measure => have := HK1.out; omega
      case rel => exact ⟨(wrap64 (x7_1 + 1)), (by first | rfl | (simp; done) | (simp [*]; done)), H', ⟨by have := HK1.out; omega⟩, by repeat (first | exact Drawn0.refl _ | apply Drawn0.step)⟩
    ·rw [if_neg c5] at H
     exact absurd H (by simp)
   ·rw [if_neg c4] at H
    have c4b0 : decide (x7_1 < (l0.length : Int)) = false := decide_eq_false c4
    clear c4; obtain rfl := Option.some.inj H; go_wp2; go_ret
    exact ⟨by first | rfl | (simp; done) | (simp [*]; done), by repeat (first | exact Drawn0.refl _ | apply Drawn0.step)⟩

end Go.Proofs.Ytbbkclcfmcjlgaa.P



namespace Go.Proofs.Ytbbkclcfmcjlgaa.P
open Go.RowKit Go.Proofs.YtbbkclcfmcjlgaaW.PrintWords Go.Proofs.YtbbkclcfmcjlgaaW.PrintLast Go.Proofs.YtbbkclcfmcjlgaaW.PrintMore
attribute [local go_sem] max2_int min2_int max_two min_two max_three min_three max_four min_four
set_option linter.unusedVariables false
set_option linter.unusedSimpArgs false

def swarfref29_Circle.l0 : Nat → List (S47) → List Int → Int → Option (Bool)
 | 0, _, _, _ => none
 | k + 1, x0, x1, x5 => if x5 < (x1.length : Int) then (if 0 ≤ x5 then (if x5 ≤ (x1.length : Int) then ((swarfref29_in.f k (x1.take (x5 : Int).toNat) (rd x1 x5)).bind fun t135 => (if t135 = true then (some false) else (if (x1.length : Int) = 0 then (none) else (if 0 ≤ (Int.tmod (wrap64 (x5 + 1)) (x1.length : Int)) then (if (Int.tmod (wrap64 (x5 + 1)) (x1.length : Int)) < (x1.length : Int) then ((swarfref29_Has.f k x0 (rd x1 x5) (rd x1 (Int.tmod (wrap64 (x5 + 1)) (x1.length : Int)))).bind fun t138 => (if t138 = true then (swarfref29_Circle.l0 k x0 x1 (wrap64 (x5 + 1))) else (some false))) else (none)) else (none))))) else (none)) else (none)) else (some (decide ((x1.length : Int) ≥ 2)))
def swarfref29_Circle.f (k : Nat) (l0 : List (S47)) (l1 : List Int) : Option (Bool) := swarfref29_Circle.l0 k l0 l1 0
theorem swarfref29_Circle.mono_l : ∀ k, (∀ y0 y1 y2, LeO (swarfref29_Circle.l0 k y0 y1 y2) (swarfref29_Circle.l0 (k + 1) y0 y1 y2))
 | 0 => fun _ _ _ r h => by simp [swarfref29_Circle.l0] at h
 | k + 1 => by
  have ih0 := swarfref29_Circle.mono_l k
  ·intro y0 y1 y2
   unfold swarfref29_Circle.l0
   repeat' first
   | (with_reducible exact ih0 _ _ _)
   | (with_reducible exact swarfref29_Has.mono _ _ _ _)
   | (with_reducible exact swarfref29_in.mono _ _ _)
   | (with_reducible exact LeO.refl _)
   | (with_reducible exact LeO.none _)
   | (with_reducible refine LeO.ite ?_ ?_)
   | (with_reducible refine LeO.bind ?_ (fun _ => ?_))
   | exact ih0 _ _ _
   | exact swarfref29_Has.mono _ _ _ _
   | exact swarfref29_in.mono _ _ _
   | exact LeO.none _
   | refine LeO.ite ?_ ?_
   | refine LeO.bind ?_ (fun _ => ?_)
theorem swarfref29_Circle.mono : ∀ a0 a1 k, LeO (swarfref29_Circle.f k a0 a1) (swarfref29_Circle.f (k + 1) a0 a1) := by
 intro a0 a1 k
 have ih0 := swarfref29_Circle.mono_l k
 unfold swarfref29_Circle.f
 repeat' first
   | (with_reducible exact ih0 _ _ _)
   | (with_reducible exact swarfref29_Has.mono _ _ _ _)
   | (with_reducible exact swarfref29_in.mono _ _ _)
   | (with_reducible exact LeO.refl _)
   | (with_reducible exact LeO.none _)
   | (with_reducible refine LeO.ite ?_ ?_)
   | (with_reducible refine LeO.bind ?_ (fun _ => ?_))
   | exact ih0 _ _ _
   | exact swarfref29_Has.mono _ _ _ _
   | exact swarfref29_in.mono _ _ _
   | exact LeO.none _
   | refine LeO.ite ?_ ?_
   | refine LeO.bind ?_ (fun _ => ?_)
set_option maxHeartbeats 8000000 in
set_option maxRecDepth 100000 in
theorem in_calls_n (k : Nat) (A0 : Option Addr) (c0 n : Nat) (l0 : List Int) (hn : l0.length = n) (a1 : Int) (r : Bool) (w : World) (hr0 : Kd.C (Kd.int .i64) w A0 l0.length l0) (hc0 : l0.length ≤ c0) (h : swarfref29_in.f k l0 a1 = some r) :
  Calls Try.prog 40 #[.slice A0 n c0, .int .i64 a1] w fun e w' => e = .returned (.bool r) ∧ Drawn0 w w' := by
 subst hn
 exact swarfref29_in.calls k A0 c0 l0 a1 r w hr0 hc0 h
theorem swarfref29_Circle.calls (k : Nat) (A0 : Option Addr) (c0 : Nat) (l0 : List (S47)) (A1 : Option Addr) (c1 : Nat) (l1 : List Int) (r : Bool) (w : World) (hr0 : Kd.C k47 w A0 l0.length l0) (hc0 : l0.length ≤ c0) (hr1 : Kd.C (Kd.int .i64) w A1 l1.length l1) (hc1 : l1.length ≤ c1) (h : swarfref29_Circle.f k l0 l1 = some r) :
  Calls Try.prog 24 #[.slice A0 l0.length c0, .slice A1 l1.length c1] w fun e w' => e = .returned (.bool r) ∧ Drawn0 w w' := by
 have HR0 := aK hr0
 have HC0 := aK hc0
 clear hr0 hc0
 have HR1 := aK hr1
 have HC1 := aK hc1
 clear hr1 hc1
 have H : (swarfref29_Circle.l0 k l0 l1 0) = some r := h
 clear h
 have H' := aK H
 clear H
 go_enter Try.func24, Try.ntmps24
 go_wp2
 repeat (go_quiet (fail); try go_wp2)
 go_loopg [5] k (fun kq v5 w' => ∃ (x5_1 : Int), v5 = .int .i64 x5_1 ∧ Aside0 (swarfref29_Circle.l0 kq l0 l1 x5_1 = some r) ∧ Aside0 (kq ≤ k) ∧ Drawn0 w w')
 case atStart => exact ⟨(0), (by first | rfl | (simp; done) | (simp [*]; done)), H', ⟨Nat.le_refl _⟩, by repeat (first | exact Drawn0.refl _ | apply Drawn0.step)⟩
 case round =>
  clear H'; try clear c1; try clear c2; try clear p2
  obtain ⟨x5_1, rfl, HA, HK1, ⟨m1, rfl⟩⟩ := hrel
  cases gk with
  | zero => exact absurd HA.out (by simp [swarfref29_Circle.l0])
  | succ k1 =>
   have H := HA.out
   clear HA
   simp only [swarfref29_Circle.l0] at H
   by_cases c3 : x5_1 < (l1.length : Int)
   ·rw [if_pos c3] at H
    have c3b0 : decide (x5_1 < (l1.length : Int)) = true := decide_eq_true c3
    clear c3
    by_cases c4 : 0 ≤ x5_1
    ·rw [if_pos c4] at H
     have c4b0 := eq_true c4
     have c4b1 : decide (0 ≤ x5_1) = true := decide_eq_true c4
     clear c4
     by_cases c5 : x5_1 ≤ (l1.length : Int)
     ·rw [if_pos c5] at H
      have c5b0 := eq_true c5
      have c5b1 : decide (x5_1 ≤ (l1.length : Int)) = true := decide_eq_true c5
      clear c5; replace H := oB_ H
      obtain ⟨t135, A60, H⟩ := H
      replace H : (if t135 = true then (some false) else (if (l1.length : Int) = 0 then (none) else (if 0 ≤ (Int.tmod (wrap64 (x5_1 + 1)) (l1.length : Int)) then (if (Int.tmod (wrap64 (x5_1 + 1)) (l1.length : Int)) < (l1.length : Int) then ((swarfref29_Has.f k1 l0 (rd l1 x5_1) (rd l1 (Int.tmod (wrap64 (x5_1 + 1)) (l1.length : Int)))).bind fun t138 => (if t138 = true then (swarfref29_Circle.l0 k1 l0 l1 (wrap64 (x5_1 + 1))) else (some false))) else (none)) else (none)))) = some r := H
      have A6 := aK A60; clear A60
      by_cases c7 : t135 = true
      ·subst c7
       have H1 : (some false) = some r := by rw [if_pos rfl] at H; exact H
       clear H; have H := H1; clear H1; obtain rfl := Option.some.inj H
       obtain ⟨i08, hi08, _, hsz8, _⟩ := info_parts info3
       obtain ⟨hcut8, hA8, hC8⟩ := print_take_of (P := Try.prog) (Value.int .i64) 0 31 3 .i64 Try.underlying31 hi08 hsz8 A1 c1 l1 x5_1 (of_decide_eq_true (by first | (with_reducible assumption) | assumption)) (of_decide_eq_true (by first | (with_reducible assumption) | assumption)) HC1.out
       have HR133 := aK (Kd.C_of_reads (h1 := fun _ => rfl) (hA8 _ (Kd.reads_of_C HR1.out)))
       have HC133 := aK hC8; clear hA8 hC8 hi08 hsz8
       have p134 : 0 ≤ (x5_1 : Int) := of_decide_eq_true (by first | (with_reducible assumption) | assumption)
       have q134 : x5_1 < (l1.length : Int) := of_decide_eq_true (by first | (with_reducible assumption) | assumption)
       obtain ⟨ad134, e134, hx134_0⟩ := Kd.at_int HR1.out x5_1 p134 q134
       cases e134
       have hLt : (l1.take (x5_1 : Int).toNat).length = (x5_1 : Int).toNat := by rw [List.length_take]; omega
       replace p134 := eq_true p134; replace q134 := eq_true q134
       go_wp2_with (first | (go_at_call 40; (with_reducible refine (in_calls_n k1 _ _ _ (l1.take (x5_1 : Int).toNat) hLt (rd l1 x5_1) true _ ?side1 ?side2 A6.out).mono ?_); (case side1 => repeat (first | exact HR133.out | (with_reducible refine Kd.C_alloc ?_ _) | (with_reducible refine Kd.C_drewN ?_ _) | (with_reducible refine Kd.C_drew ?_))); (case side2 => exact HC133.out); rintro e w' ⟨rfl, ⟨nd, rfl⟩⟩; (try first | exact ⟨rfl, _, World.drewN_drewN _ _ _⟩ | exact ⟨rfl, _, Eq.trans (World.drewN_drewN _ _ _) (congrArg (World.drewN _) (Nat.add_assoc _ _ _))⟩)))
       repeat (go_quiet (first | (go_at_call 40; (with_reducible refine (in_calls_n k1 _ _ _ (l1.take (x5_1 : Int).toNat) hLt (rd l1 x5_1) true _ ?side1 ?side2 A6.out).mono ?_); (case side1 => repeat (first | exact HR133.out | (with_reducible refine Kd.C_alloc ?_ _) | (with_reducible refine Kd.C_drewN ?_ _) | (with_reducible refine Kd.C_drew ?_))); (case side2 => exact HC133.out); rintro e w' ⟨rfl, ⟨nd, rfl⟩⟩; (try first | exact ⟨rfl, _, World.drewN_drewN _ _ _⟩ | exact ⟨rfl, _, Eq.trans (World.drewN_drewN _ _ _) (congrArg (World.drewN _) (Nat.add_assoc _ _ _))⟩))); try go_wp2_with (first | (go_at_call 40; (with_reducible refine (in_calls_n k1 _ _ _ (l1.take (x5_1 : Int).toNat) hLt (rd l1 x5_1) true _ ?side1 ?side2 A6.out).mono ?_); (case side1 => repeat (first | exact HR133.out | (with_reducible refine Kd.C_alloc ?_ _) | (with_reducible refine Kd.C_drewN ?_ _) | (with_reducible refine Kd.C_drew ?_))); (case side2 => exact HC133.out); rintro e w' ⟨rfl, ⟨nd, rfl⟩⟩; (try first | exact ⟨rfl, _, World.drewN_drewN _ _ _⟩ | exact ⟨rfl, _, Eq.trans (World.drewN_drewN _ _ _) (congrArg (World.drewN _) (Nat.add_assoc _ _ _))⟩))))
       go_ret
       exact ⟨by first | rfl | (simp; done) | (simp [*]; done), by repeat (first | exact Drawn0.refl _ | apply Drawn0.step)⟩
      ·replace c7 := Bool.eq_false_iff.mpr c7
       subst c7
       have H1 : (if (l1.length : Int) = 0 then (none) else (if 0 ≤ (Int.tmod (wrap64 (x5_1 + 1)) (l1.length : Int)) then (if (Int.tmod (wrap64 (x5_1 + 1)) (l1.length : Int)) < (l1.length : Int) then ((swarfref29_Has.f k1 l0 (rd l1 x5_1) (rd l1 (Int.tmod (wrap64 (x5_1 + 1)) (l1.length : Int)))).bind fun t138 => (if t138 = true then (swarfref29_Circle.l0 k1 l0 l1 (wrap64 (x5_1 + 1))) else (some false))) else (none)) else (none))) = some r := by rw [if_neg (show ¬ (false = true) by decide)] at H; exact H
       clear H; have H := H1; clear H1
       by_cases c9 : (l1.length : Int) = 0
       ·rw [if_pos c9] at H
        exact absurd H (by simp)
       ·rw [if_neg c9] at H
        have c9b0 : ((l1.length : Int) == 0) = false := beq_eq_false_iff_ne.mpr c9
        have c9b1 : ((l1.length : Int) != 0) = true := bne_iff_ne.mpr c9
        have c9b2 : ¬ (l1 = []) := fun h_ => c9 (by rw [h_]; rfl)
        obtain ⟨ji10, hji10⟩ : ∃ j_ : Int, (Int.tmod (wrap64 (x5_1 + 1)) (l1.length : Int)) = j_ := ⟨_, rfl⟩
        replace H : (if 0 ≤ (ji10) then (if (ji10) < (l1.length : Int) then ((swarfref29_Has.f k1 l0 (rd l1 x5_1) (rd l1 (ji10))).bind fun t138 => (if t138 = true then (swarfref29_Circle.l0 k1 l0 l1 (wrap64 (x5_1 + 1))) else (some false))) else (none)) else (none)) = some r := by first | (rw [hji10] at H; exact H) | (simp only [hji10] at H ⊢; exact H)
        (try rw [hji10] at A6)
        by_cases c11 : 0 ≤ (ji10)
        ·rw [if_pos c11] at H
         have c11b0 : decide (0 ≤ (ji10)) = true := decide_eq_true c11
         clear c11
         by_cases c12 : (ji10) < (l1.length : Int)
         ·rw [if_pos c12] at H
          have c12b0 : decide ((ji10) < (l1.length : Int)) = true := decide_eq_true c12
          clear c12; replace H := oB_ H
          obtain ⟨t138, A130, H⟩ := H
          replace H : (if t138 = true then (swarfref29_Circle.l0 k1 l0 l1 (wrap64 (x5_1 + 1))) else (some false)) = some r := H
          have A13 := aK A130; clear A130
          by_cases c14 : t138 = true
          ·subst c14
           have H1 : (swarfref29_Circle.l0 k1 l0 l1 (wrap64 (x5_1 + 1))) = some r := by rw [if_pos rfl] at H; exact H
           clear H; have H := H1; clear H1; have H' := aK H; clear H
           obtain ⟨i015, hi015, _, hsz15, _⟩ := info_parts info3
           obtain ⟨hcut15, hA15, hC15⟩ := print_take_of (P := Try.prog) (Value.int .i64) 0 31 3 .i64 Try.underlying31 hi015 hsz15 A1 c1 l1 x5_1 (of_decide_eq_true (by first | (with_reducible assumption) | assumption)) (of_decide_eq_true (by first | (with_reducible assumption) | assumption)) HC1.out
           have HR133 := aK (Kd.C_of_reads (h1 := fun _ => rfl) (hA15 _ (Kd.reads_of_C HR1.out)))
           have HC133 := aK hC15; clear hA15 hC15 hi015 hsz15
           have p134 : 0 ≤ (x5_1 : Int) := of_decide_eq_true (by first | (with_reducible assumption) | assumption)
           have q134 : x5_1 < (l1.length : Int) := of_decide_eq_true (by first | (with_reducible assumption) | assumption)
           obtain ⟨ad134, e134, hx134_0⟩ := Kd.at_int HR1.out x5_1 p134 q134
           cases e134
           have hLt : (l1.take (x5_1 : Int).toNat).length = (x5_1 : Int).toNat := by rw [List.length_take]; omega
           replace p134 := eq_true p134; replace q134 := eq_true q134
           have p137 : 0 ≤ ((ji10) : Int) := of_decide_eq_true (by first | (with_reducible assumption) | assumption)
           have q137 : (ji10) < (l1.length : Int) := of_decide_eq_true (by first | (with_reducible assumption) | assumption)
           obtain ⟨ad137, e137, hx137_0⟩ := Kd.at_int HR1.out (ji10) p137 q137
           obtain rfl : ad134 = ad137 := (by injection e137)
           replace p137 := eq_true p137; replace q137 := eq_true q137
           go_wp2_with (first | (go_at_call 40; (with_reducible refine (in_calls_n k1 _ _ _ (l1.take (x5_1 : Int).toNat) hLt (rd l1 x5_1) false _ ?side1 ?side2 A6.out).mono ?_); (case side1 => repeat (first | exact HR133.out | (with_reducible refine Kd.C_alloc ?_ _) | (with_reducible refine Kd.C_drewN ?_ _) | (with_reducible refine Kd.C_drew ?_))); (case side2 => exact HC133.out); rintro e w' ⟨rfl, ⟨nd, rfl⟩⟩; (try first | exact ⟨rfl, _, World.drewN_drewN _ _ _⟩ | exact ⟨rfl, _, Eq.trans (World.drewN_drewN _ _ _) (congrArg (World.drewN _) (Nat.add_assoc _ _ _))⟩)) | (go_at_call 45; (with_reducible refine (swarfref29_Has.calls k1 _ _ l0 (rd l1 x5_1) (rd l1 (ji10)) true _ ?side1 ?side2 A13.out).mono ?_); (case side1 => repeat (first | exact HR0.out | (with_reducible refine Kd.C_alloc ?_ _) | (with_reducible refine Kd.C_drewN ?_ _) | (with_reducible refine Kd.C_drew ?_))); (case side2 => exact HC0.out); rintro e w' ⟨rfl, ⟨nd, rfl⟩⟩; (try first | exact ⟨rfl, _, World.drewN_drewN _ _ _⟩ | exact ⟨rfl, _, Eq.trans (World.drewN_drewN _ _ _) (congrArg (World.drewN _) (Nat.add_assoc _ _ _))⟩)))
           repeat (go_quiet (first | (go_at_call 40; (with_reducible refine (in_calls_n k1 _ _ _ (l1.take (x5_1 : Int).toNat) hLt (rd l1 x5_1) false _ ?side1 ?side2 A6.out).mono ?_); (case side1 => repeat (first | exact HR133.out | (with_reducible refine Kd.C_alloc ?_ _) | (with_reducible refine Kd.C_drewN ?_ _) | (with_reducible refine Kd.C_drew ?_))); (case side2 => exact HC133.out); rintro e w' ⟨rfl, ⟨nd, rfl⟩⟩; (try first | exact ⟨rfl, _, World.drewN_drewN _ _ _⟩ | exact ⟨rfl, _, Eq.trans (World.drewN_drewN _ _ _) (congrArg (World.drewN _) (Nat.add_assoc _ _ _))⟩)) | (go_at_call 45; (with_reducible refine (swarfref29_Has.calls k1 _ _ l0 (rd l1 x5_1) (rd l1 (ji10)) true _ ?side1 ?side2 A13.out).mono ?_); (case side1 => repeat (first | exact HR0.out | (with_reducible refine Kd.C_alloc ?_ _) | (with_reducible refine Kd.C_drewN ?_ _) | (with_reducible refine Kd.C_drew ?_))); (case side2 => exact HC0.out); rintro e w' ⟨rfl, ⟨nd, rfl⟩⟩; (try first | exact ⟨rfl, _, World.drewN_drewN _ _ _⟩ | exact ⟨rfl, _, Eq.trans (World.drewN_drewN _ _ _) (congrArg (World.drewN _) (Nat.add_assoc _ _ _))⟩))); try go_wp2_with (first | (go_at_call 40; (with_reducible refine (in_calls_n k1 _ _ _ (l1.take (x5_1 : Int).toNat) hLt (rd l1 x5_1) false _ ?side1 ?side2 A6.out).mono ?_); (case side1 => repeat (first | exact HR133.out | (with_reducible refine Kd.C_alloc ?_ _) | (with_reducible refine Kd.C_drewN ?_ _) | (with_reducible refine Kd.C_drew ?_))); (case side2 => exact HC133.out); rintro e w' ⟨rfl, ⟨nd, rfl⟩⟩; (try first | exact ⟨rfl, _, World.drewN_drewN _ _ _⟩ | exact ⟨rfl, _, Eq.trans (World.drewN_drewN _ _ _) (congrArg (World.drewN _) (Nat.add_assoc _ _ _))⟩)) | (go_at_call 45; (with_reducible refine (swarfref29_Has.calls k1 _ _ l0 (rd l1 x5_1) (rd l1 (ji10)) true _ ?side1 ?side2 A13.out).mono ?_); (case side1 => repeat (first | exact HR0.out | (with_reducible refine Kd.C_alloc ?_ _) | (with_reducible refine Kd.C_drewN ?_ _) | (with_reducible refine Kd.C_drew ?_))); (case side2 => exact HC0.out); rintro e w' ⟨rfl, ⟨nd, rfl⟩⟩; (try first | exact ⟨rfl, _, World.drewN_drewN _ _ _⟩ | exact ⟨rfl, _, Eq.trans (World.drewN_drewN _ _ _) (congrArg (World.drewN _) (Nat.add_assoc _ _ _))⟩))))
           go_roundg k1
           case measure => have := HK1.out; omega
           case rel => exact ⟨(wrap64 (x5_1 + 1)), (by first | rfl | (simp; done) | (simp [*]; done)), H', ⟨by have := HK1.out; omega⟩, by repeat (first | exact Drawn0.refl _ | apply Drawn0.step)⟩
          ·replace c14 := Bool.eq_false_iff.mpr c14
           subst c14
           have H1 : (some false) = some r := by rw [if_neg (show ¬ (false = true) by decide)] at H; exact H
           clear H; have H := H1; clear H1; obtain rfl := Option.some.inj H
           obtain ⟨i016, hi016, _, hsz16, _⟩ := info_parts info3
           obtain ⟨hcut16, hA16, hC16⟩ := print_take_of (P := Try.prog) (Value.int .i64) 0 31 3 .i64 Try.underlying31 hi016 hsz16 A1 c1 l1 x5_1 (of_decide_eq_true (by first | (with_reducible assumption) | assumption)) (of_decide_eq_true (by first | (with_reducible assumption) | assumption)) HC1.out
           have HR133 := aK (Kd.C_of_reads (h1 := fun _ => rfl) (hA16 _ (Kd.reads_of_C HR1.out)))
           have HC133 := aK hC16; clear hA16 hC16 hi016 hsz16
           have p134 : 0 ≤ (x5_1 : Int) := of_decide_eq_true (by first | (with_reducible assumption) | assumption)
           have q134 : x5_1 < (l1.length : Int) := of_decide_eq_true (by first | (with_reducible assumption) | assumption)
           obtain ⟨ad134, e134, hx134_0⟩ := Kd.at_int HR1.out x5_1 p134 q134
           cases e134
           have hLt : (l1.take (x5_1 : Int).toNat).length = (x5_1 : Int).toNat := by rw [List.length_take]; omega
           replace p134 := eq_true p134; replace q134 := eq_true q134
           have p137 : 0 ≤ ((ji10) : Int) := of_decide_eq_true (by first | (with_reducible assumption) | assumption)
           have q137 : (ji10) < (l1.length : Int) := of_decide_eq_true (by first | (with_reducible assumption) | assumption)
           obtain ⟨ad137, e137, hx137_0⟩ := Kd.at_int HR1.out (ji10) p137 q137
           obtain rfl : ad134 = ad137 := (by injection e137)
           replace p137 := eq_true p137; replace q137 := eq_true q137
           go_wp2_with (first | (go_at_call 40; (with_reducible refine (in_calls_n k1 _ _ _ (l1.take (x5_1 : Int).toNat) hLt (rd l1 x5_1) false _ ?side1 ?side2 A6.out).mono ?_); (case side1 => repeat (first | exact HR133.out | (with_reducible refine Kd.C_alloc ?_ _) | (with_reducible refine Kd.C_drewN ?_ _) | (with_reducible refine Kd.C_drew ?_))); (case side2 => exact HC133.out); rintro e w' ⟨rfl, ⟨nd, rfl⟩⟩; (try first | exact ⟨rfl, _, World.drewN_drewN _ _ _⟩ | exact ⟨rfl, _, Eq.trans (World.drewN_drewN _ _ _) (congrArg (World.drewN _) (Nat.add_assoc _ _ _))⟩)) | (go_at_call 45; (with_reducible refine (swarfref29_Has.calls k1 _ _ l0 (rd l1 x5_1) (rd l1 (ji10)) false _ ?side1 ?side2 A13.out).mono ?_); (case side1 => repeat (first | exact HR0.out | (with_reducible refine Kd.C_alloc ?_ _) | (with_reducible refine Kd.C_drewN ?_ _) | (with_reducible refine Kd.C_drew ?_))); (case side2 => exact HC0.out); rintro e w' ⟨rfl, ⟨nd, rfl⟩⟩; (try first | exact ⟨rfl, _, World.drewN_drewN _ _ _⟩ | exact ⟨rfl, _, Eq.trans (World.drewN_drewN _ _ _) (congrArg (World.drewN _) (Nat.add_assoc _ _ _))⟩)))
           repeat (go_quiet (first | (go_at_call 40; (with_reducible refine (in_calls_n k1 _ _ _ (l1.take (x5_1 : Int).toNat) hLt (rd l1 x5_1) false _ ?side1 ?side2 A6.out).mono ?_); (case side1 => repeat (first | exact HR133.out | (with_reducible refine Kd.C_alloc ?_ _) | (with_reducible refine Kd.C_drewN ?_ _) | (with_reducible refine Kd.C_drew ?_))); (case side2 => exact HC133.out); rintro e w' ⟨rfl, ⟨nd, rfl⟩⟩; (try first | exact ⟨rfl, _, World.drewN_drewN _ _ _⟩ | exact ⟨rfl, _, Eq.trans (World.drewN_drewN _ _ _) (congrArg (World.drewN _) (Nat.add_assoc _ _ _))⟩)) | (go_at_call 45; (with_reducible refine (swarfref29_Has.calls k1 _ _ l0 (rd l1 x5_1) (rd l1 (ji10)) false _ ?side1 ?side2 A13.out).mono ?_); (case side1 => repeat (first | exact HR0.out | (with_reducible refine Kd.C_alloc ?_ _) | (with_reducible refine Kd.C_drewN ?_ _) | (with_reducible refine Kd.C_drew ?_))); (case side2 => exact HC0.out); rintro e w' ⟨rfl, ⟨nd, rfl⟩⟩; (try first | exact ⟨rfl, _, World.drewN_drewN _ _ _⟩ | exact ⟨rfl, _, Eq.trans (World.drewN_drewN _ _ _) (congrArg (World.drewN _) (Nat.add_assoc _ _ _))⟩))); try go_wp2_with (first | (go_at_call 40; (with_reducible refine (in_calls_n k1 _ _ _ (l1.take (x5_1 : Int).toNat) hLt (rd l1 x5_1) false _ ?side1 ?side2 A6.out).mono ?_); (case side1 => repeat (first | exact HR133.out | (with_reducible refine Kd.C_alloc ?_ _) | (with_reducible refine Kd.C_drewN ?_ _) | (with_reducible refine Kd.C_drew ?_))); (case side2 => exact HC133.out); rintro e w' ⟨rfl, ⟨nd, rfl⟩⟩; (try first | exact ⟨rfl, _, World.drewN_drewN _ _ _⟩ | exact ⟨rfl, _, Eq.trans (World.drewN_drewN _ _ _) (congrArg (World.drewN _) (Nat.add_assoc _ _ _))⟩)) | (go_at_call 45; (with_reducible refine (swarfref29_Has.calls k1 _ _ l0 (rd l1 x5_1) (rd l1 (ji10)) false _ ?side1 ?side2 A13.out).mono ?_); (case side1 => repeat (first | exact HR0.out | (with_reducible refine Kd.C_alloc ?_ _) | (with_reducible refine Kd.C_drewN ?_ _) | (with_reducible refine Kd.C_drew ?_))); (case side2 => exact HC0.out); rintro e w' ⟨rfl, ⟨nd, rfl⟩⟩; (try first | exact ⟨rfl, _, World.drewN_drewN _ _ _⟩ | exact ⟨rfl, _, Eq.trans (World.drewN_drewN _ _ _) (congrArg (World.drewN _) (Nat.add_assoc _ _ _))⟩))))
           go_ret
           exact ⟨by first | rfl | (simp; done) | (simp only [← hji10] <;> (first | rfl | simp)) | (simp [*]; done), by repeat (first | exact Drawn0.refl _ | apply Drawn0.step)⟩
         ·rw [if_neg c12] at H
          exact absurd H (by simp)
        ·rw [if_neg c11] at H
         exact absurd H (by simp)
     ·rw [if_neg c5] at H
      exact absurd H (by simp)
    ·rw [if_neg c4] at H
     exact absurd H (by simp)
   ·rw [if_neg c3] at H
    have c3b0 : decide (x5_1 < (l1.length : Int)) = false := decide_eq_false c3
    clear c3; obtain rfl := Option.some.inj H; go_wp2
    repeat (go_quiet (fail); try go_wp2)
    go_ret
    exact ⟨by first | rfl | (simp; done) | (simp [*]; done), by repeat (first | exact Drawn0.refl _ | apply Drawn0.step)⟩

end Go.Proofs.Ytbbkclcfmcjlgaa.P


namespace Go.Proofs.Ytbbkclcfmcjlgaa.P
open Go.RowKit Go.Proofs.YtbbkclcfmcjlgaaW.PrintWords Go.Proofs.YtbbkclcfmcjlgaaW.PrintLast Go.Proofs.YtbbkclcfmcjlgaaW.PrintMore
attribute [local go_sem] max2_int min2_int max_two min_two max_three min_three max_four min_four
set_option linter.unusedVariables false
set_option linter.unusedSimpArgs false

def swarfref29_Ints.l0 : Nat → List Int → List Int → Int → Option (Bool)
 | 0, _, _, _ => none
 | k + 1, x0, x1, x5 => if x5 < (x0.length : Int) then (if 0 ≤ x5 then (if x5 < (x1.length : Int) then (if (rd x0 x5) = (rd x1 x5) then (swarfref29_Ints.l0 k x0 x1 (wrap64 (x5 + 1))) else (some false)) else (none)) else (none)) else (some true)
def swarfref29_Ints.f (k : Nat) (l0 : List Int) (l1 : List Int) : Option (Bool) := if (l0.length : Int) = (l1.length : Int) then (swarfref29_Ints.l0 k l0 l1 0) else (some false)
theorem swarfref29_Ints.mono_l : ∀ k, (∀ y0 y1 y2, LeO (swarfref29_Ints.l0 k y0 y1 y2) (swarfref29_Ints.l0 (k + 1) y0 y1 y2))
 | 0 => fun _ _ _ r h => by simp [swarfref29_Ints.l0] at h
 | k + 1 => by
  have ih0 := swarfref29_Ints.mono_l k
  ·intro y0 y1 y2
   unfold swarfref29_Ints.l0
   repeat' first
   | (with_reducible exact ih0 _ _ _)
   | (with_reducible exact LeO.refl _)
   | (with_reducible exact LeO.none _)
   | (with_reducible refine LeO.ite ?_ ?_)
   | (with_reducible refine LeO.bind ?_ (fun _ => ?_))
   | exact ih0 _ _ _
   | exact LeO.none _
   | refine LeO.ite ?_ ?_
   | refine LeO.bind ?_ (fun _ => ?_)
theorem swarfref29_Ints.mono : ∀ a0 a1 k, LeO (swarfref29_Ints.f k a0 a1) (swarfref29_Ints.f (k + 1) a0 a1) := by
 intro a0 a1 k
 have ih0 := swarfref29_Ints.mono_l k
 unfold swarfref29_Ints.f
 repeat' first
   | (with_reducible exact ih0 _ _ _)
   | (with_reducible exact LeO.refl _)
   | (with_reducible exact LeO.none _)
   | (with_reducible refine LeO.ite ?_ ?_)
   | (with_reducible refine LeO.bind ?_ (fun _ => ?_))
   | exact ih0 _ _ _
   | exact LeO.none _
   | refine LeO.ite ?_ ?_
   | refine LeO.bind ?_ (fun _ => ?_)
set_option maxHeartbeats 8000000 in
set_option maxRecDepth 100000 in
theorem swarfref29_Ints.calls (k : Nat) (A0 : Option Addr) (c0 : Nat) (l0 : List Int) (A1 : Option Addr) (c1 : Nat) (l1 : List Int) (r : Bool) (w : World) (hr0 : Kd.C (Kd.int .i64) w A0 l0.length l0) (hc0 : l0.length ≤ c0) (hr1 : Kd.C (Kd.int .i64) w A1 l1.length l1) (hc1 : l1.length ≤ c1) (h : swarfref29_Ints.f k l0 l1 = some r) :
  Calls Try.prog 27 #[.slice A0 l0.length c0, .slice A1 l1.length c1] w fun e w' => e = .returned (.bool r) ∧ Drawn0 w w' := by
 have HR0 := aK hr0
 have HC0 := aK hc0
 clear hr0 hc0
 have HR1 := aK hr1
 have HC1 := aK hc1
 clear hr1 hc1
 have H : (if (l0.length : Int) = (l1.length : Int) then (swarfref29_Ints.l0 k l0 l1 0) else (some false)) = some r := h
 clear h
 by_cases c3 : (l0.length : Int) = (l1.length : Int)
 ·rw [if_pos c3] at H
  have c3b0 : ((l0.length : Int) == (l1.length : Int)) = true := beq_iff_eq.mpr c3
  have c3b1 : ((l0.length : Int) != (l1.length : Int)) = false := bne_eq_false_iff_eq.mpr c3
  have c3b2 : (l0.length == l1.length) = true := by first | simpa using c3 | (simp at c3 ⊢; omega)
  clear c3; have H' := aK H; clear H
  go_enter Try.func27, Try.ntmps27
  go_wp2
  repeat (go_quiet (fail); try go_wp2)
  go_loopg [5] k (fun kq v5 w' => ∃ (x5_1 : Int), v5 = .int .i64 x5_1 ∧ Aside0 (swarfref29_Ints.l0 kq l0 l1 x5_1 = some r) ∧ Aside0 (kq ≤ k) ∧ Drawn0 w w')
  case atStart => exact ⟨(0), (by first | rfl | (simp; done) | (simp [*]; done)), H', ⟨Nat.le_refl _⟩, by repeat (first | exact Drawn0.refl _ | apply Drawn0.step)⟩
  case round =>
   clear H'; try clear c1; try clear c2; try clear p2; try clear c3; try clear c3b0; try clear c3b1; try clear c3b2
   obtain ⟨x5_1, rfl, HA, HK1, ⟨m1, rfl⟩⟩ := hrel
   cases gk with
   | zero => exact absurd HA.out (by simp [swarfref29_Ints.l0])
   | succ k1 =>
    have H := HA.out
    clear HA
    simp only [swarfref29_Ints.l0] at H
    by_cases c4 : x5_1 < (l0.length : Int)
    ·rw [if_pos c4] at H
     have c4b0 : decide (x5_1 < (l0.length : Int)) = true := decide_eq_true c4
     clear c4
     by_cases c5 : 0 ≤ x5_1
     ·rw [if_pos c5] at H
      have c5b0 : decide (0 ≤ x5_1) = true := decide_eq_true c5
      clear c5
      by_cases c6 : x5_1 < (l1.length : Int)
      ·rw [if_pos c6] at H
       have c6b0 : decide (x5_1 < (l1.length : Int)) = true := decide_eq_true c6
       clear c6
       by_cases c7 : (rd l0 x5_1) = (rd l1 x5_1)
       ·rw [if_pos c7] at H
        have c7b0 : ((rd l0 x5_1) == (rd l1 x5_1)) = true := beq_iff_eq.mpr c7
        have c7b1 : ((rd l0 x5_1) != (rd l1 x5_1)) = false := bne_eq_false_iff_eq.mpr c7
        clear c7; have H' := aK H; clear H
        have p139 : 0 ≤ (x5_1 : Int) := of_decide_eq_true (by first | (with_reducible assumption) | assumption)
        have q139 : x5_1 < (l0.length : Int) := of_decide_eq_true (by first | (with_reducible assumption) | assumption)
        obtain ⟨ad139, e139, hx139_0⟩ := Kd.at_int HR0.out x5_1 p139 q139
        cases e139; replace p139 := eq_true p139; replace q139 := eq_true q139
        have p140 : 0 ≤ (x5_1 : Int) := of_decide_eq_true (by first | (with_reducible assumption) | assumption)
        have q140 : x5_1 < (l1.length : Int) := of_decide_eq_true (by first | (with_reducible assumption) | assumption)
        obtain ⟨ad140, e140, hx140_0⟩ := Kd.at_int HR1.out x5_1 p140 q140
        cases e140; replace p140 := eq_true p140; replace q140 := eq_true q140; go_wp2
        repeat (go_quiet (fail); try go_wp2)
        go_roundg k1
        case measure => have := HK1.out; omega
        case rel => exact ⟨(wrap64 (x5_1 + 1)), (by first | rfl | (simp; done) | (simp [*]; done)), H', ⟨by have := HK1.out; omega⟩, by repeat (first | exact Drawn0.refl _ | apply Drawn0.step)⟩
       ·rw [if_neg c7] at H
        have c7b0 : ((rd l0 x5_1) == (rd l1 x5_1)) = false := beq_eq_false_iff_ne.mpr c7
        have c7b1 : ((rd l0 x5_1) != (rd l1 x5_1)) = true := bne_iff_ne.mpr c7
        obtain rfl := Option.some.inj H
        have p139 : 0 ≤ (x5_1 : Int) := of_decide_eq_true (by first | (with_reducible assumption) | assumption)
        have q139 : x5_1 < (l0.length : Int) := of_decide_eq_true (by first | (with_reducible assumption) | assumption)
        obtain ⟨ad139, e139, hx139_0⟩ := Kd.at_int HR0.out x5_1 p139 q139
        cases e139; replace p139 := eq_true p139; replace q139 := eq_true q139
        have p140 : 0 ≤ (x5_1 : Int) := of_decide_eq_true (by first | (with_reducible assumption) | assumption)
        have q140 : x5_1 < (l1.length : Int) := of_decide_eq_true (by first | (with_reducible assumption) | assumption)
        obtain ⟨ad140, e140, hx140_0⟩ := Kd.at_int HR1.out x5_1 p140 q140
        cases e140; replace p140 := eq_true p140; replace q140 := eq_true q140; go_wp2
        repeat (go_quiet (fail); try go_wp2)
        go_ret
        exact ⟨by first | rfl | (simp; done) | (simp [*]; done), by repeat (first | exact Drawn0.refl _ | apply Drawn0.step)⟩
      ·rw [if_neg c6] at H
       exact absurd H (by simp)
     ·rw [if_neg c5] at H
      exact absurd H (by simp)
    ·rw [if_neg c4] at H
     have c4b0 : decide (x5_1 < (l0.length : Int)) = false := decide_eq_false c4
     clear c4; obtain rfl := Option.some.inj H; go_wp2
     repeat (go_quiet (fail); try go_wp2)
     go_ret
     exact ⟨by first | rfl | (simp; done) | (simp [*]; done), by repeat (first | exact Drawn0.refl _ | apply Drawn0.step)⟩
 ·rw [if_neg c3] at H
  have c3b0 : ((l0.length : Int) == (l1.length : Int)) = false := beq_eq_false_iff_ne.mpr c3
  have c3b1 : ((l0.length : Int) != (l1.length : Int)) = true := bne_iff_ne.mpr c3
  have c3b2 : (l0.length == l1.length) = false := by first | simpa using c3 | (simp at c3 ⊢; omega)
  obtain rfl := Option.some.inj H
  go_enter Try.func27, Try.ntmps27
  go_wp2
  repeat (go_quiet (fail); try go_wp2)
  go_ret
  exact ⟨by first | rfl | (simp; done) | (simp [*]; done), by repeat (first | exact Drawn0.refl _ | apply Drawn0.step)⟩

end Go.Proofs.Ytbbkclcfmcjlgaa.P


namespace Go.Proofs.Ytbbkclcfmcjlgaa.P
open Go.RowKit Go.Proofs.YtbbkclcfmcjlgaaW.PrintWords Go.Proofs.YtbbkclcfmcjlgaaW.PrintLast Go.Proofs.YtbbkclcfmcjlgaaW.PrintMore
set_option linter.unusedVariables false
set_option linter.unusedSimpArgs false

section
variable {α : Type} {enc : α → Value} {h1 : ∀ x, (enc x).oneCell' = true} {e2 e base g n cap : Nat} {ok : Nat → Prop} {W : World} {xs : List (List α)}
theorem S_at2 (h : Kd.S (Kd.slice e2 (Kd.scalar enc h1)) e W base ok (.slice (some ⟨g, 0, none⟩) n cap) xs) (d0 : α) (i j : Int) (i0 : 0 ≤ i) (i1 : i < n) (j0 : 0 ≤ j) (j1 : j < (xs.getD i.toNat []).length) :
  ∃ g2 c2, W.cell? ⟨g, i.toNat, none⟩ = some (.slice (some ⟨g2, 0, none⟩) (xs.getD i.toNat []).length c2) ∧ W.cell? ⟨g2, j.toNat, none⟩ = some (enc (rdOf d0 (xs.getD i.toNat []) j)) ∧ W.frozen? ⟨g2, j.toNat, none⟩ = false ∧ base ≤ g2 ∧ ok g2 ∧ g2 ≠ g ∧ g2 < W.heap.size ∧ (∃ cells, W.heap[g2]? = some (.cells cells e2 (0, 0))) ∧
   ∀ x, Kd.S (Kd.slice e2 (Kd.scalar enc h1)) e (W.setCell ⟨g2, j.toNat, none⟩ (enc x)) base ok (.slice (some ⟨g, 0, none⟩) n cap) (xs.set i.toNat ((xs.getD i.toNat []).set j.toNat x)) := by
 obtain ⟨oki, c, hcl, hM, hcc, hoki, hbk⟩ := Kd.S_borrow h [] i i0 i1
 obtain ⟨v2, rfl, hr⟩ := hM
 have hc0 := hcc 0 _ rfl
 rw [Nat.add_zero, show (Kd.slice e2 (Kd.scalar enc h1)).sz = 1 from rfl, Nat.mul_one, add_plain] at hc0
 obtain ⟨g2, c2, rfl, gb, gl, ge⟩ := Kd.R_form hr (by omega)
 obtain ⟨hj, hf⟩ := Kd.R_celln d0 hr j j0 (by omega)
 have hk := hoki g2 (hr.1 _ rfl)
 refine ⟨g2, c2, hc0, hj, hf, gb, hk.1, fun e_ => hk.2 (by rw [e_]; rfl), gl, ge, fun x => ?_⟩
 have hp := Kd.R_putg hr j x
 exact hbk hp.2 (fun k e_ => by injection e_ with e_; subst e_; exact hr.1 _ rfl) (Kd.M_row hp.1)
theorem S_head2 (h : Kd.S (Kd.slice e2 (Kd.scalar enc h1)) e W base ok (.slice (some ⟨g, 0, none⟩) n cap) xs) (i : Int) (i0 : 0 ≤ i) (i1 : i < n) :
  ∃ A2 c2, W.cell? ⟨g, i.toNat, none⟩ = some (.slice A2 (xs.getD i.toNat []).length c2) ∧ (xs.getD i.toNat []).length ≤ c2 ∧ W.frozen? ⟨g, i.toNat, none⟩ = false ∧ (Kd.scalar enc h1).C W A2 (xs.getD i.toNat []).length (xs.getD i.toNat []) := by
 obtain ⟨oki, c, hcl, hM, hcc, hfr, hoki, hH⟩ := Kd.S_elem h [] i i0 i1
 obtain ⟨v2, rfl, hr⟩ := hM
 have hc0 := hcc 0 _ rfl
 have hf0 := hfr 0
 rw [Nat.add_zero, show (Kd.slice e2 (Kd.scalar enc h1)).sz = 1 from rfl, Nat.mul_one] at hc0 hf0
 obtain ⟨A2, c2, rfl, hl, hC⟩ := Kd.R_reads hr
 exact ⟨A2, c2, hc0, hl, hf0, hC⟩
theorem S_put2 (h : Kd.S (Kd.slice e2 (Kd.scalar enc h1)) e W base (fun _ => True) (.slice (some ⟨g, 0, none⟩) n cap) xs) (hee : e ≠ e2) {W1 : World} (hb : Below W.heap.size W W1) {v : Value} {y : List α} (hv : (Kd.scalar enc h1).R e2 W1 W.heap.size (fun _ => True) v y) (hbase : base ≤ W.heap.size) (i : Int) (i0 : 0 ≤ i) (i1 : i < n) :
  Kd.S (Kd.slice e2 (Kd.scalar enc h1)) e (W1.setCell ⟨g, i.toNat, none⟩ v) base (fun _ => True) (.slice (some ⟨g, 0, none⟩) n cap) (xs.set i.toNat y) ∧ W1.grownBy (W1.setCell ⟨g, i.toNat, none⟩ v) (some g) ∧ W1.frozen? ⟨g, i.toNat, none⟩ = false ∧ (∃ u, W1.cell? ⟨g, i.toNat, none⟩ = some u) := by
 have h2 := Kd.S_elder' h (Kd.R_base hv) hb
 have h3 : Kd.S (Kd.slice e2 (Kd.scalar enc h1)) e W1 base (fun k_ => True ∧ ¬ (some k_ = v.ownBlock)) (.slice (some ⟨g, 0, none⟩) n cap) xs := Kd.S_mono h2 (fun k hk => ⟨trivial, hk.2⟩)
 obtain ⟨oki, c, hcl, hM, hcc, hfr, hoki, hH⟩ := Kd.S_elem h3 [] i i0 i1
 obtain ⟨v0, rfl, hr⟩ := hM
 have hc0 := hcc 0 _ rfl
 have hf0 := hfr 0
 have hsz : (Kd.slice e2 (Kd.scalar enc h1)).sz = 1 := rfl
 rw [Nat.add_zero, hsz, Nat.mul_one] at hc0 hf0
 have hvg : ∀ k, some k = v.ownBlock → k ≠ g := fun k hk he => by
  have := Kd.R_base hv k hk.symm
  have := Kd.S_lt h g rfl
  omega
 have hrow : (Kd.slice e2 (Kd.scalar enc h1)).M W1 base (fun k => some k = v.ownBlock) y [v] := Kd.M_row (Kd.R_lower (Kd.R_tight rfl hv) hbase)
 have hp := Kd.S_seg hH i0 i1 (seg := [v]) (j := 0) (show 1 ≤ 1 from by decide) (x' := y) hrow (fun k hk => Or.inr hk) (fun k hk => ⟨trivial, hvg k hk⟩)
 rw [Nat.add_zero, hsz, Nat.mul_one] at hp
 exact ⟨hp.1, hp.2, hf0, _, hc0⟩
end
end Go.Proofs.Ytbbkclcfmcjlgaa.P



namespace Go.Proofs.Ytbbkclcfmcjlgaa.P
open Go.RowKit Go.Proofs.YtbbkclcfmcjlgaaW.PrintWords Go.Proofs.YtbbkclcfmcjlgaaW.PrintLast Go.Proofs.YtbbkclcfmcjlgaaW.PrintMore
attribute [local go_sem] max2_int min2_int max_two min_two max_three min_three max_four min_four
set_option linter.unusedVariables false
set_option linter.unusedSimpArgs false

def sopen.f (nd : List Int) (s i : Int) : Option Bool := if 0 ≤ i then (if Go.bits .and .i64 (shr .i64 s i) 1 = 0 then (if i < (nd.length : Int) then some (Go.bits .andNot .i64 (rd nd i) s == 0) else none) else some false) else none
mutual
def srest.f (nd tl : List Int) (full : Int) : Nat → Int → Int → List (List Int) → Option (Int × List (List Int))
 | 0, _, _, _ => none
 | k + 1, s, l, C => if s = full then some (0, C) else (if 0 ≤ l ∧ l < (C.length : Int) ∧ 0 ≤ s ∧ s < ((C.getD l.toNat []).length : Int) then (if rd (C.getD l.toNat []) s > 0 then some (wrap64 (rd (C.getD l.toNat []) s - 1), C) else srest.l0 nd tl full k s l (tl.length : Int) 0 C) else none)
def srest.l0 (nd tl : List Int) (full : Int) : Nat → Int → Int → Int → Int → List (List Int) → Option (Int × List (List Int))
 | 0, _, _, _, _, _ => none
 | k + 1, s, l, b, i, C => if i < (tl.length : Int) then ((sopen.f nd s i).bind fun t => if t = true then ((sstep.f nd tl full k s l i C).bind fun u => srest.l0 nd tl full k s l (mn b u.1) (wrap64 (i + 1)) u.2) else srest.l0 nd tl full k s l b (wrap64 (i + 1)) C)
   else (if 0 ≤ l ∧ l < (C.length : Int) ∧ 0 ≤ s ∧ s < ((C.getD l.toNat []).length : Int) then some (b, C.set l.toNat ((C.getD l.toNat []).set s.toNat (wrap64 (b + 1)))) else none)
def sstep.f (nd tl : List Int) (full : Int) : Nat → Int → Int → Int → List (List Int) → Option (Int × List (List Int))
 | 0, _, _, _, _ => none
 | k + 1, s, l, i, C => if 0 ≤ i then ((srest.f nd tl full k (Go.bits .or .i64 s (shl .i64 1 i)) i C).bind fun u => if 0 ≤ l then (if l < (tl.length : Int) ∧ i < (tl.length : Int) then (if rd tl l = rd tl i then some u else some (wrap64 (u.1 + 1), u.2)) else none) else some u) else none
end
theorem search.mono (nd tl : List Int) (full : Int) : ∀ k, (∀ s l C, LeO (srest.f nd tl full k s l C) (srest.f nd tl full (k + 1) s l C)) ∧ (∀ s l b i C, LeO (srest.l0 nd tl full k s l b i C) (srest.l0 nd tl full (k + 1) s l b i C)) ∧ (∀ s l i C, LeO (sstep.f nd tl full k s l i C) (sstep.f nd tl full (k + 1) s l i C))
 | 0 => ⟨fun _ _ _ r h => by simp [srest.f] at h, fun _ _ _ _ _ r h => by simp [srest.l0] at h, fun _ _ _ _ r h => by simp [sstep.f] at h⟩
 | k + 1 => by
  obtain ⟨ih0, ih1, ih2⟩ := search.mono nd tl full k
  refine ⟨fun s l C => ?_, fun s l b i C => ?_, fun s l i C => ?_⟩
  ·rw [srest.f, srest.f]
   exact LeO.ite (LeO.refl _) (LeO.ite (LeO.ite (LeO.refl _) (ih1 _ _ _ _ _)) (LeO.none _))
  ·rw [srest.l0, srest.l0]
   exact LeO.ite (LeO.bind (LeO.refl _) (fun t => LeO.ite (LeO.bind (ih2 _ _ _ _) (fun u => ih1 _ _ _ _ _)) (ih1 _ _ _ _ _))) (LeO.refl _)
  ·rw [sstep.f, sstep.f]
   exact LeO.ite (LeO.bind (ih0 _ _ _) (fun u => LeO.refl _)) (LeO.none _)

structure EnvS (w : World) (okc : Nat → Prop) (g gn gc : Nat) (nd tl : List Int) (full : Int) (c0 c1 c3 : Nat) (A1 : Option Addr) (nC : Nat) (W : World) (C : List (List Int)) : Prop where
 bk : W.heap[g]? = some (.cells #[.slice (some ⟨gn, 0, none⟩) nd.length c0, .slice A1 tl.length c1, .int .i64 full, .slice (some ⟨gc, 0, none⟩) nC c3] 69 (0, 0))
 n : Kd.R (Kd.int .i64) 3 W w.heap.size (fun k => ¬ okc k) (.slice (some ⟨gn, 0, none⟩) nd.length c0) nd
 t : Kd.C (Kd.int .i64) w A1 tl.length tl
 c : Kd.S (Kd.slice 3 (Kd.int .i64)) 31 W w.heap.size okc (.slice (some ⟨gc, 0, none⟩) nC c3) C
 b : Below w.heap.size w W
section
variable {w : World} {okc : Nat → Prop} {g gn gc : Nat} {nd tl : List Int} {full : Int} {c0 c1 c3 : Nat} {A1 : Option Addr} {nC : Nat} {W W1 : World} {C : List (List Int)}
theorem EnvS.step (h : EnvS w okc g gn gc nd tl full c0 c1 c3 A1 nC W C) (hb : Below W.heap.size W W1) : EnvS w okc g gn gc nd tl full c0 c1 c3 A1 nC W1 C :=
 ⟨(hb.block _ (blk_lt h.bk)).trans h.bk, Kd.R_below h.n hb, h.t, Kd.S_below h.c hb, bT_ h.b hb⟩
theorem EnvS.drew (h : EnvS w okc g gn gc nd tl full c0 c1 c3 A1 nC W C) : EnvS w okc g gn gc nd tl full c0 c1 c3 A1 nC W.drew C := h.step (bD_ (Below.refl _ _))
theorem EnvS.drewN (h : EnvS w okc g gn gc nd tl full c0 c1 c3 A1 nC W C) (m : Nat) : EnvS w okc g gn gc nd tl full c0 c1 c3 A1 nC (W.drewN m) C := h.step (bN_ (Below.refl _ _) m)
theorem EnvS.len (h : EnvS w okc g gn gc nd tl full c0 c1 c3 A1 nC W C) : nC = C.length := (Kd.S_reads' h.c).1
theorem EnvS.at (h : EnvS w okc g gn gc nd tl full c0 c1 c3 A1 nC W C) (i j : Int) (i0 : 0 ≤ i) (i1 : i < nC) (j0 : 0 ≤ j) (j1 : j < (C.getD i.toNat []).length) :
  ∃ g2 c2, W.cell? ⟨gc, i.toNat, none⟩ = some (.slice (some ⟨g2, 0, none⟩) (C.getD i.toNat []).length c2) ∧ W.cell? ⟨g2, j.toNat, none⟩ = some (.int .i64 (rd (C.getD i.toNat []) j)) ∧ W.frozen? ⟨g2, j.toNat, none⟩ = false ∧ g2 ≠ gc ∧
   ∀ x, EnvS w okc g gn gc nd tl full c0 c1 c3 A1 nC (W.setCell ⟨g2, j.toNat, none⟩ (.int .i64 x)) (C.set i.toNat ((C.getD i.toNat []).set j.toNat x)) ∧ Kept W (W.setCell ⟨g2, j.toNat, none⟩ (.int .i64 x)) okc := by
 obtain ⟨g2, c2, h1, h2, h3, h4, h5, h6, _, ⟨cells, hc⟩, h9⟩ := S_at2 h.c 0 i j i0 i1 j0 j1
 refine ⟨g2, c2, h1, h2, h3, h6, fun x => ⟨⟨blk_far h.bk (blk_ne h.bk hc (by decide)) _, Kd.R_far h.n (fun k hk he => hk (by rw [he]; exact h5)) _, h.t, h9 x, below_set h.b h4⟩, Kept.setCell (Kept.refl _ _) (.inl h5) _⟩⟩
theorem EnvS.z1 (h : EnvS w okc g gn gc nd tl full c0 c1 c3 A1 nC W C) : W.cell? ⟨g, 1, none⟩ = some (.slice A1 tl.length c1) := (blk_cell h.bk 1).trans rfl
theorem EnvS.z2 (h : EnvS w okc g gn gc nd tl full c0 c1 c3 A1 nC W C) : W.cell? ⟨g, 2, none⟩ = some (.int .i64 full) := (blk_cell h.bk 2).trans rfl
theorem EnvS.z3 (h : EnvS w okc g gn gc nd tl full c0 c1 c3 A1 nC W C) : W.cell? ⟨g, 3, none⟩ = some (.slice (some ⟨gc, 0, none⟩) nC c3) := (blk_cell h.bk 3).trans rfl
end

set_option maxHeartbeats 4000000 in
set_option maxRecDepth 100000 in
theorem sopen.calls {w : World} {okc : Nat → Prop} {g gn gc : Nat} {nd tl : List Int} {full : Int} {c0 c1 c3 : Nat} {A1 : Option Addr} {nC : Nat} {W : World} {C : List (List Int)} (hE : EnvS w okc g gn gc nd tl full c0 c1 c3 A1 nC W C) (s i : Int) (r : Bool) (h : sopen.f nd s i = some r) :
  Calls Try.prog 48 #[.pointer (some ⟨g, 0, none⟩), .int .i64 s, .int .i64 i] W fun e W' => e = .returned (.bool r) ∧ W = W' := by
 have hu69 := Try.underlying69
 have hz0 : W.cell? ⟨g, 0, none⟩ = some (.slice (some ⟨gn, 0, none⟩) nd.length c0) := (blk_cell hE.bk 0).trans rfl
 unfold sopen.f at h
 have HE := aK hE
 clear hE
 by_cases i0 : 0 ≤ i
 ·rw [if_pos i0] at h
  have i0' := eq_true i0
  have i0b := decide_eq_true i0
  obtain ⟨j, hj⟩ : ∃ j : Int, shr .i64 s i = j := ⟨_, rfl⟩
  rw [hj] at h
  have hj_ : (s / 2 ^ min i.toNat 64) = j := hj
  have hjz : i ≤ 64 → (s / 2 ^ i.toNat) = j := shr_small hj
  by_cases z : Go.bits .and .i64 j 1 = 0
  ·rw [if_pos z] at h
   have zb : (Go.bits .and .i64 j 1 == 0) = true := beq_iff_eq.mpr z
   by_cases i1 : i < (nd.length : Int)
   ·rw [if_pos i1] at h
    obtain ⟨hx0, _⟩ := Kd.R_celln 0 HE.out.n i i0 i1
    have hx : W.cell? ⟨gn, i.toNat, none⟩ = some (.int .i64 (rd nd i)) := hx0
    have i1' := eq_true i1
    obtain rfl := Option.some.inj h
    clear hx0 hj z i0 i1 h
    go_enter Try.func48, Try.ntmps48
    go_wp2; go_ret
    exact ⟨by first | rfl | (simp; done), rfl⟩
   ·rw [if_neg i1] at h; cases h
  ·rw [if_neg z] at h
   have zb : (Go.bits .and .i64 j 1 == 0) = false := beq_eq_false_iff_ne.mpr z
   obtain rfl := Option.some.inj h
   clear hj z i0 h
   go_enter Try.func48, Try.ntmps48
   go_wp2; go_ret
   exact ⟨by first | rfl | (simp; done), rfl⟩
 ·rw [if_neg i0] at h; cases h

set_option maxHeartbeats 16000000 in
set_option maxRecDepth 100000 in
theorem search.calls (w : World) (okc : Nat → Prop) (g gn gc : Nat) (nd tl : List Int) (full : Int) (c0 c1 c3 : Nat) (A1 : Option Addr) (nC : Nat) (k : Nat) :
  (∀ (s l : Int) (C : List (List Int)) (r : Int) (C' : List (List Int)) (W : World), EnvS w okc g gn gc nd tl full c0 c1 c3 A1 nC W C → srest.f nd tl full k s l C = some (r, C') →
   Calls Try.prog 54 #[.pointer (some ⟨g, 0, none⟩), .int .i64 s, .int .i64 l] W fun e W' => e = .returned (.int .i64 r) ∧ EnvS w okc g gn gc nd tl full c0 c1 c3 A1 nC W' C' ∧ Kept W W' okc) ∧
  (∀ (s l i : Int) (C : List (List Int)) (r : Int) (C' : List (List Int)) (W : World), EnvS w okc g gn gc nd tl full c0 c1 c3 A1 nC W C → sstep.f nd tl full k s l i C = some (r, C') →
   Calls Try.prog 49 #[.pointer (some ⟨g, 0, none⟩), .int .i64 s, .int .i64 l, .int .i64 i] W fun e W' => e = .returned (.int .i64 r) ∧ EnvS w okc g gn gc nd tl full c0 c1 c3 A1 nC W' C' ∧ Kept W W' okc) := by
 have hu69 := Try.underlying69
 induction k using Nat.strongRecOn with
 | _ k ih =>
 cases k with
 | zero => exact ⟨fun _ _ _ _ _ _ _ h => absurd h (by simp [srest.f]), fun _ _ _ _ _ _ _ _ h => absurd h (by simp [sstep.f])⟩
 | succ k =>
 refine ⟨?_, ?_⟩
 ·intro s l C r C' W hE h; rw [srest.f] at h; have HE := aK hE; clear hE
  have hz2 := HE.out.z2
  by_cases z : s = full
  ·rw [if_pos z] at h
   simp only [Option.some.injEq, Prod.mk.injEq] at h
   obtain ⟨rfl, rfl⟩ := h
   have zb : (s == full) = true := beq_iff_eq.mpr z
   clear z ih
   go_enter Try.func54, Try.ntmps54
   go_wp2; go_ret
   exact ⟨rfl, HE.out, Kept.refl _ _⟩
  ·rw [if_neg z] at h
   have zb : (s == full) = false := beq_eq_false_iff_ne.mpr z
   by_cases q : 0 ≤ l ∧ l < (C.length : Int) ∧ 0 ≤ s ∧ s < ((C.getD l.toNat []).length : Int)
   ·rw [if_pos q] at h
    obtain ⟨q1, q2, q3, q4⟩ := q
    have hl := HE.out.len
    rw [← hl] at q2
    obtain ⟨g2, c2, h1, h2, h3, h4, h5⟩ := HE.out.at l s q1 q2 q3 q4
    have hz3 := HE.out.z3
    have hz1 := HE.out.z1
    generalize hrow : C.getD l.toNat [] = row at h h1 h2 h3 h5 q4
    have q1' := eq_true q1
    have q2' := eq_true q2
    have q3' := eq_true q3
    have q4' := eq_true q4
    clear h5 h4 hl
    by_cases p : rd row s > 0
    ·rw [if_pos p] at h
     simp only [Option.some.injEq, Prod.mk.injEq] at h
     obtain ⟨rfl, rfl⟩ := h
     have pb : decide (rd row s > 0) = true := decide_eq_true p
     have pc : decide (0 < rd row s) = true := decide_eq_true p
     generalize rd row s = v at h2 p pb pc
     clear ih z hrow p q1 q2 q3 q4
     go_enter Try.func54, Try.ntmps54
     go_wp2; go_ret
     exact ⟨by first | rfl | (simp; done), HE.out, Kept.refl _ _⟩
    ·rw [if_neg p] at h
     have pb : decide (rd row s > 0) = false := decide_eq_false p
     have pc : decide (0 < rd row s) = false := decide_eq_false p
     generalize rd row s = v at h2 p pb pc
     have HH := aK h; have IH := aK ih
     have Q := aK (And.intro q1 q3)
     clear ih z hrow p h q1 q2 q3 q4
     go_enter Try.func54, Try.ntmps54
     go_wp2
     go_loopg [8, 40] k (fun kq v8 v40 w' => ∃ (b i : Int) (D : List (List Int)), v8 = .int .i64 b ∧ v40 = .int .i64 i ∧ Aside0 (srest.l0 nd tl full kq s l b i D = some (r, C')) ∧ Aside0 (kq ≤ k) ∧ Aside0 (EnvS w okc g gn gc nd tl full c0 c1 c3 A1 nC w' D) ∧ Aside0 (Kept W w' okc))
     case atStart => exact ⟨(tl.length : Int), 0, C, rfl, rfl, HH, ⟨Nat.le_refl _⟩, HE, ⟨Kept.refl _ _⟩⟩
     case round =>
      clear HH HE h1 h2 h3 hz1 hz2 hz3
      obtain ⟨b, i, D, rfl, rfl, HA, HK, HE, HKW⟩ := hrel
      cases gk with
      | zero => exact absurd HA.out (by simp [srest.l0])
      | succ k1 =>
       have H := HA.out
       clear HA; rw [srest.l0] at H
       by_cases c : i < (tl.length : Int)
       ·rw [if_pos c] at H
        have cb := decide_eq_true c
        obtain ⟨t, ht, H⟩ := oB_ H
        have HT := aK ht; clear c ht
        cases t with
        | true =>
         rw [if_pos rfl] at H
         obtain ⟨⟨u, D2⟩, hu, H⟩ := oB_ H
         have HU := aK hu; have HN := aK H; clear H hu
         by_cases hm : u < b
         ·have hmb := eq_true hm
          have HM : Aside0 (mn b u = u) := ⟨by unfold mn; rw [if_pos hm]⟩
          clear hm
          go_wp2_with (first | (go_at_call 48; go_must (refine (sopen.calls HE.out s i true HT.out).mono ?_; rintro e w' ⟨rfl, rfl⟩)) | (go_at_call 49; go_must (refine ((IH.out k1 (by have := HK.out; omega)).2 s l i D u D2 _ HE.out HU.out).mono ?_; rintro e w3 ⟨rfl, hE, hK⟩; have HE3 := aK hE; have HK3 := aK (HKW.out.then_ hK (fun _ h => .inl h)); clear hE hK)))
          go_roundg k1
          case measure => have := HK.out; omega
          case rel => exact ⟨mn b u, wrap64 (i + 1), D2, by rw [HM.out], (by first | rfl | (simp; done)), HN, ⟨by have := HK.out; omega⟩, HE3, HK3⟩
         ·have hmb := eq_false hm
          have HM : Aside0 (mn b u = b) := ⟨by unfold mn; rw [if_neg hm]⟩
          clear hm
          go_wp2_with (first | (go_at_call 48; go_must (refine (sopen.calls HE.out s i true HT.out).mono ?_; rintro e w' ⟨rfl, rfl⟩)) | (go_at_call 49; go_must (refine ((IH.out k1 (by have := HK.out; omega)).2 s l i D u D2 _ HE.out HU.out).mono ?_; rintro e w3 ⟨rfl, hE, hK⟩; have HE3 := aK hE; have HK3 := aK (HKW.out.then_ hK (fun _ h => .inl h)); clear hE hK)))
          go_roundg k1
          case measure => have := HK.out; omega
          case rel => exact ⟨mn b u, wrap64 (i + 1), D2, by rw [HM.out], (by first | rfl | (simp; done)), HN, ⟨by have := HK.out; omega⟩, HE3, HK3⟩
        | false =>
         rw [if_neg (by decide)] at H; have HN := aK H; clear H
         go_wp2_with (go_at_call 48; go_must (refine (sopen.calls HE.out s i false HT.out).mono ?_; rintro e w' ⟨rfl, rfl⟩))
         go_roundg k1
         case measure => have := HK.out; omega
         case rel => exact ⟨b, wrap64 (i + 1), D, rfl, (by first | rfl | (simp; done)), HN, ⟨by have := HK.out; omega⟩, HE, HKW⟩
       ·rw [if_neg c] at H
        have cb := decide_eq_false c
        by_cases q : 0 ≤ l ∧ l < (D.length : Int) ∧ 0 ≤ s ∧ s < ((D.getD l.toNat []).length : Int)
        ·rw [if_pos q] at H
         obtain ⟨q1, q2, q3, q4⟩ := q
         have hl := HE.out.len
         rw [← hl] at q2
         simp only [Option.some.injEq, Prod.mk.injEq] at H
         obtain ⟨rfl, HC⟩ := H
         obtain ⟨g2, c2, h1, h2, h3, h4, h5⟩ := HE.out.at l s q1 q2 q3 q4
         have hz3 := HE.out.z3
         have HP := aK (h5 (wrap64 (b + 1)))
         rw [HC] at HP
         generalize D.getD l.toNat [] = row at h1 h2 q4
         have q1' := eq_true q1
         have q2' := eq_true q2
         have q3' := eq_true q3
         have q4' := eq_true q4
         clear h5 h4 hl HC c IH q1 q2 q3 q4; go_wp2; go_ret
         exact ⟨rfl, HP.out.1, HKW.out.then_ HP.out.2 (fun _ h => .inl h)⟩
        ·rw [if_neg q] at H; cases H
   ·rw [if_neg q] at h; cases h
 ·intro s l i C r C' W hE h; rw [sstep.f] at h; have HE := aK hE; clear hE
  by_cases i0 : 0 ≤ i
  ·rw [if_pos i0] at h
   obtain ⟨⟨u, D⟩, hu, h⟩ := oB_ h
   obtain ⟨j, hj⟩ : ∃ j : Int, shl .i64 1 i = j := ⟨_, rfl⟩
   rw [hj] at hu
   have hj_ : wrap64 (2 ^ min i.toNat 64) = j := by rw [← hj]; unfold shl; rw [Int.one_mul, i64_w]; rfl
   have HU := aK hu
   have i0' := eq_true i0
   have i0b := decide_eq_true i0
   have IH := aK ih; clear hu ih i0 hj
   dsimp only at h
   by_cases l0 : 0 ≤ l
   ·rw [if_pos l0] at h
    by_cases q : l < (tl.length : Int) ∧ i < (tl.length : Int)
    ·rw [if_pos q] at h
     obtain ⟨q1, q2⟩ := q
     obtain ⟨ad, e1, hx⟩ := Kd.at_int HE.out.t l l0 q1
     obtain ⟨ad2, e2, hy⟩ := Kd.at_int HE.out.t i (of_decide_eq_true i0b) q2
     subst e1
     injection e2 with e2
     subst e2
     generalize rd tl l = a at hx h
     generalize rd tl i = b at hy h
     have HX := aK hx; have HY := aK hy
     have l0' := eq_true l0
     have l0b := decide_eq_true l0
     have q1' := eq_true q1
     have q2' := eq_true q2
     by_cases e : a = b
     ·rw [if_pos e] at h
      simp only [Option.some.injEq, Prod.mk.injEq] at h
      obtain ⟨rfl, rfl⟩ := h
      have eb : (a == b) = true := beq_iff_eq.mpr e
      have ec : (a != b) = false := bne_eq_false_iff_eq.mpr e
      clear e hx hy q1 q2 l0
      go_enter Try.func49, Try.ntmps49
      go_wp2_with (go_at_call 54; go_must (refine ((IH.out k (by omega)).1 (Go.bits .or .i64 s j) i C u D _ HE.out HU.out).mono ?_; rintro e w3 ⟨rfl, hE, hK⟩; have HE3 := aK hE; have HK3 := aK hK; have hx3 := (hE.b.cell (World.block_lt_of_cell? w _ HX.out)).trans HX.out; have hy3 := (hE.b.cell (World.block_lt_of_cell? w _ HY.out)).trans HY.out; have hz1 := hE.z1; clear hE hK))
      go_quiet (fail)
      go_wp2; go_ret
      exact ⟨by first | rfl | (simp; done), HE3.out.drewN _, HK3.out.drewN _⟩
     ·rw [if_neg e] at h
      simp only [Option.some.injEq, Prod.mk.injEq] at h
      obtain ⟨rfl, rfl⟩ := h
      have eb : (a == b) = false := beq_eq_false_iff_ne.mpr e
      have ec : (a != b) = true := bne_iff_ne.mpr e
      clear e hx hy q1 q2 l0
      go_enter Try.func49, Try.ntmps49
      go_wp2_with (go_at_call 54; go_must (refine ((IH.out k (by omega)).1 (Go.bits .or .i64 s j) i C u D _ HE.out HU.out).mono ?_; rintro e w3 ⟨rfl, hE, hK⟩; have HE3 := aK hE; have HK3 := aK hK; have hx3 := (hE.b.cell (World.block_lt_of_cell? w _ HX.out)).trans HX.out; have hy3 := (hE.b.cell (World.block_lt_of_cell? w _ HY.out)).trans HY.out; have hz1 := hE.z1; clear hE hK))
      go_quiet (fail)
      go_wp2; go_ret
      exact ⟨by first | rfl | (simp; done), HE3.out.drewN _, HK3.out.drewN _⟩
    ·rw [if_neg q] at h; cases h
   ·rw [if_neg l0] at h
    simp only [Option.some.injEq, Prod.mk.injEq] at h
    obtain ⟨rfl, rfl⟩ := h
    have l0b : decide (0 ≤ l) = false := decide_eq_false l0
    have l0c : decide (l ≥ 0) = false := decide_eq_false l0
    clear l0
    go_enter Try.func49, Try.ntmps49
    go_wp2_with (go_at_call 54; go_must (refine ((IH.out k (by omega)).1 (Go.bits .or .i64 s j) i C u D _ HE.out HU.out).mono ?_; rintro e w3 ⟨rfl, hE, hK⟩; have HE3 := aK hE; have HK3 := aK hK; clear hE hK))
    go_quiet (fail)
    go_wp2; go_ret
    exact ⟨by first | rfl | (simp; done), HE3.out.drewN _, HK3.out.drewN _⟩
  ·rw [if_neg i0] at h; cases h
end Go.Proofs.Ytbbkclcfmcjlgaa.P
