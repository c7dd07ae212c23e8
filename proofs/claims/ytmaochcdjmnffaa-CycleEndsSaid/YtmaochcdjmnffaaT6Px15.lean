-- PRINTED by print.py (a twelfth state) out of the translation. Not trusted: Lean checks it.
import Derived.Test.YtmaochcdjmnffaaT6Px0
import Derived.Test.YtmaochcdjmnffaaT6Px11
import Derived.Test.YtmaochcdjmnffaaT6Px14
namespace Go.Proofs.Ytmaochcdjmnffaa.P
open Go.RowKit Go.Proofs.YtmaochcdjmnffaaW.PrintWords Go.Proofs.YtmaochcdjmnffaaW.PrintLast Go.Proofs.YtmaochcdjmnffaaW.PrintMore
attribute [local go_sem] max2_int min2_int max_two min_two max_three min_three max_four min_four   -- for this text's walks alone
set_option linter.unusedVariables false
set_option linter.unusedSimpArgs false

/-! ### swarfref41_Format: function 25 -/
def swarfref41_Format.l0 : Nat → ByteArray → Int → Bool → List (S80) → ByteArray → Option (ByteArray × Int)
  | 0, _, _, _, _, _ => none
  | k + 1, x5, x6, x158000, x158001, x158002 => if x6 < (x158001.length : Int) then (if x6 > 0 then (if x5.size + 1 ≤ 9223372036854775807 then (if 0 ≤ x6 then ((swarfref41_Word.f k ((rd_T80 x158001 x6).f0) ((rd_T80 x158001 x6).f1)).bind fun t160 => (if (x5 ++ (⟨#[32]⟩ : ByteArray)).size + t160.size ≤ 9223372036854775807 then (swarfref41_Format.l0 k ((x5 ++ (⟨#[32]⟩ : ByteArray)) ++ t160) (wrap64 (x6 + 1)) x158000 x158001 x158002) else (none))) else (none)) else (none)) else (if 0 ≤ x6 then ((swarfref41_Word.f k ((rd_T80 x158001 x6).f0) ((rd_T80 x158001 x6).f1)).bind fun t162 => (if x5.size + t162.size ≤ 9223372036854775807 then (swarfref41_Format.l0 k (x5 ++ t162) (wrap64 (x6 + 1)) x158000 x158001 x158002) else (none))) else (none))) else (if x158002.toList = ([] : List UInt8) then (if x158000 = true then (if 1 + x5.size ≤ 9223372036854775807 then (some ((⟨#[47]⟩ : ByteArray) ++ x5, 0)) else (none)) else (some (x5, 0))) else (if x5.toList = ([] : List UInt8) then (if x5.size + 1 ≤ 9223372036854775807 then (if (x5 ++ (⟨#[40]⟩ : ByteArray)).size + x158002.size ≤ 9223372036854775807 then (if ((x5 ++ (⟨#[40]⟩ : ByteArray)) ++ x158002).size + 1 ≤ 9223372036854775807 then (if x158000 = true then (if 1 + (((x5 ++ (⟨#[40]⟩ : ByteArray)) ++ x158002) ++ (⟨#[41]⟩ : ByteArray)).size ≤ 9223372036854775807 then (some ((⟨#[47]⟩ : ByteArray) ++ (((x5 ++ (⟨#[40]⟩ : ByteArray)) ++ x158002) ++ (⟨#[41]⟩ : ByteArray)), 0)) else (none)) else (some (((x5 ++ (⟨#[40]⟩ : ByteArray)) ++ x158002) ++ (⟨#[41]⟩ : ByteArray), 0))) else (none)) else (none)) else (none)) else (if x5.size + 1 ≤ 9223372036854775807 then (if (x5 ++ (⟨#[32]⟩ : ByteArray)).size + 1 ≤ 9223372036854775807 then (if ((x5 ++ (⟨#[32]⟩ : ByteArray)) ++ (⟨#[40]⟩ : ByteArray)).size + x158002.size ≤ 9223372036854775807 then (if (((x5 ++ (⟨#[32]⟩ : ByteArray)) ++ (⟨#[40]⟩ : ByteArray)) ++ x158002).size + 1 ≤ 9223372036854775807 then (if x158000 = true then (if 1 + ((((x5 ++ (⟨#[32]⟩ : ByteArray)) ++ (⟨#[40]⟩ : ByteArray)) ++ x158002) ++ (⟨#[41]⟩ : ByteArray)).size ≤ 9223372036854775807 then (some ((⟨#[47]⟩ : ByteArray) ++ ((((x5 ++ (⟨#[32]⟩ : ByteArray)) ++ (⟨#[40]⟩ : ByteArray)) ++ x158002) ++ (⟨#[41]⟩ : ByteArray)), 0)) else (none)) else (some ((((x5 ++ (⟨#[32]⟩ : ByteArray)) ++ (⟨#[40]⟩ : ByteArray)) ++ x158002) ++ (⟨#[41]⟩ : ByteArray), 0))) else (none)) else (none)) else (none)) else (none))))
def swarfref41_Format.f (k : Nat) (a0_0 : Bool) (l0_1 : List (S80)) (a0_2 : ByteArray) : Option (ByteArray × Int) := (swarfref41_Valid.f k a0_0 l0_1 a0_2).bind fun t158 => (if t158 = 0 then (swarfref41_Format.l0 k (⟨#[]⟩ : ByteArray) 0 a0_0 l0_1 a0_2) else (some ((⟨#[]⟩ : ByteArray), t158)))
theorem swarfref41_Format.mono_l : ∀ k, (∀ y0 y1 y2 y3 y4, LeO (swarfref41_Format.l0 k y0 y1 y2 y3 y4) (swarfref41_Format.l0 (k + 1) y0 y1 y2 y3 y4))
  | 0 => fun _ _ _ _ _ r h => by simp [swarfref41_Format.l0] at h
  | k + 1 => by
    have ih0 := swarfref41_Format.mono_l k
    · intro y0 y1 y2 y3 y4
      unfold swarfref41_Format.l0
      repeat' first
      | (with_reducible exact ih0 _ _ _ _ _)
      | (with_reducible exact swarfref41_Valid.mono _ _ _ _)
      | (with_reducible exact swarfref41_Word.mono _ _ _)
      | (with_reducible exact LeO.refl _)
      | (with_reducible exact LeO.none _)
      | (with_reducible refine LeO.ite ?_ ?_)
      | (with_reducible refine LeO.bind ?_ (fun _ => ?_))
      | exact ih0 _ _ _ _ _
      | exact swarfref41_Valid.mono _ _ _ _
      | exact swarfref41_Word.mono _ _ _
      | exact LeO.none _
      | refine LeO.ite ?_ ?_
      | refine LeO.bind ?_ (fun _ => ?_)
theorem swarfref41_Format.mono : ∀ a0 a1 a2 k, LeO (swarfref41_Format.f k a0 a1 a2) (swarfref41_Format.f (k + 1) a0 a1 a2) := by
  intro a0 a1 a2 k
  have ih0 := swarfref41_Format.mono_l k
  unfold swarfref41_Format.f
  repeat' first
      | (with_reducible exact ih0 _ _ _ _ _)
      | (with_reducible exact swarfref41_Valid.mono _ _ _ _)
      | (with_reducible exact swarfref41_Word.mono _ _ _)
      | (with_reducible exact LeO.refl _)
      | (with_reducible exact LeO.none _)
      | (with_reducible refine LeO.ite ?_ ?_)
      | (with_reducible refine LeO.bind ?_ (fun _ => ?_))
      | exact ih0 _ _ _ _ _
      | exact swarfref41_Valid.mono _ _ _ _
      | exact swarfref41_Word.mono _ _ _
      | exact LeO.none _
      | refine LeO.ite ?_ ?_
      | refine LeO.bind ?_ (fun _ => ?_)
set_option maxHeartbeats 8000000 in
set_option maxRecDepth 100000 in
theorem swarfref41_Format.calls (k : Nat) (a0_0 : Bool) (A0_1 : Option Addr) (c0_1 : Nat) (l0_1 : List (S80)) (a0_2 : ByteArray) (r1 : ByteArray) (r2 : Int) (w : World) (hr0_1 : Kd.C k80 w A0_1 l0_1.length l0_1) (hc0_1 : l0_1.length ≤ c0_1) (h : swarfref41_Format.f k a0_0 l0_1 a0_2 = some (r1, r2)) :
    Calls Try.prog 25 #[.agg #[.bool a0_0, .slice A0_1 l0_1.length c0_1, .string a0_2]] w fun e w' => e = .returned (.tuple #[.string r1, .int .i64 r2]) ∧ Below w.heap.size w w' := by
  have hu54 := Try.underlying54
  have hu80 := Try.underlying80
  have HR0_1 := Aside0.mk hr0_1
  have HC0_1 := Aside0.mk hc0_1
  clear hr0_1 hc0_1
  have HB := Aside0.mk (Below.refl w.heap.size w)
  have H : ((swarfref41_Valid.f k a0_0 l0_1 a0_2).bind fun t158 => (if t158 = 0 then (swarfref41_Format.l0 k (⟨#[]⟩ : ByteArray) 0 a0_0 l0_1 a0_2) else (some ((⟨#[]⟩ : ByteArray), t158)))) = some (r1, r2) := h
  clear h
  replace H := Option.bind_eq_some_iff.mp H
  obtain ⟨t158, A20, H⟩ := H
  replace H : (if t158 = 0 then (swarfref41_Format.l0 k (⟨#[]⟩ : ByteArray) 0 a0_0 l0_1 a0_2) else (some ((⟨#[]⟩ : ByteArray), t158))) = some (r1, r2) := H
  have A2 := Aside0.mk A20
  clear A20
  by_cases c3 : t158 = 0
  · rw [if_pos c3] at H
    have c3b0 : (t158 == 0) = true := beq_iff_eq.mpr c3
    have c3b1 : (t158 != 0) = false := bne_eq_false_iff_eq.mpr c3
    clear c3
    have H' := Aside0.mk H
    clear H
    go_enter Try.func25, Try.ntmps25
    go_wp2_with (first | ((with_reducible refine gate_dst (N := 1) rfl ?_); refine box_event ?hg (N := 1) ?hd (cs := #[.bool a0_0, .slice A0_1 l0_1.length c0_1, .string a0_2]) (t := 54) ?hr ?_; (case hd => rfl); (case hg => rfl); (case hr => first | (go_simp; done) | (go_simp; rfl)); intro gb157 hg w4 hbox hb; have n0_ := Aside0.mk (below_step (by repeat (first | (with_reducible first | exact HB.out | apply below_alloc | apply pw_below_drewN | apply below_drew1) | exact HB.out)) hb); have n1_ := Aside0.mk (hbox); have n2_ := Aside0.mk ((by rw [hg]; exact (below_size (by repeat (first | (with_reducible first | exact HB.out | apply below_alloc | apply pw_below_drewN | apply below_drew1) | exact HB.out))) : w.heap.size ≤ gb157)); have n3_ := Aside0.mk ((by rw [hg]; exact (below_size (by repeat (first | (with_reducible first | exact HB.out | apply below_alloc | apply pw_below_drewN | apply below_drew1) | exact HB.out))) : w.heap.size ≤ gb157)); clear HB; have HB := n0_; have BK157 := n1_; have GW157 := n2_; have GE157 := n3_; clear n0_ n1_ n2_ n3_; clear hb hbox hg; have hcz5_0 : w4.cell? ⟨gb157, 0, none⟩ = some (.bool a0_0) := (blk_cell BK157.out 0).trans rfl; have hcz5_1 : w4.cell? ⟨gb157, 1, none⟩ = some (.slice A0_1 l0_1.length c0_1) := (blk_cell BK157.out 1).trans rfl; have hcz5_2 : w4.cell? ⟨gb157, 2, none⟩ = some (.string a0_2) := (blk_cell BK157.out 2).trans rfl; have hfz5_0 := blk_frozen BK157.out 0; have hfz5_1 := blk_frozen BK157.out 1; have hfz5_2 := blk_frozen BK157.out 2) | ((with_reducible refine gate_callee (f := 34) rfl ?_); refine goesL_ (some 8) rfl rfl Try.func34 (by kernel_rfl) rfl #[.agg #[.bool a0_0, .slice A0_1 l0_1.length c0_1, .string a0_2]] rfl (by (try simp only [List.map_toArray, List.map_cons, List.map_nil]); first | done | rfl | (simp only [List.length_drop, List.length_take]; rfl)) ?_; (with_reducible refine (swarfref41_Valid.calls k a0_0 _ _ l0_1 a0_2 t158 _ ?side1 ?side2 A2.out).mono ?_); (case side1 => repeat (first | exact (Kd.C_below HR0_1.out HB.out) | (with_reducible refine Kd.C_alloc ?_ _) | (with_reducible refine Kd.C_drewN ?_ _) | (with_reducible refine Kd.C_drew ?_))); (case side2 => exact HC0_1.out); rintro e w6 ⟨rfl, hb⟩; refine ⟨_, rfl, ?_⟩; have n0_ := Aside0.mk (blk_below (g := gb157) (o := .cells #[.bool a0_0, .slice A0_1 l0_1.length c0_1, .string a0_2] 54 (0, 0)) (by (with_reducible repeat (first | refine blk_drewN ?_ _ | refine blk_drew ?_ | refine blk_alloc ?_ _)); exact BK157.out) hb); have n1_ := Aside0.mk (below_step (by repeat (first | (with_reducible first | exact HB.out | apply below_alloc | apply pw_below_drewN | apply below_drew1 | refine below_set ?_ GE157.out) | exact HB.out)) hb); clear BK157; clear HB; have BK157 := n0_; have HB := n1_; clear n0_ n1_; (try clear hb); (try clear hb2); (try clear hk); (try clear hi)))
    go_loopg [5, 6] k (fun kq v5 v6 w' => ∃ (x5_1 : ByteArray) (x6_1 : Int), v5 = .string x5_1 ∧ v6 = .int .i64 x6_1 ∧ Aside0 (swarfref41_Format.l0 kq x5_1 x6_1 a0_0 l0_1 a0_2 = some (r1, r2)) ∧ Aside0 (kq ≤ k) ∧ Aside0 (w'.heap[gb157]? = some (.cells #[.bool a0_0, (.slice A0_1 l0_1.length c0_1), .string a0_2] 54 (0, 0))) ∧ Aside0 (Below w.heap.size w w'))
    case atStart => exact ⟨((⟨#[]⟩ : ByteArray)), (0), (by first | rfl | (simp; done) | (simp [*]; done)), (by first | rfl | (simp; done) | (simp [*]; done)), H', ⟨Nat.le_refl _⟩, ⟨by (with_reducible repeat (first | refine blk_drewN ?_ _ | refine blk_drew ?_ | refine blk_alloc ?_ _)); exact BK157.out⟩, ⟨by repeat (first | (with_reducible first | exact HB.out | apply below_alloc | apply pw_below_drewN | apply below_drew1 | refine below_set ?_ GE157.out) | exact HB.out)⟩⟩
    case round =>
      clear H'
      try clear c2
      try clear p2
      try clear c3
      try clear c3b0
      try clear c3b1
      try clear hcz5_0
      try clear hcz5_1
      try clear hcz5_2
      try clear hfz5_0
      try clear hfz5_1
      try clear hfz5_2
      obtain ⟨x5_1, x6_1, rfl, rfl, HA, HK1, BK157, HB⟩ := hrel
      cases gk with
      | zero => exact absurd HA.out (by simp [swarfref41_Format.l0])
      | succ k1 =>
        have H := HA.out
        clear HA
        simp only [swarfref41_Format.l0] at H
        by_cases c7 : x6_1 < (l0_1.length : Int)
        · rw [if_pos c7] at H
          have c7b0 : decide (x6_1 < (l0_1.length : Int)) = true := decide_eq_true c7
          clear c7
          by_cases c8 : x6_1 > 0
          · rw [if_pos c8] at H
            have c8b0 : decide (0 < x6_1) = true := decide_eq_true c8
            clear c8
            by_cases c9 : x5_1.size + 1 ≤ 9223372036854775807
            · rw [if_pos c9] at H
              have c9b0 := eq_true c9
              have c9b1 : decide (x5_1.size + 1 ≤ 9223372036854775807) = true := decide_eq_true c9
              try have c9b2 : (9223372036854775807 < x5_1.size + 1) = False := eq_false (Nat.not_lt.2 c9)
              (try (have c9b3 := Nat.not_lt.2 c9; simp [Go.ByteArray.size_append', Go.ByteArray.size_mk'] at c9b3; have c9b4 := eq_false (Nat.not_lt.2 c9b3)))
              by_cases c10 : 0 ≤ x6_1
              · rw [if_pos c10] at H
                have c10b0 : decide (0 ≤ x6_1) = true := decide_eq_true c10
                clear c10
                replace H := Option.bind_eq_some_iff.mp H
                obtain ⟨t160, A110, H⟩ := H
                replace H : (if (x5_1 ++ (⟨#[32]⟩ : ByteArray)).size + t160.size ≤ 9223372036854775807 then (swarfref41_Format.l0 k1 ((x5_1 ++ (⟨#[32]⟩ : ByteArray)) ++ t160) (wrap64 (x6_1 + 1)) a0_0 l0_1 a0_2) else (none)) = some (r1, r2) := H
                have A11 := Aside0.mk A110
                clear A110
                by_cases c12 : (x5_1 ++ (⟨#[32]⟩ : ByteArray)).size + t160.size ≤ 9223372036854775807
                · rw [if_pos c12] at H
                  have c12b0 := eq_true c12
                  have c12b1 : decide ((x5_1 ++ (⟨#[32]⟩ : ByteArray)).size + t160.size ≤ 9223372036854775807) = true := decide_eq_true c12
                  try have c12b2 : (9223372036854775807 < (x5_1 ++ (⟨#[32]⟩ : ByteArray)).size + t160.size) = False := eq_false (Nat.not_lt.2 c12)
                  (try (have c12b3 := Nat.not_lt.2 c12; simp [Go.ByteArray.size_append', Go.ByteArray.size_mk'] at c12b3; have c12b4 := eq_false (Nat.not_lt.2 c12b3)))
                  have H' := Aside0.mk H
                  clear H
                  have hcz13_0 : wr.cell? ⟨gb157, 0, none⟩ = some (.bool a0_0) := (blk_cell BK157.out 0).trans rfl
                  have hcz13_1 : wr.cell? ⟨gb157, 1, none⟩ = some (.slice A0_1 l0_1.length c0_1) := (blk_cell BK157.out 1).trans rfl
                  have hcz13_2 : wr.cell? ⟨gb157, 2, none⟩ = some (.string a0_2) := (blk_cell BK157.out 2).trans rfl
                  have hfz13_0 := blk_frozen BK157.out 0
                  have hfz13_1 := blk_frozen BK157.out 1
                  have hfz13_2 := blk_frozen BK157.out 2
                  have p159 : 0 ≤ (x6_1 : Int) := of_decide_eq_true (by first | (with_reducible assumption) | assumption)
                  have q159 : x6_1 < (l0_1.length : Int) := of_decide_eq_true (by first | (with_reducible assumption) | assumption)
                  obtain ⟨ad159, e159, hx159_0, hx159_1⟩ := at_T80 HR0_1.out x6_1 p159 q159
                  cases e159
                  replace hx159_0 := (HB.out.cell (World.block_lt_of_cell? w _ hx159_0)).trans hx159_0
                  replace hx159_1 := (HB.out.cell (World.block_lt_of_cell? w _ hx159_1)).trans hx159_1
                  replace p159 := eq_true p159
                  replace q159 := eq_true q159
                  go_wp2_with (first | ((with_reducible refine gate_callee (f := 35) rfl ?_); refine goesL_ (some 29) rfl rfl Try.func35 (by kernel_rfl) rfl #[.agg #[.int .u8 ((rd_T80 l0_1 x6_1).f0), .int .i64 ((rd_T80 l0_1 x6_1).f1)]] rfl (by (try simp only [List.map_toArray, List.map_cons, List.map_nil]); first | done | rfl | (simp only [List.length_drop, List.length_take]; rfl)) ?_; (with_reducible refine (swarfref41_Word.calls k1 ((rd_T80 l0_1 x6_1).f0) ((rd_T80 l0_1 x6_1).f1) t160 _ A11.out).mono ?_); rintro e w14 ⟨rfl, hb⟩; refine ⟨_, rfl, ?_⟩; have n0_ := Aside0.mk (blk_below (g := gb157) (o := .cells #[.bool a0_0, .slice (some ad159) l0_1.length c0_1, .string a0_2] 54 (0, 0)) (by (with_reducible repeat (first | refine blk_drewN ?_ _ | refine blk_drew ?_ | refine blk_alloc ?_ _)); exact BK157.out) hb); have n1_ := Aside0.mk (below_step (by repeat (first | (with_reducible first | exact HB.out | apply below_alloc | apply pw_below_drewN | apply below_drew1 | refine below_set ?_ GE157.out) | exact HB.out)) hb); clear BK157; clear HB; have BK157 := n0_; have HB := n1_; clear n0_ n1_; (try clear hb); (try clear hb2); (try clear hk); (try clear hi)))
                  go_roundg k1
                  case measure => have := HK1.out; omega
                  case rel => exact ⟨((x5_1 ++ (⟨#[32]⟩ : ByteArray)) ++ t160), (wrap64 (x6_1 + 1)), (by first | rfl | (simp; done) | (simp [*]; done)), (by first | rfl | (simp; done) | (simp [*]; done)), H', ⟨by have := HK1.out; omega⟩, ⟨by (with_reducible repeat (first | refine blk_drewN ?_ _ | refine blk_drew ?_ | refine blk_alloc ?_ _)); exact BK157.out⟩, ⟨by repeat (first | (with_reducible first | exact HB.out | apply below_alloc | apply pw_below_drewN | apply below_drew1 | refine below_set ?_ GE157.out) | exact HB.out)⟩⟩
                · rw [if_neg c12] at H
                  exact absurd H (by simp)
              · rw [if_neg c10] at H
                exact absurd H (by simp)
            · rw [if_neg c9] at H
              exact absurd H (by simp)
          · rw [if_neg c8] at H
            have c8b0 : decide (0 < x6_1) = false := decide_eq_false c8
            clear c8
            by_cases c15 : 0 ≤ x6_1
            · rw [if_pos c15] at H
              have c15b0 : decide (0 ≤ x6_1) = true := decide_eq_true c15
              clear c15
              replace H := Option.bind_eq_some_iff.mp H
              obtain ⟨t162, A160, H⟩ := H
              replace H : (if x5_1.size + t162.size ≤ 9223372036854775807 then (swarfref41_Format.l0 k1 (x5_1 ++ t162) (wrap64 (x6_1 + 1)) a0_0 l0_1 a0_2) else (none)) = some (r1, r2) := H
              have A16 := Aside0.mk A160
              clear A160
              by_cases c17 : x5_1.size + t162.size ≤ 9223372036854775807
              · rw [if_pos c17] at H
                have c17b0 := eq_true c17
                have c17b1 : decide (x5_1.size + t162.size ≤ 9223372036854775807) = true := decide_eq_true c17
                try have c17b2 : (9223372036854775807 < x5_1.size + t162.size) = False := eq_false (Nat.not_lt.2 c17)
                (try (have c17b3 := Nat.not_lt.2 c17; simp [Go.ByteArray.size_append', Go.ByteArray.size_mk'] at c17b3; have c17b4 := eq_false (Nat.not_lt.2 c17b3)))
                have H' := Aside0.mk H
                clear H
                have hcz18_0 : wr.cell? ⟨gb157, 0, none⟩ = some (.bool a0_0) := (blk_cell BK157.out 0).trans rfl
                have hcz18_1 : wr.cell? ⟨gb157, 1, none⟩ = some (.slice A0_1 l0_1.length c0_1) := (blk_cell BK157.out 1).trans rfl
                have hcz18_2 : wr.cell? ⟨gb157, 2, none⟩ = some (.string a0_2) := (blk_cell BK157.out 2).trans rfl
                have hfz18_0 := blk_frozen BK157.out 0
                have hfz18_1 := blk_frozen BK157.out 1
                have hfz18_2 := blk_frozen BK157.out 2
                have p161 : 0 ≤ (x6_1 : Int) := of_decide_eq_true (by first | (with_reducible assumption) | assumption)
                have q161 : x6_1 < (l0_1.length : Int) := of_decide_eq_true (by first | (with_reducible assumption) | assumption)
                obtain ⟨ad161, e161, hx161_0, hx161_1⟩ := at_T80 HR0_1.out x6_1 p161 q161
                cases e161
                replace hx161_0 := (HB.out.cell (World.block_lt_of_cell? w _ hx161_0)).trans hx161_0
                replace hx161_1 := (HB.out.cell (World.block_lt_of_cell? w _ hx161_1)).trans hx161_1
                replace p161 := eq_true p161
                replace q161 := eq_true q161
                go_wp2_with (first | ((with_reducible refine gate_callee (f := 35) rfl ?_); refine goesL_ (some 29) rfl rfl Try.func35 (by kernel_rfl) rfl #[.agg #[.int .u8 ((rd_T80 l0_1 x6_1).f0), .int .i64 ((rd_T80 l0_1 x6_1).f1)]] rfl (by (try simp only [List.map_toArray, List.map_cons, List.map_nil]); first | done | rfl | (simp only [List.length_drop, List.length_take]; rfl)) ?_; (with_reducible refine (swarfref41_Word.calls k1 ((rd_T80 l0_1 x6_1).f0) ((rd_T80 l0_1 x6_1).f1) t162 _ A16.out).mono ?_); rintro e w19 ⟨rfl, hb⟩; refine ⟨_, rfl, ?_⟩; have n0_ := Aside0.mk (blk_below (g := gb157) (o := .cells #[.bool a0_0, .slice (some ad161) l0_1.length c0_1, .string a0_2] 54 (0, 0)) (by (with_reducible repeat (first | refine blk_drewN ?_ _ | refine blk_drew ?_ | refine blk_alloc ?_ _)); exact BK157.out) hb); have n1_ := Aside0.mk (below_step (by repeat (first | (with_reducible first | exact HB.out | apply below_alloc | apply pw_below_drewN | apply below_drew1 | refine below_set ?_ GE157.out) | exact HB.out)) hb); clear BK157; clear HB; have BK157 := n0_; have HB := n1_; clear n0_ n1_; (try clear hb); (try clear hb2); (try clear hk); (try clear hi)))
                go_roundg k1
                case measure => have := HK1.out; omega
                case rel => exact ⟨(x5_1 ++ t162), (wrap64 (x6_1 + 1)), (by first | rfl | (simp; done) | (simp [*]; done)), (by first | rfl | (simp; done) | (simp [*]; done)), H', ⟨by have := HK1.out; omega⟩, ⟨by (with_reducible repeat (first | refine blk_drewN ?_ _ | refine blk_drew ?_ | refine blk_alloc ?_ _)); exact BK157.out⟩, ⟨by repeat (first | (with_reducible first | exact HB.out | apply below_alloc | apply pw_below_drewN | apply below_drew1 | refine below_set ?_ GE157.out) | exact HB.out)⟩⟩
              · rw [if_neg c17] at H
                exact absurd H (by simp)
            · rw [if_neg c15] at H
              exact absurd H (by simp)
        · rw [if_neg c7] at H
          have c7b0 : decide (x6_1 < (l0_1.length : Int)) = false := decide_eq_false c7
          clear c7
          by_cases c20 : a0_2.toList = ([] : List UInt8)
          · rw [if_pos c20] at H
            have c20b0 : (a0_2.toList == ([] : List UInt8)) = true := beq_iff_eq.mpr c20
            have c20b1 : (a0_2.toList != ([] : List UInt8)) = false := bne_eq_false_iff_eq.mpr c20
            clear c20
            by_cases c21 : a0_0 = true
            · subst c21
              have H1 : (if 1 + x5_1.size ≤ 9223372036854775807 then (some ((⟨#[47]⟩ : ByteArray) ++ x5_1, 0)) else (none)) = some (r1, r2) := by rw [if_pos rfl] at H; exact H
              clear H
              have H := H1
              clear H1
              by_cases c22 : 1 + x5_1.size ≤ 9223372036854775807
              · rw [if_pos c22] at H
                have c22b0 := eq_true c22
                have c22b1 : decide (1 + x5_1.size ≤ 9223372036854775807) = true := decide_eq_true c22
                try have c22b2 : (9223372036854775807 < 1 + x5_1.size) = False := eq_false (Nat.not_lt.2 c22)
                (try (have c22b3 := Nat.not_lt.2 c22; simp [Go.ByteArray.size_append', Go.ByteArray.size_mk'] at c22b3; have c22b4 := eq_false (Nat.not_lt.2 c22b3)))
                simp only [Option.some.injEq, Prod.mk.injEq] at H
                obtain ⟨rfl, rfl⟩ := H
                have hcz23_0 : wr.cell? ⟨gb157, 0, none⟩ = some (.bool true) := (blk_cell BK157.out 0).trans rfl
                have hcz23_1 : wr.cell? ⟨gb157, 1, none⟩ = some (.slice A0_1 l0_1.length c0_1) := (blk_cell BK157.out 1).trans rfl
                have hcz23_2 : wr.cell? ⟨gb157, 2, none⟩ = some (.string a0_2) := (blk_cell BK157.out 2).trans rfl
                have hfz23_0 := blk_frozen BK157.out 0
                have hfz23_1 := blk_frozen BK157.out 1
                have hfz23_2 := blk_frozen BK157.out 2
                go_wp2
                go_ret2
                exact ⟨by first | rfl | (simp [errW_none, errW_some] <;> rfl) | (simp [*, errW_none, errW_some] <;> rfl), by repeat (first | (with_reducible first | exact HB.out | apply below_alloc | apply pw_below_drewN | apply below_drew1 | refine below_set ?_ GE157.out) | exact HB.out)⟩
              · rw [if_neg c22] at H
                exact absurd H (by simp)
            · replace c21 := Bool.eq_false_iff.mpr c21
              subst c21
              have H1 : (some (x5_1, 0)) = some (r1, r2) := by rw [if_neg (show ¬ (false = true) by decide)] at H; exact H
              clear H
              have H := H1
              clear H1
              simp only [Option.some.injEq, Prod.mk.injEq] at H
              obtain ⟨rfl, rfl⟩ := H
              have hcz24_0 : wr.cell? ⟨gb157, 0, none⟩ = some (.bool false) := (blk_cell BK157.out 0).trans rfl
              have hcz24_1 : wr.cell? ⟨gb157, 1, none⟩ = some (.slice A0_1 l0_1.length c0_1) := (blk_cell BK157.out 1).trans rfl
              have hcz24_2 : wr.cell? ⟨gb157, 2, none⟩ = some (.string a0_2) := (blk_cell BK157.out 2).trans rfl
              have hfz24_0 := blk_frozen BK157.out 0
              have hfz24_1 := blk_frozen BK157.out 1
              have hfz24_2 := blk_frozen BK157.out 2
              go_wp2
              go_ret2
              exact ⟨by first | rfl | (simp [errW_none, errW_some] <;> rfl) | (simp [*, errW_none, errW_some] <;> rfl), by repeat (first | (with_reducible first | exact HB.out | apply below_alloc | apply pw_below_drewN | apply below_drew1 | refine below_set ?_ GE157.out) | exact HB.out)⟩
          · rw [if_neg c20] at H
            have c20b0 : (a0_2.toList == ([] : List UInt8)) = false := beq_eq_false_iff_ne.mpr c20
            have c20b1 : (a0_2.toList != ([] : List UInt8)) = true := bne_iff_ne.mpr c20
            by_cases c25 : x5_1.toList = ([] : List UInt8)
            · rw [if_pos c25] at H
              have c25b0 : (x5_1.toList == ([] : List UInt8)) = true := beq_iff_eq.mpr c25
              have c25b1 : (x5_1.toList != ([] : List UInt8)) = false := bne_eq_false_iff_eq.mpr c25
              clear c25
              by_cases c26 : x5_1.size + 1 ≤ 9223372036854775807
              · rw [if_pos c26] at H
                have c26b0 := eq_true c26
                have c26b1 : decide (x5_1.size + 1 ≤ 9223372036854775807) = true := decide_eq_true c26
                try have c26b2 : (9223372036854775807 < x5_1.size + 1) = False := eq_false (Nat.not_lt.2 c26)
                (try (have c26b3 := Nat.not_lt.2 c26; simp [Go.ByteArray.size_append', Go.ByteArray.size_mk'] at c26b3; have c26b4 := eq_false (Nat.not_lt.2 c26b3)))
                by_cases c27 : (x5_1 ++ (⟨#[40]⟩ : ByteArray)).size + a0_2.size ≤ 9223372036854775807
                · rw [if_pos c27] at H
                  have c27b0 := eq_true c27
                  have c27b1 : decide ((x5_1 ++ (⟨#[40]⟩ : ByteArray)).size + a0_2.size ≤ 9223372036854775807) = true := decide_eq_true c27
                  try have c27b2 : (9223372036854775807 < (x5_1 ++ (⟨#[40]⟩ : ByteArray)).size + a0_2.size) = False := eq_false (Nat.not_lt.2 c27)
                  (try (have c27b3 := Nat.not_lt.2 c27; simp [Go.ByteArray.size_append', Go.ByteArray.size_mk'] at c27b3; have c27b4 := eq_false (Nat.not_lt.2 c27b3)))
                  by_cases c28 : ((x5_1 ++ (⟨#[40]⟩ : ByteArray)) ++ a0_2).size + 1 ≤ 9223372036854775807
                  · rw [if_pos c28] at H
                    have c28b0 := eq_true c28
                    have c28b1 : decide (((x5_1 ++ (⟨#[40]⟩ : ByteArray)) ++ a0_2).size + 1 ≤ 9223372036854775807) = true := decide_eq_true c28
                    try have c28b2 : (9223372036854775807 < ((x5_1 ++ (⟨#[40]⟩ : ByteArray)) ++ a0_2).size + 1) = False := eq_false (Nat.not_lt.2 c28)
                    (try (have c28b3 := Nat.not_lt.2 c28; simp [Go.ByteArray.size_append', Go.ByteArray.size_mk'] at c28b3; have c28b4 := eq_false (Nat.not_lt.2 c28b3)))
                    by_cases c29 : a0_0 = true
                    · subst c29
                      have H1 : (if 1 + (((x5_1 ++ (⟨#[40]⟩ : ByteArray)) ++ a0_2) ++ (⟨#[41]⟩ : ByteArray)).size ≤ 9223372036854775807 then (some ((⟨#[47]⟩ : ByteArray) ++ (((x5_1 ++ (⟨#[40]⟩ : ByteArray)) ++ a0_2) ++ (⟨#[41]⟩ : ByteArray)), 0)) else (none)) = some (r1, r2) := by rw [if_pos rfl] at H; exact H
                      clear H
                      have H := H1
                      clear H1
                      by_cases c30 : 1 + (((x5_1 ++ (⟨#[40]⟩ : ByteArray)) ++ a0_2) ++ (⟨#[41]⟩ : ByteArray)).size ≤ 9223372036854775807
                      · rw [if_pos c30] at H
                        have c30b0 := eq_true c30
                        have c30b1 : decide (1 + (((x5_1 ++ (⟨#[40]⟩ : ByteArray)) ++ a0_2) ++ (⟨#[41]⟩ : ByteArray)).size ≤ 9223372036854775807) = true := decide_eq_true c30
                        try have c30b2 : (9223372036854775807 < 1 + (((x5_1 ++ (⟨#[40]⟩ : ByteArray)) ++ a0_2) ++ (⟨#[41]⟩ : ByteArray)).size) = False := eq_false (Nat.not_lt.2 c30)
                        (try (have c30b3 := Nat.not_lt.2 c30; simp [Go.ByteArray.size_append', Go.ByteArray.size_mk'] at c30b3; have c30b4 := eq_false (Nat.not_lt.2 c30b3)))
                        simp only [Option.some.injEq, Prod.mk.injEq] at H
                        obtain ⟨rfl, rfl⟩ := H
                        have hcz31_0 : wr.cell? ⟨gb157, 0, none⟩ = some (.bool true) := (blk_cell BK157.out 0).trans rfl
                        have hcz31_1 : wr.cell? ⟨gb157, 1, none⟩ = some (.slice A0_1 l0_1.length c0_1) := (blk_cell BK157.out 1).trans rfl
                        have hcz31_2 : wr.cell? ⟨gb157, 2, none⟩ = some (.string a0_2) := (blk_cell BK157.out 2).trans rfl
                        have hfz31_0 := blk_frozen BK157.out 0
                        have hfz31_1 := blk_frozen BK157.out 1
                        have hfz31_2 := blk_frozen BK157.out 2
                        go_wp2
                        go_ret2
                        exact ⟨by first | rfl | (simp [errW_none, errW_some] <;> rfl) | (simp [*, errW_none, errW_some] <;> rfl), by repeat (first | (with_reducible first | exact HB.out | apply below_alloc | apply pw_below_drewN | apply below_drew1 | refine below_set ?_ GE157.out) | exact HB.out)⟩
                      · rw [if_neg c30] at H
                        exact absurd H (by simp)
                    · replace c29 := Bool.eq_false_iff.mpr c29
                      subst c29
                      have H1 : (some (((x5_1 ++ (⟨#[40]⟩ : ByteArray)) ++ a0_2) ++ (⟨#[41]⟩ : ByteArray), 0)) = some (r1, r2) := by rw [if_neg (show ¬ (false = true) by decide)] at H; exact H
                      clear H
                      have H := H1
                      clear H1
                      simp only [Option.some.injEq, Prod.mk.injEq] at H
                      obtain ⟨rfl, rfl⟩ := H
                      have hcz32_0 : wr.cell? ⟨gb157, 0, none⟩ = some (.bool false) := (blk_cell BK157.out 0).trans rfl
                      have hcz32_1 : wr.cell? ⟨gb157, 1, none⟩ = some (.slice A0_1 l0_1.length c0_1) := (blk_cell BK157.out 1).trans rfl
                      have hcz32_2 : wr.cell? ⟨gb157, 2, none⟩ = some (.string a0_2) := (blk_cell BK157.out 2).trans rfl
                      have hfz32_0 := blk_frozen BK157.out 0
                      have hfz32_1 := blk_frozen BK157.out 1
                      have hfz32_2 := blk_frozen BK157.out 2
                      go_wp2
                      go_ret2
                      exact ⟨by first | rfl | (simp [errW_none, errW_some] <;> rfl) | (simp [*, errW_none, errW_some] <;> rfl), by repeat (first | (with_reducible first | exact HB.out | apply below_alloc | apply pw_below_drewN | apply below_drew1 | refine below_set ?_ GE157.out) | exact HB.out)⟩
                  · rw [if_neg c28] at H
                    exact absurd H (by simp)
                · rw [if_neg c27] at H
                  exact absurd H (by simp)
              · rw [if_neg c26] at H
                exact absurd H (by simp)
            · rw [if_neg c25] at H
              have c25b0 : (x5_1.toList == ([] : List UInt8)) = false := beq_eq_false_iff_ne.mpr c25
              have c25b1 : (x5_1.toList != ([] : List UInt8)) = true := bne_iff_ne.mpr c25
              by_cases c33 : x5_1.size + 1 ≤ 9223372036854775807
              · rw [if_pos c33] at H
                have c33b0 := eq_true c33
                have c33b1 : decide (x5_1.size + 1 ≤ 9223372036854775807) = true := decide_eq_true c33
                try have c33b2 : (9223372036854775807 < x5_1.size + 1) = False := eq_false (Nat.not_lt.2 c33)
                (try (have c33b3 := Nat.not_lt.2 c33; simp [Go.ByteArray.size_append', Go.ByteArray.size_mk'] at c33b3; have c33b4 := eq_false (Nat.not_lt.2 c33b3)))
                by_cases c34 : (x5_1 ++ (⟨#[32]⟩ : ByteArray)).size + 1 ≤ 9223372036854775807
                · rw [if_pos c34] at H
                  have c34b0 := eq_true c34
                  have c34b1 : decide ((x5_1 ++ (⟨#[32]⟩ : ByteArray)).size + 1 ≤ 9223372036854775807) = true := decide_eq_true c34
                  try have c34b2 : (9223372036854775807 < (x5_1 ++ (⟨#[32]⟩ : ByteArray)).size + 1) = False := eq_false (Nat.not_lt.2 c34)
                  (try (have c34b3 := Nat.not_lt.2 c34; simp [Go.ByteArray.size_append', Go.ByteArray.size_mk'] at c34b3; have c34b4 := eq_false (Nat.not_lt.2 c34b3)))
                  by_cases c35 : ((x5_1 ++ (⟨#[32]⟩ : ByteArray)) ++ (⟨#[40]⟩ : ByteArray)).size + a0_2.size ≤ 9223372036854775807
                  · rw [if_pos c35] at H
                    have c35b0 := eq_true c35
                    have c35b1 : decide (((x5_1 ++ (⟨#[32]⟩ : ByteArray)) ++ (⟨#[40]⟩ : ByteArray)).size + a0_2.size ≤ 9223372036854775807) = true := decide_eq_true c35
                    try have c35b2 : (9223372036854775807 < ((x5_1 ++ (⟨#[32]⟩ : ByteArray)) ++ (⟨#[40]⟩ : ByteArray)).size + a0_2.size) = False := eq_false (Nat.not_lt.2 c35)
                    (try (have c35b3 := Nat.not_lt.2 c35; simp [Go.ByteArray.size_append', Go.ByteArray.size_mk'] at c35b3; have c35b4 := eq_false (Nat.not_lt.2 c35b3)))
                    by_cases c36 : (((x5_1 ++ (⟨#[32]⟩ : ByteArray)) ++ (⟨#[40]⟩ : ByteArray)) ++ a0_2).size + 1 ≤ 9223372036854775807
                    · rw [if_pos c36] at H
                      have c36b0 := eq_true c36
                      have c36b1 : decide ((((x5_1 ++ (⟨#[32]⟩ : ByteArray)) ++ (⟨#[40]⟩ : ByteArray)) ++ a0_2).size + 1 ≤ 9223372036854775807) = true := decide_eq_true c36
                      try have c36b2 : (9223372036854775807 < (((x5_1 ++ (⟨#[32]⟩ : ByteArray)) ++ (⟨#[40]⟩ : ByteArray)) ++ a0_2).size + 1) = False := eq_false (Nat.not_lt.2 c36)
                      (try (have c36b3 := Nat.not_lt.2 c36; simp [Go.ByteArray.size_append', Go.ByteArray.size_mk'] at c36b3; have c36b4 := eq_false (Nat.not_lt.2 c36b3)))
                      by_cases c37 : a0_0 = true
                      · subst c37
                        have H1 : (if 1 + ((((x5_1 ++ (⟨#[32]⟩ : ByteArray)) ++ (⟨#[40]⟩ : ByteArray)) ++ a0_2) ++ (⟨#[41]⟩ : ByteArray)).size ≤ 9223372036854775807 then (some ((⟨#[47]⟩ : ByteArray) ++ ((((x5_1 ++ (⟨#[32]⟩ : ByteArray)) ++ (⟨#[40]⟩ : ByteArray)) ++ a0_2) ++ (⟨#[41]⟩ : ByteArray)), 0)) else (none)) = some (r1, r2) := by rw [if_pos rfl] at H; exact H
                        clear H
                        have H := H1
                        clear H1
                        by_cases c38 : 1 + ((((x5_1 ++ (⟨#[32]⟩ : ByteArray)) ++ (⟨#[40]⟩ : ByteArray)) ++ a0_2) ++ (⟨#[41]⟩ : ByteArray)).size ≤ 9223372036854775807
                        · rw [if_pos c38] at H
                          have c38b0 := eq_true c38
                          have c38b1 : decide (1 + ((((x5_1 ++ (⟨#[32]⟩ : ByteArray)) ++ (⟨#[40]⟩ : ByteArray)) ++ a0_2) ++ (⟨#[41]⟩ : ByteArray)).size ≤ 9223372036854775807) = true := decide_eq_true c38
                          try have c38b2 : (9223372036854775807 < 1 + ((((x5_1 ++ (⟨#[32]⟩ : ByteArray)) ++ (⟨#[40]⟩ : ByteArray)) ++ a0_2) ++ (⟨#[41]⟩ : ByteArray)).size) = False := eq_false (Nat.not_lt.2 c38)
                          (try (have c38b3 := Nat.not_lt.2 c38; simp [Go.ByteArray.size_append', Go.ByteArray.size_mk'] at c38b3; have c38b4 := eq_false (Nat.not_lt.2 c38b3)))
                          simp only [Option.some.injEq, Prod.mk.injEq] at H
                          obtain ⟨rfl, rfl⟩ := H
                          have hcz39_0 : wr.cell? ⟨gb157, 0, none⟩ = some (.bool true) := (blk_cell BK157.out 0).trans rfl
                          have hcz39_1 : wr.cell? ⟨gb157, 1, none⟩ = some (.slice A0_1 l0_1.length c0_1) := (blk_cell BK157.out 1).trans rfl
                          have hcz39_2 : wr.cell? ⟨gb157, 2, none⟩ = some (.string a0_2) := (blk_cell BK157.out 2).trans rfl
                          have hfz39_0 := blk_frozen BK157.out 0
                          have hfz39_1 := blk_frozen BK157.out 1
                          have hfz39_2 := blk_frozen BK157.out 2
                          go_wp2
                          go_ret2
                          exact ⟨by first | rfl | (simp [errW_none, errW_some] <;> rfl) | (simp [*, errW_none, errW_some] <;> rfl), by repeat (first | (with_reducible first | exact HB.out | apply below_alloc | apply pw_below_drewN | apply below_drew1 | refine below_set ?_ GE157.out) | exact HB.out)⟩
                        · rw [if_neg c38] at H
                          exact absurd H (by simp)
                      · replace c37 := Bool.eq_false_iff.mpr c37
                        subst c37
                        have H1 : (some ((((x5_1 ++ (⟨#[32]⟩ : ByteArray)) ++ (⟨#[40]⟩ : ByteArray)) ++ a0_2) ++ (⟨#[41]⟩ : ByteArray), 0)) = some (r1, r2) := by rw [if_neg (show ¬ (false = true) by decide)] at H; exact H
                        clear H
                        have H := H1
                        clear H1
                        simp only [Option.some.injEq, Prod.mk.injEq] at H
                        obtain ⟨rfl, rfl⟩ := H
                        have hcz40_0 : wr.cell? ⟨gb157, 0, none⟩ = some (.bool false) := (blk_cell BK157.out 0).trans rfl
                        have hcz40_1 : wr.cell? ⟨gb157, 1, none⟩ = some (.slice A0_1 l0_1.length c0_1) := (blk_cell BK157.out 1).trans rfl
                        have hcz40_2 : wr.cell? ⟨gb157, 2, none⟩ = some (.string a0_2) := (blk_cell BK157.out 2).trans rfl
                        have hfz40_0 := blk_frozen BK157.out 0
                        have hfz40_1 := blk_frozen BK157.out 1
                        have hfz40_2 := blk_frozen BK157.out 2
                        go_wp2
                        go_ret2
                        exact ⟨by first | rfl | (simp [errW_none, errW_some] <;> rfl) | (simp [*, errW_none, errW_some] <;> rfl), by repeat (first | (with_reducible first | exact HB.out | apply below_alloc | apply pw_below_drewN | apply below_drew1 | refine below_set ?_ GE157.out) | exact HB.out)⟩
                    · rw [if_neg c36] at H
                      exact absurd H (by simp)
                  · rw [if_neg c35] at H
                    exact absurd H (by simp)
                · rw [if_neg c34] at H
                  exact absurd H (by simp)
              · rw [if_neg c33] at H
                exact absurd H (by simp)
  · rw [if_neg c3] at H
    have c3b0 : (t158 == 0) = false := beq_eq_false_iff_ne.mpr c3
    have c3b1 : (t158 != 0) = true := bne_iff_ne.mpr c3
    simp only [Option.some.injEq, Prod.mk.injEq] at H
    obtain ⟨rfl, rfl⟩ := H
    go_enter Try.func25, Try.ntmps25
    go_wp2_with (first | ((with_reducible refine gate_dst (N := 1) rfl ?_); refine box_event ?hg (N := 1) ?hd (cs := #[.bool a0_0, .slice A0_1 l0_1.length c0_1, .string a0_2]) (t := 54) ?hr ?_; (case hd => rfl); (case hg => rfl); (case hr => first | (go_simp; done) | (go_simp; rfl)); intro gb157 hg w41 hbox hb; have n0_ := Aside0.mk (below_step (by repeat (first | (with_reducible first | exact HB.out | apply below_alloc | apply pw_below_drewN | apply below_drew1) | exact HB.out)) hb); have n1_ := Aside0.mk (hbox); have n2_ := Aside0.mk ((by rw [hg]; exact (below_size (by repeat (first | (with_reducible first | exact HB.out | apply below_alloc | apply pw_below_drewN | apply below_drew1) | exact HB.out))) : w.heap.size ≤ gb157)); have n3_ := Aside0.mk ((by rw [hg]; exact (below_size (by repeat (first | (with_reducible first | exact HB.out | apply below_alloc | apply pw_below_drewN | apply below_drew1) | exact HB.out))) : w.heap.size ≤ gb157)); clear HB; have HB := n0_; have BK157 := n1_; have GW157 := n2_; have GE157 := n3_; clear n0_ n1_ n2_ n3_; clear hb hbox hg; have hcz42_0 : w41.cell? ⟨gb157, 0, none⟩ = some (.bool a0_0) := (blk_cell BK157.out 0).trans rfl; have hcz42_1 : w41.cell? ⟨gb157, 1, none⟩ = some (.slice A0_1 l0_1.length c0_1) := (blk_cell BK157.out 1).trans rfl; have hcz42_2 : w41.cell? ⟨gb157, 2, none⟩ = some (.string a0_2) := (blk_cell BK157.out 2).trans rfl; have hfz42_0 := blk_frozen BK157.out 0; have hfz42_1 := blk_frozen BK157.out 1; have hfz42_2 := blk_frozen BK157.out 2) | ((with_reducible refine gate_callee (f := 34) rfl ?_); refine goesL_ (some 8) rfl rfl Try.func34 (by kernel_rfl) rfl #[.agg #[.bool a0_0, .slice A0_1 l0_1.length c0_1, .string a0_2]] rfl (by (try simp only [List.map_toArray, List.map_cons, List.map_nil]); first | done | rfl | (simp only [List.length_drop, List.length_take]; rfl)) ?_; (with_reducible refine (swarfref41_Valid.calls k a0_0 _ _ l0_1 a0_2 t158 _ ?side1 ?side2 A2.out).mono ?_); (case side1 => repeat (first | exact (Kd.C_below HR0_1.out HB.out) | (with_reducible refine Kd.C_alloc ?_ _) | (with_reducible refine Kd.C_drewN ?_ _) | (with_reducible refine Kd.C_drew ?_))); (case side2 => exact HC0_1.out); rintro e w43 ⟨rfl, hb⟩; refine ⟨_, rfl, ?_⟩; have n0_ := Aside0.mk (blk_below (g := gb157) (o := .cells #[.bool a0_0, .slice A0_1 l0_1.length c0_1, .string a0_2] 54 (0, 0)) (by (with_reducible repeat (first | refine blk_drewN ?_ _ | refine blk_drew ?_ | refine blk_alloc ?_ _)); exact BK157.out) hb); have n1_ := Aside0.mk (below_step (by repeat (first | (with_reducible first | exact HB.out | apply below_alloc | apply pw_below_drewN | apply below_drew1 | refine below_set ?_ GE157.out) | exact HB.out)) hb); clear BK157; clear HB; have BK157 := n0_; have HB := n1_; clear n0_ n1_; (try clear hb); (try clear hb2); (try clear hk); (try clear hi)))
    go_ret2
    exact ⟨by first | rfl | (simp [errW_none, errW_some] <;> rfl) | (simp [*, errW_none, errW_some] <;> rfl), by repeat (first | (with_reducible first | exact HB.out | apply below_alloc | apply pw_below_drewN | apply below_drew1 | refine below_set ?_ GE157.out) | exact HB.out)⟩

end Go.Proofs.Ytmaochcdjmnffaa.P
