import Derived.Test.YtohjocajaanhaaaT5M21
import Derived.Test.YtohjocajaanhaaaT5M25
import Derived.Test.YtohjocajaanhaaaT5M26
import Derived.Test.YtohjocajaanhaaaT5M29
-- PRINTED by print.py (a twelfth state) out of the translation. Not trusted: Lean checks it.

namespace Go.Proofs.Ytohjocajaanhaaa.P
open Go.RowKit Go.Proofs.YtohjocajaanhaaaW.PrintWords Go.Proofs.YtohjocajaanhaaaW.PrintLast Go.Proofs.YtohjocajaanhaaaW.PrintMore
attribute [local go_sem] max2_int min2_int max_two min_two max_three min_three max_four min_four   -- for this text's walks alone
set_option linter.unusedVariables false
set_option linter.unusedSimpArgs false

/-! ### swarfref38_Exact: function 23 -/
def swarfref38_Exact.f (k : Nat) (l0 : List (S31)) : Option (List Int × Int × Int) := (swarfref38_Valid.f k l0 10).bind fun t324 => (if t324 = 0 then (if (l0.length : Int) = 0 then (some (([] : List Int), 0, 0)) else ((swarfref38_search.f k l0 (([0] : List Int)) ([] : List Int)).bind fun t328 => ((swarfref38_way.f k l0 t328).bind fun t331 => (some (t328, t331, 0))))) else (some (([] : List Int), 0, t324)))
theorem swarfref38_Exact.mono : ∀ a0 k, LeO (swarfref38_Exact.f k a0) (swarfref38_Exact.f (k + 1) a0) := by
  intro a0 k
  unfold swarfref38_Exact.f
  repeat' first
      | (with_reducible exact swarfref38_Valid.mono _ _ _)
      | (with_reducible exact swarfref38_search.mono _ _ _ _)
      | (with_reducible exact swarfref38_way.mono _ _ _)
      | (with_reducible exact LeO.refl _)
      | (with_reducible exact LeO.none _)
      | (with_reducible refine LeO.ite ?_ ?_)
      | (with_reducible refine LeO.bind ?_ (fun _ => ?_))
      | exact swarfref38_Valid.mono _ _ _
      | exact swarfref38_search.mono _ _ _ _
      | exact swarfref38_way.mono _ _ _
      | exact LeO.none _
      | refine LeO.ite ?_ ?_
      | refine LeO.bind ?_ (fun _ => ?_)
set_option maxHeartbeats 8000000 in
set_option maxRecDepth 100000 in
theorem swarfref38_Exact.calls (k : Nat) (A0 : Option Addr) (c0 : Nat) (l0 : List (S31)) (r1 : List Int) (r2 : Int) (r3 : Int) (w : World) (hr0 : Kd.C k31 w A0 l0.length l0) (hc0 : l0.length ≤ c0) (h : swarfref38_Exact.f k l0 = some (r1, r2, r3)) :
    Calls Try.prog 23 #[.slice A0 l0.length c0] w fun e w' => ∃ v0_ : Value, e = .returned (.tuple #[v0_, .int .i64 r2, .int .i64 r3]) ∧ Kd.V (Kd.int .i64) 3 w' w.heap.size (fun k_ => (w.heap.size ≤ k_)) v0_ r1 ∧ Below w.heap.size w w' := by
  have HR0 := Aside0.mk hr0
  have HC0 := Aside0.mk hc0
  clear hr0 hc0
  have HB := Aside0.mk (Below.refl w.heap.size w)
  have H : ((swarfref38_Valid.f k l0 10).bind fun t324 => (if t324 = 0 then (if (l0.length : Int) = 0 then (some (([] : List Int), 0, 0)) else ((swarfref38_search.f k l0 (([0] : List Int)) ([] : List Int)).bind fun t328 => ((swarfref38_way.f k l0 t328).bind fun t331 => (some (t328, t331, 0))))) else (some (([] : List Int), 0, t324)))) = some (r1, r2, r3) := h
  clear h
  replace H := Option.bind_eq_some_iff.mp H
  obtain ⟨t324, A20, H⟩ := H
  replace H : (if t324 = 0 then (if (l0.length : Int) = 0 then (some (([] : List Int), 0, 0)) else ((swarfref38_search.f k l0 (([0] : List Int)) ([] : List Int)).bind fun t328 => ((swarfref38_way.f k l0 t328).bind fun t331 => (some (t328, t331, 0))))) else (some (([] : List Int), 0, t324))) = some (r1, r2, r3) := H
  have A2 := Aside0.mk A20
  clear A20
  by_cases c3 : t324 = 0
  · rw [if_pos c3] at H
    have c3b0 : (t324 == 0) = true := beq_iff_eq.mpr c3
    have c3b1 : (t324 != 0) = false := bne_eq_false_iff_eq.mpr c3
    clear c3
    by_cases c4 : (l0.length : Int) = 0
    · rw [if_pos c4] at H
      have c4b0 : ((l0.length : Int) == 0) = true := beq_iff_eq.mpr c4
      have c4b1 : ((l0.length : Int) != 0) = false := bne_eq_false_iff_eq.mpr c4
      clear c4
      simp only [Option.some.injEq, Prod.mk.injEq] at H
      obtain ⟨rfl, rfl, rfl⟩ := H
      go_enter Try.func23, Try.ntmps23
      go_wp2_with (first | ((with_reducible refine gate_callee (f := 31) rfl ?_); refine goesL_ (some 8) rfl rfl Try.func31 (by kernel_rfl) rfl #[.slice A0 l0.length c0, .int .i64 10] rfl (by (try simp only [List.map_toArray, List.map_cons, List.map_nil]); first | done | rfl | (simp only [List.length_drop, List.length_take]; rfl)) ?_; (with_reducible refine (swarfref38_Valid.calls k _ _ l0 10 t324 _ ?side1 ?side2 A2.out).mono ?_); (case side1 => repeat (first | exact HR0.out | (with_reducible refine Kd.C_alloc ?_ _) | (with_reducible refine Kd.C_drewN ?_ _) | (with_reducible refine Kd.C_drew ?_))); (case side2 => exact HC0.out); rintro e w' ⟨rfl, ⟨nd, rfl⟩⟩; refine ⟨_, rfl, ?_⟩))
      go_ret3
      exact ⟨_, by first | rfl | (simp [errW_none, errW_some] <;> rfl) | (simp [*, errW_none, errW_some] <;> rfl), Kd.R_V (base := w.heap.size) (by first | exact Kd.R_nil _ _ _ _ _ | exact Kd.N_nil _ _ _ _ _ | exact Kd.V_nil _ _ _ _ _ | exact Kd.Q_nil _ _ _ _ _ | exact Kd.S_nil _ _ _ _ _), by repeat (first | (with_reducible first | exact HB.out | apply below_alloc | apply pw_below_drewN | apply below_drew1) | exact HB.out)⟩
    · rw [if_neg c4] at H
      have c4b0 : ((l0.length : Int) == 0) = false := beq_eq_false_iff_ne.mpr c4
      have c4b1 : ((l0.length : Int) != 0) = true := bne_iff_ne.mpr c4
      have c4b2 : ¬ (l0 = []) := fun h_ => c4 (by rw [h_]; rfl)
      obtain ⟨y325, hy325⟩ : ∃ y_ : List Int, y_ = (([0] : List Int)) := ⟨_, rfl⟩
      replace H : ((swarfref38_search.f k l0 y325 ([] : List Int)).bind fun t328 => ((swarfref38_way.f k l0 t328).bind fun t331 => (some (t328, t331, 0)))) = some (r1, r2, r3) := by first | (rw [hy325]; with_reducible exact H) | (have H2_ := (Option.bind_some _ _).symm.trans H; rw [hy325]; with_reducible exact H2_) | (have H2_ := (Option.bind_some _ _).symm.trans H; with_reducible exact H2_) | with_reducible exact H | (rw [hy325]; exact H) | exact H
      have Ny325 := Aside0.mk hy325
      clear hy325
      replace H := Option.bind_eq_some_iff.mp H
      obtain ⟨t328, A50, H⟩ := H
      replace H : ((swarfref38_way.f k l0 t328).bind fun t331 => (some (t328, t331, 0))) = some (r1, r2, r3) := H
      have A5 := Aside0.mk A50
      clear A50
      replace H := Option.bind_eq_some_iff.mp H
      obtain ⟨t331, A60, H⟩ := H
      replace H : (some (t328, t331, 0)) = some (r1, r2, r3) := H
      have A6 := Aside0.mk A60
      clear A60
      simp only [Option.some.injEq, Prod.mk.injEq] at H
      obtain ⟨rfl, rfl, rfl⟩ := H
      go_enter Try.func23, Try.ntmps23
      go_wp2_with (first | ((with_reducible refine gate_callee (f := 31) rfl ?_); refine goesL_ (some 8) rfl rfl Try.func31 (by kernel_rfl) rfl #[.slice A0 l0.length c0, .int .i64 10] rfl (by (try simp only [List.map_toArray, List.map_cons, List.map_nil]); first | done | rfl | (simp only [List.length_drop, List.length_take]; rfl)) ?_; (with_reducible refine (swarfref38_Valid.calls k _ _ l0 10 t324 _ ?side1 ?side2 A2.out).mono ?_); (case side1 => repeat (first | exact HR0.out | (with_reducible refine Kd.C_alloc ?_ _) | (with_reducible refine Kd.C_drewN ?_ _) | (with_reducible refine Kd.C_drew ?_))); (case side2 => exact HC0.out); rintro e w' ⟨rfl, ⟨nd, rfl⟩⟩; refine ⟨_, rfl, ?_⟩) | ((with_reducible refine gate_dst (N := 16) rfl ?_); refine Kd.R_lit (Kd.int .i64) _ 3 ?hg (N := 16) ?hd (xs := ([0] : List Int)) (inner := [.int .i64 0]) (ok := fun _ => True) (okp := fun _ => True) ?hr ?hp (fun _ hk => hk) trivial (Below.refl _ _) (Nat.le_refl _) (by simp) ?_; (case hd => rfl); (case hg => rfl); (case hr => first | (go_simp; done) | (go_simp; rfl)); (case hp => exact (Reps.one (show Kd.M (Kd.int .i64) _ _ _ 0 [.int .i64 0] from rfl) (Reps.none _ _))); intro v326 w7 ho8 hb hg_ hnew_; clear hg_ hnew_; (first | rw [← Ny325.out] at ho8 | (simp only [Int.reduceToNat] at ho8; rw [← Ny325.out] at ho8)); have n0_ := Aside0.mk (Kd.R_lower (Kd.R_newM (M := fun k_ => (w.heap.size ≤ k_)) ho8 (below_size (by repeat (first | (with_reducible first | exact HB.out | apply below_alloc | apply pw_below_drewN | apply below_drew1) | exact HB.out))) (fun k_ h_ => h_)) (below_size (by repeat (first | (with_reducible first | exact HB.out | apply below_alloc | apply pw_below_drewN | apply below_drew1) | exact HB.out)))); have n1_ := Aside0.mk (below_step (by repeat (first | (with_reducible first | exact HB.out | apply below_alloc | apply pw_below_drewN | apply below_drew1) | exact HB.out)) hb); clear HB; have HO327 := n0_; have HB := n1_; clear n0_ n1_; clear hb ho8; obtain ⟨Ao9, co9, eo9⟩ := Kd.R_slice HO327.out; subst eo9) | ((with_reducible refine gate_callee (f := 39) rfl ?_); refine goesL_ (some 17) rfl rfl Try.func39 (by kernel_rfl) rfl #[.slice A0 l0.length c0, .slice Ao9 y325.length co9, .slice none 0 0] rfl (by (try simp only [List.map_toArray, List.map_cons, List.map_nil]); first | done | rfl | (simp only [List.length_drop, List.length_take]; rfl)) ?_; (refine (swarfref38_search.calls k _ _ l0 _ _ y325 (fun k_ => False) _ _ ([] : List Int) t328 _ ?side1 ?side2 ?side3 ?side4 ?side5 A5.out).mono ?_); (case side1 => repeat (first | exact (Kd.C_below HR0.out HB.out) | (with_reducible refine Kd.C_alloc ?_ _) | (with_reducible refine Kd.C_drewN ?_ _) | (with_reducible refine Kd.C_drew ?_))); (case side2 => exact HC0.out); (case side3 => repeat (first | exact (Kd.R_reads' HO327.out).2.2 | (with_reducible refine Kd.C_alloc ?_ _) | (with_reducible refine Kd.C_drewN ?_ _) | (with_reducible refine Kd.C_drew ?_))); (case side4 => exact (Kd.R_reads' HO327.out).2.1); (case side5 => exact Kd.V_nil _ _ _ _ _); rintro e w10 ⟨v329, rfl, ho0, hb⟩; refine ⟨_, rfl, ?_⟩; have n0_ := Aside0.mk (Kd.R_below (by (with_reducible repeat (first | apply Kd.R_alloc | apply Kd.R_drewN | apply Kd.R_drew)); exact HO327.out) hb); have n1_ := Aside0.mk (Kd.V_lower (Kd.V_mono (ok' := fun k_ => (w.heap.size ≤ k_) ∧ some k_ ≠ (.slice Ao9 y325.length co9 : Value).ownBlock) ho0 (fun k_ hk_ => ⟨Or.elim hk_ (fun hs_ => (hs_).elim) (fun hn_ => (Nat.le_trans (below_size (by repeat (first | (with_reducible first | exact HB.out | apply below_alloc | apply pw_below_drewN | apply below_drew1) | exact HB.out))) hn_)), Or.elim hk_ (fun hs_ => (hs_).elim) (fun hn_ => (Kd.fresh' (Kd.R_lt (by (with_reducible repeat (first | apply Kd.R_alloc | apply Kd.R_drewN | apply Kd.R_drew)); exact HO327.out)) k_ hn_))⟩)) (below_size (by repeat (first | (with_reducible first | exact HB.out | apply below_alloc | apply pw_below_drewN | apply below_drew1) | exact HB.out)))); have n2_ := Aside0.mk (below_step (by repeat (first | (with_reducible first | exact HB.out | apply below_alloc | apply pw_below_drewN | apply below_drew1) | exact HB.out)) hb); clear HO327; clear HB; have HO327 := n0_; have HO330 := n1_; have HB := n2_; clear n0_ n1_ n2_; (try clear hb); (try clear hb2); (try clear hk); (try clear hi); (try clear ho0); obtain ⟨Ao11, co11, eo11⟩ := Kd.V_slice HO330.out; subst eo11) | ((with_reducible refine gate_callee (f := 33) rfl ?_); refine goesL_ (some 21) rfl rfl Try.func33 (by kernel_rfl) rfl #[.slice A0 l0.length c0, .slice Ao11 t328.length co11] rfl (by (try simp only [List.map_toArray, List.map_cons, List.map_nil]); first | done | rfl | (simp only [List.length_drop, List.length_take]; rfl)) ?_; (with_reducible refine (swarfref38_way.calls k _ _ l0 _ _ t328 t331 _ ?side1 ?side2 ?side3 ?side4 A6.out).mono ?_); (case side1 => repeat (first | exact (Kd.C_below HR0.out HB.out) | (with_reducible refine Kd.C_alloc ?_ _) | (with_reducible refine Kd.C_drewN ?_ _) | (with_reducible refine Kd.C_drew ?_))); (case side2 => exact HC0.out); (case side3 => repeat (first | exact (Kd.V_reads' HO330.out).2.2 | (with_reducible refine Kd.C_alloc ?_ _) | (with_reducible refine Kd.C_drewN ?_ _) | (with_reducible refine Kd.C_drew ?_))); (case side4 => exact (Kd.V_reads' HO330.out).2.1); rintro e w12 ⟨rfl, hb⟩; refine ⟨_, rfl, ?_⟩; have n0_ := Aside0.mk (Kd.R_below (by (with_reducible repeat (first | apply Kd.R_alloc | apply Kd.R_drewN | apply Kd.R_drew)); exact HO327.out) hb); have n1_ := Aside0.mk (Kd.V_below (by (with_reducible repeat (first | apply Kd.V_alloc | apply Kd.V_drewN | apply Kd.V_drew)); exact HO330.out) hb); have n2_ := Aside0.mk (below_step (by repeat (first | (with_reducible first | exact HB.out | apply below_alloc | apply pw_below_drewN | apply below_drew1) | exact HB.out)) hb); clear HO327; clear HO330; clear HB; have HO327 := n0_; have HO330 := n1_; have HB := n2_; clear n0_ n1_ n2_; (try clear hb); (try clear hb2); (try clear hk); (try clear hi)))
      go_ret3
      exact ⟨_, by first | rfl | (simp [errW_none, errW_some] <;> rfl) | (simp [*, errW_none, errW_some] <;> rfl), by (with_reducible repeat (first | apply Kd.V_alloc | apply Kd.V_drewN | apply Kd.V_drew)); exact Kd.V_mono HO330.out (fun _ hk => hk.1), by repeat (first | (with_reducible first | exact HB.out | apply below_alloc | apply pw_below_drewN | apply below_drew1) | exact HB.out)⟩
  · rw [if_neg c3] at H
    have c3b0 : (t324 == 0) = false := beq_eq_false_iff_ne.mpr c3
    have c3b1 : (t324 != 0) = true := bne_iff_ne.mpr c3
    simp only [Option.some.injEq, Prod.mk.injEq] at H
    obtain ⟨rfl, rfl, rfl⟩ := H
    go_enter Try.func23, Try.ntmps23
    go_wp2_with (first | ((with_reducible refine gate_callee (f := 31) rfl ?_); refine goesL_ (some 8) rfl rfl Try.func31 (by kernel_rfl) rfl #[.slice A0 l0.length c0, .int .i64 10] rfl (by (try simp only [List.map_toArray, List.map_cons, List.map_nil]); first | done | rfl | (simp only [List.length_drop, List.length_take]; rfl)) ?_; (with_reducible refine (swarfref38_Valid.calls k _ _ l0 10 t324 _ ?side1 ?side2 A2.out).mono ?_); (case side1 => repeat (first | exact HR0.out | (with_reducible refine Kd.C_alloc ?_ _) | (with_reducible refine Kd.C_drewN ?_ _) | (with_reducible refine Kd.C_drew ?_))); (case side2 => exact HC0.out); rintro e w' ⟨rfl, ⟨nd, rfl⟩⟩; refine ⟨_, rfl, ?_⟩))
    go_ret3
    exact ⟨_, by first | rfl | (simp [errW_none, errW_some] <;> rfl) | (simp [*, errW_none, errW_some] <;> rfl), Kd.R_V (base := w.heap.size) (by first | exact Kd.R_nil _ _ _ _ _ | exact Kd.N_nil _ _ _ _ _ | exact Kd.V_nil _ _ _ _ _ | exact Kd.Q_nil _ _ _ _ _ | exact Kd.S_nil _ _ _ _ _), by repeat (first | (with_reducible first | exact HB.out | apply below_alloc | apply pw_below_drewN | apply below_drew1) | exact HB.out)⟩

end Go.Proofs.Ytohjocajaanhaaa.P

/- What Exact answers, in the program and in the reference: the first shortest order. Plain numbers and lists. -/

namespace Go.Proofs.Ytohjocajaanhaaa.B
open Go.RowKit Go.Proofs.Ytohjocajaanhaaa.P Go.Proofs.YtohjocajaanhaaaW.PrintWords Go.Proofs.YtohjocajaanhaaaW.PrintLast Go.Proofs.YtohjocajaanhaaaW.PrintMore
set_option linter.unusedVariables false
set_option linter.unusedSimpArgs false

theorem wy_snoc (l : List S31) (i : Int) : ∀ o : List Int, ¬ o = [] → wy l (o ++ [i]) = wy l o + dst (rd_T31 l (rd o ((o.length : Int) - 1))) (rd_T31 l i)
  | [], h => absurd rfl h
  | [a], _ => by simp [wy, rd]
  | a :: b :: t, _ => by
    have ih := wy_snoc l i (b :: t) (by simp)
    have e : rd (a :: b :: t) (((a :: b :: t).length : Int) - 1) = rd (b :: t) (((b :: t).length : Int) - 1) := by
      unfold rd
      have h1 : (((a :: b :: t).length : Int) - 1).toNat = t.length + 1 := by simp only [List.length_cons]; omega
      have h2 : (((b :: t).length : Int) - 1).toNat = t.length := by simp only [List.length_cons]; omega
      rw [h1, h2]; rfl
    rw [e]
    show dst (rd_T31 l a) (rd_T31 l b) + wy l (b :: t ++ [i]) = dst (rd_T31 l a) (rd_T31 l b) + wy l (b :: t) + _
    rw [ih]
    omega
theorem wy_le (l : List S31) (hv : l.all okp = true) : ∀ o : List Int, (∀ x ∈ o, 0 ≤ x ∧ x < (l.length : Int)) → wy l o ≤ 20000000 * (o.length : Int)
  | [], _ => by simp [wy]
  | [a], _ => by simp [wy]
  | a :: b :: t, h => by
    have ih := wy_le l hv (b :: t) (fun x hx => h x (List.mem_cons_of_mem _ hx))
    have h1 := h a List.mem_cons_self
    have h2 := h b (List.mem_cons_of_mem _ List.mem_cons_self)
    have := dst_le (ok_at hv a h1.1 h1.2) (ok_at hv b h2.1 h2.2)
    simp only [wy, List.length_cons] at ih ⊢
    omega
theorem wy_grow (l : List S31) (o : List Int) (ho : ¬ o = []) (i : Int) : wy l o ≤ wy l (o ++ [i]) := by
  rw [wy_snoc l i o ho]
  have := dst_nonneg (rd_T31 l (rd o ((o.length : Int) - 1))) (rd_T31 l i)
  omega
/-- The search through all orders that begin with o. -/
def srch (l : List S31) : Nat → List Int → List Int → List Int
  | 0, o, best => if best = [] ∨ wy l o < wy l best then o else best
  | d + 1, o, best => (List.range l.length).foldl (fun bst (i : Nat) => if (i : Int) ∈ o then bst else srch l d (o ++ [(i : Int)]) bst) best
theorem srch_prune (l : List S31) (d : Nat) : ∀ (o best : List Int), ¬ o = [] → ¬ best = [] → wy l best ≤ wy l o → srch l d o best = best := by
  induction d with
  | zero =>
    intro o best _ hb hw
    unfold srch
    rw [if_neg (fun h => h.elim hb (fun h => by omega))]
  | succ d ih =>
    intro o best ho hb hw
    unfold srch
    have : ∀ is : List Nat, is.foldl (fun bst (i : Nat) => if (i : Int) ∈ o then bst else srch l d (o ++ [(i : Int)]) bst) best = best := by
      intro is
      induction is with
      | nil => rfl
      | cons i is ihs =>
        rw [List.foldl_cons]
        by_cases hi : (i : Int) ∈ o
        · rw [if_pos hi]; exact ihs
        · rw [if_neg hi, ih (o ++ [(i : Int)]) best (by simp) hb (Int.le_trans hw (wy_grow l o ho _))]
          exact ihs
    exact this _
/-- q goes on with o to an order of all. -/
def Compl (l : List S31) (o q : List Int) : Prop := (∃ t, q = o ++ t) ∧ q.length = l.length ∧ q.Nodup ∧ ∀ x ∈ q, 0 ≤ x ∧ x < (l.length : Int)
theorem Compl.less {l : List S31} {o q : List Int} {i : Int} (h : Compl l (o ++ [i]) q) : Compl l o q := by
  obtain ⟨⟨t, ht⟩, h2⟩ := h
  exact ⟨⟨i :: t, by rw [ht]; simp⟩, h2⟩
theorem srch_spec (l : List S31) (d : Nat) : ∀ (o best : List Int), o.length + d = l.length → ¬ o = [] → o.Nodup → (∀ x ∈ o, 0 ≤ x ∧ x < (l.length : Int)) →
    (srch l d o best = best ∨ Compl l o (srch l d o best)) ∧ (¬ best = [] → ¬ srch l d o best = [] ∧ wy l (srch l d o best) ≤ wy l best) ∧ (∀ q, Compl l o q → ¬ srch l d o best = [] ∧ wy l (srch l d o best) ≤ wy l q) := by
  induction d with
  | zero =>
    intro o best hl ho hd hr
    unfold srch
    have hq : ∀ q, Compl l o q → q = o := by
      rintro q ⟨⟨t, ht⟩, h2, _⟩
      have : t = [] := by
        have := congrArg List.length ht
        rw [List.length_append] at this
        exact List.eq_nil_of_length_eq_zero (by omega)
      rw [ht, this, List.append_nil]
    by_cases h : best = [] ∨ wy l o < wy l best
    · rw [if_pos h]
      refine ⟨.inr ⟨⟨[], by simp⟩, by omega, hd, hr⟩, fun hb => ⟨ho, by have := h.resolve_left hb; omega⟩, fun q hc => ⟨ho, by rw [hq q hc]; exact Int.le_refl _⟩⟩
    · rw [if_neg h]
      have h1 := not_or.1 h
      refine ⟨.inl rfl, fun hb => ⟨hb, Int.le_refl _⟩, fun q hc => ⟨h1.1, by rw [hq q hc]; omega⟩⟩
  | succ d ih =>
    intro o best hl ho hd hr
    unfold srch
    have main : ∀ (is : List Nat) (best : List Int), (∀ i ∈ is, i < l.length) →
        ((is.foldl (fun bst (i : Nat) => if (i : Int) ∈ o then bst else srch l d (o ++ [(i : Int)]) bst) best = best ∨ Compl l o (is.foldl (fun bst (i : Nat) => if (i : Int) ∈ o then bst else srch l d (o ++ [(i : Int)]) bst) best)) ∧
        (¬ best = [] → ¬ is.foldl (fun bst (i : Nat) => if (i : Int) ∈ o then bst else srch l d (o ++ [(i : Int)]) bst) best = [] ∧ wy l (is.foldl (fun bst (i : Nat) => if (i : Int) ∈ o then bst else srch l d (o ++ [(i : Int)]) bst) best) ≤ wy l best) ∧
        (∀ q, (∃ i ∈ is, ¬ (i : Int) ∈ o ∧ Compl l (o ++ [(i : Int)]) q) → ¬ is.foldl (fun bst (i : Nat) => if (i : Int) ∈ o then bst else srch l d (o ++ [(i : Int)]) bst) best = [] ∧ wy l (is.foldl (fun bst (i : Nat) => if (i : Int) ∈ o then bst else srch l d (o ++ [(i : Int)]) bst) best) ≤ wy l q)) := by
      intro is
      induction is with
      | nil => intro best _; exact ⟨.inl rfl, fun hb => ⟨hb, Int.le_refl _⟩, fun q h => by obtain ⟨i, hi, _⟩ := h; cases hi⟩
      | cons i is ihs =>
        intro best hi
        have hrest := fun b => ihs b (fun x hx => hi x (List.mem_cons_of_mem _ hx))
        rw [List.foldl_cons]
        by_cases hin : (i : Int) ∈ o
        · rw [if_pos hin]
          obtain ⟨a, b, c⟩ := hrest best
          refine ⟨a, b, fun q hq => ?_⟩
          obtain ⟨i', hi', hn, hc⟩ := hq
          rcases List.mem_cons.1 hi' with rfl | hi'
          · exact absurd hin hn
          · exact c q ⟨i', hi', hn, hc⟩
        · rw [if_neg hin]
          have hil := hi i List.mem_cons_self
          obtain ⟨a1, b1, c1⟩ := ih (o ++ [(i : Int)]) best (by simp; omega) (by simp) (by
              rw [List.nodup_append]
              refine ⟨hd, by simp, fun x hx y hy => ?_⟩
              rw [List.mem_singleton] at hy
              rintro rfl
              exact hin (by rw [← hy]; exact hx)) (fun x hx => by
              rcases List.mem_append.1 hx with hx | hx
              · exact hr x hx
              · rw [List.mem_singleton] at hx; omega)
          obtain ⟨a, b, c⟩ := hrest (srch l d (o ++ [(i : Int)]) best)
          refine ⟨?_, fun hb => ?_, fun q hq => ?_⟩
          · rcases a with a | a
            · rw [a]
              rcases a1 with a1 | a1
              · exact .inl a1
              · exact .inr a1.less
            · exact .inr a
          · obtain ⟨h1, h2⟩ := b1 hb
            obtain ⟨h3, h4⟩ := b h1
            exact ⟨h3, Int.le_trans h4 h2⟩
          · obtain ⟨i', hi', hn, hc⟩ := hq
            rcases List.mem_cons.1 hi' with rfl | hi'
            · obtain ⟨h1, h2⟩ := c1 q hc
              obtain ⟨h3, h4⟩ := b h1
              exact ⟨h3, Int.le_trans h4 h2⟩
            · exact c q ⟨i', hi', hn, hc⟩
    obtain ⟨a, b, c⟩ := main (List.range l.length) best (fun i hi => List.mem_range.1 hi)
    refine ⟨a, b, fun q hq => c q ?_⟩
    obtain ⟨⟨t, ht⟩, h2, h3, h4⟩ := hq
    cases t with
    | nil => rw [List.append_nil] at ht; rw [ht] at h2; omega
    | cons y t =>
      have hy := h4 y (by rw [ht]; simp)
      refine ⟨y.toNat, List.mem_range.2 (by omega), ?_, ?_⟩
      · have e : ((y.toNat : Nat) : Int) = y := by omega
        rw [e]
        intro hyo
        rw [ht, List.nodup_append] at h3
        exact h3.2.2 y hyo y List.mem_cons_self rfl
      · have e : ((y.toNat : Nat) : Int) = y := by omega
        rw [e]
        exact ⟨⟨t, by rw [ht]; simp⟩, h2, h3, h4⟩
theorem range_drop (n j : Nat) (h : j < n) : (List.range n).drop j = j :: (List.range n).drop (j + 1) := by
  rw [List.drop_eq_getElem_cons (by simpa using h)]
  simp
/-- A best order so far. -/
def OKb (l : List S31) (b : List Int) : Prop := (∀ x ∈ b, 0 ≤ x ∧ x < (l.length : Int)) ∧ b.length ≤ l.length
theorem srch_ok (l : List S31) (d : Nat) : ∀ (o best : List Int), o.length + d = l.length → (∀ x ∈ o, 0 ≤ x ∧ x < (l.length : Int)) → OKb l best → OKb l (srch l d o best) := by
  induction d with
  | zero =>
    intro o best hl hr hb
    unfold srch
    split
    · exact ⟨hr, by omega⟩
    · exact hb
  | succ d ih =>
    intro o best hl hr hb
    unfold srch
    have : ∀ (is : List Nat) (b : List Int), (∀ i ∈ is, i < l.length) → OKb l b → OKb l (is.foldl (fun bst (i : Nat) => if (i : Int) ∈ o then bst else srch l d (o ++ [(i : Int)]) bst) b) := by
      intro is
      induction is with
      | nil => intro b _ h; exact h
      | cons i is ihs =>
        intro b hi h
        rw [List.foldl_cons]
        refine ihs _ (fun x hx => hi x (List.mem_cons_of_mem _ hx)) ?_
        have hil := hi i List.mem_cons_self
        by_cases hin : (i : Int) ∈ o
        · rw [if_pos hin]; exact h
        · rw [if_neg hin]
          exact ih _ _ (by simp; omega) (fun x hx => by
            rcases List.mem_append.1 hx with hx | hx
            · exact hr x hx
            · rw [List.mem_singleton] at hx; omega) h
    exact this _ _ (fun i hi => List.mem_range.1 hi) hb
/-! ### The reference -/
theorem rsearch_ev (l : List S31) (hv : l.all okp = true) (hn : l.length ≤ 500) (d : Nat) : ∀ (o best : List Int), o.length + d = l.length → (∀ x ∈ o, 0 ≤ x ∧ x < (l.length : Int)) → OKb l best → Ev (fun k => swarfref38_search.f k l o best) (srch l d o best) := by
  induction d with
  | zero =>
    intro o best hl hr hb
    have e0 : ∀ k, swarfref38_search.f (k + 1) l o best = if (best.length : Int) = 0 then some o else ((swarfref38_way.f k l o).bind fun t => ((swarfref38_way.f k l best).bind fun u => if t < u then some o else some best)) := by
      intro k
      simp only [swarfref38_search.f]
      rw [if_pos (by omega)]
      have hA : o.length < 17592186044416 := by omega
      simp only [Option.bind_some, List.length_nil, List.nil_append, Nat.zero_add, if_pos hA]
    unfold srch
    by_cases hb0 : best = []
    · rw [if_pos (.inl hb0)]
      exact ev_end (fun k => by rw [e0 k, if_pos (by rw [hb0]; rfl)])
    · have hlb : ¬ (best.length : Int) = 0 := fun h => hb0 (List.eq_nil_of_length_eq_zero (by omega))
      refine Ev.step (fun k => by rw [e0 k, if_neg hlb]) (Ev.bind (length_ev l hv o (by omega) hr).2 (Ev.bind (length_ev l hv best (by have := hb.2; omega) hb.1).2 ?_))
      by_cases hlt : wy l o < wy l best
      · simp only [if_pos hlt, if_pos (show best = [] ∨ wy l o < wy l best from .inr hlt)]; exact Ev.now _
      · simp only [if_neg hlt, if_neg (show ¬ (best = [] ∨ wy l o < wy l best) from fun h => h.elim hb0 hlt)]; exact Ev.now _
  | succ d ih =>
    intro o best hl hr hb
    have loop : ∀ (e j : Nat) (bst : List Int), j + e = l.length → OKb l bst → Ev (fun k => swarfref38_search.l0 k l o bst (j : Int)) (((List.range l.length).drop j).foldl (fun bst (i : Nat) => if (i : Int) ∈ o then bst else srch l d (o ++ [(i : Int)]) bst) bst) := by
      intro e
      induction e with
      | zero =>
        intro j bst hj _
        rw [List.drop_eq_nil_of_le (by simp; omega)]
        exact ev_end (fun k => by simp only [swarfref38_search.l0]; rw [if_neg (by omega)]; rfl)
      | succ e ihe =>
        intro j bst hj hbst
        have hwj : wrap64 ((j : Int) + 1) = ((j + 1 : Nat) : Int) := by rw [wrap_mid _ (by omega) (by omega)]; omega
        rw [range_drop _ _ (by omega), List.foldl_cons]
        refine Ev.step (f := fun k => (swarfref38_has.f k o (j : Int)).bind fun t => if t = true then swarfref38_search.l0 k l o bst ((j + 1 : Nat) : Int) else ((swarfref38_search.f k l (o ++ [(j : Int)]) bst).bind fun b2 => swarfref38_search.l0 k l o b2 ((j + 1 : Nat) : Int))) (fun k => ?_) ?_
        · simp only [swarfref38_search.l0]
          rw [if_pos (by omega), hwj]
          have hA : o.length < 17592186044416 := by omega
          simp only [Option.bind_some, List.length_nil, List.nil_append, Nat.zero_add, if_pos hA]
        · refine Ev.bind (has_ev o (by omega) (j : Int)) ?_
          by_cases hin : (j : Int) ∈ o
          · simp only [decide_eq_true hin, if_true, if_pos hin]
            exact ihe (j + 1) bst (by omega) hbst
          · simp only [decide_eq_false hin, Bool.false_eq_true, if_false, if_neg hin]
            have hro : ∀ x ∈ o ++ [(j : Int)], 0 ≤ x ∧ x < (l.length : Int) := fun x hx => by
              rcases List.mem_append.1 hx with hx | hx
              · exact hr x hx
              · rw [List.mem_singleton] at hx; omega
            refine Ev.bind (ih (o ++ [(j : Int)]) bst (by simp; omega) hro hbst) ?_
            exact ihe (j + 1) _ (by omega) (srch_ok l d _ _ (by simp; omega) hro hbst)
    refine Ev.step (f := fun k => swarfref38_search.l0 k l o best ((0 : Nat) : Int)) (fun k => ?_) ?_
    · simp only [swarfref38_search.f]
      rw [if_neg (by omega)]
      rfl
    · have := loop l.length 0 best (by omega) hb
      rw [List.drop_zero] at this
      exact this
/-! ### The program -/
theorem index_l0 (o : List Int) (hl : o.length ≤ 1000) (x : Int) (d : Nat) : ∀ j : Nat, j + d = o.length → EvP (fun k => slices_Index_int_int.l0 k o x (o.length : Int) (j : Int)) (fun r => (0 ≤ r) ↔ x ∈ o.drop j) := by
  induction d with
  | zero =>
    intro j hj
    rw [List.drop_eq_nil_of_le (by omega)]
    exact EvP.stop (-1) (fun k => by simp only [slices_Index_int_int.l0]; rw [if_neg (by omega)]) ⟨fun h => by omega, fun h => by cases h⟩
  | succ d ih =>
    intro j hj
    have hw : wrap64 ((j : Int) + 1) = ((j + 1 : Nat) : Int) := by rw [wrap_mid _ (by omega) (by omega)]; omega
    rw [drop_rd o j (by omega)]
    by_cases h : x = rd o (j : Int)
    · exact EvP.stop (j : Int) (fun k => by simp only [slices_Index_int_int.l0]; rw [if_pos (by omega), if_pos (by omega), if_pos (by omega), if_pos h]) ⟨fun _ => by rw [h]; exact List.mem_cons_self, fun _ => by omega⟩
    · obtain ⟨r, h1, h2⟩ := ih (j + 1) (by omega)
      refine ⟨r, Ev.step (fun k => ?_) h1, ?_⟩
      · simp only [slices_Index_int_int.l0]
        rw [if_pos (by omega), if_pos (by omega), if_pos (by omega), if_neg h, hw]
      · show 0 ≤ r ↔ _
        rw [h2, List.mem_cons]
        exact ⟨fun h => .inr h, fun h' => h'.resolve_left h⟩
theorem contains_ev (o : List Int) (hl : o.length ≤ 1000) (x : Int) : Ev (fun k => slices_Contains_int_int.f k o x) (decide (x ∈ o)) := by
  unfold slices_Contains_int_int.f
  obtain ⟨r, h1, h2⟩ := index_l0 o hl x o.length 0 (by omega)
  rw [List.drop_zero] at h2
  refine Ev.bind h1 ?_
  have : decide (r ≥ 0) = decide (x ∈ o) := by
    by_cases h : x ∈ o
    · rw [decide_eq_true h, decide_eq_true (h2.2 h)]
    · rw [decide_eq_false h, decide_eq_false (fun hr => h (h2.1 hr))]
  rw [this]
  exact Ev.now _
theorem ext_ev (l : List S31) (hv : l.all okp = true) (hn : l.length ≤ 500) (d : Nat) : ∀ (o b : List Int) (m : Int), o.length + d = l.length → ¬ o = [] → (∀ x ∈ o, 0 ≤ x ∧ x < (l.length : Int)) → OKb l b → (¬ b = [] → m = wy l b) →
    EvP (fun k => tour_ext.f k l o (wy l o) b m) (fun r => r.1 = srch l d o b ∧ (¬ r.1 = [] → r.2 = wy l r.1)) := by
  induction d with
  | zero =>
    intro o b m hl ho hr hb hm
    have h1 : 1 ≤ o.length := List.length_pos_iff.2 ho
    by_cases pr : ¬ b = [] ∧ m ≤ wy l o
    · refine EvP.stop (b, m) (fun k => ?_) ⟨(srch_prune l 0 o b ho pr.1 (by rw [← hm pr.1]; exact pr.2)).symm, hm⟩
      simp only [tour_ext.f]
      rw [if_pos h1, if_pos (by omega), if_pos pr]
    · refine EvP.stop (o, wy l o) (fun k => ?_) ⟨?_, fun _ => rfl⟩
      · simp only [tour_ext.f]
        rw [if_pos h1, if_pos (by omega), if_neg pr, if_pos (by omega)]
      · unfold srch
        rw [if_pos]
        by_cases hb0 : b = []
        · exact .inl hb0
        · right
          have e := hm hb0
          have h2 : ¬ m ≤ wy l o := fun h => pr ⟨hb0, h⟩
          omega
  | succ d ih =>
    intro o b m hl ho hr hb hm
    have h1 : 1 ≤ o.length := List.length_pos_iff.2 ho
    by_cases pr : ¬ b = [] ∧ m ≤ wy l o
    · refine EvP.stop (b, m) (fun k => ?_) ⟨(srch_prune l (d + 1) o b ho pr.1 (by rw [← hm pr.1]; exact pr.2)).symm, hm⟩
      simp only [tour_ext.f]
      rw [if_pos h1, if_pos (by omega), if_pos pr]
    · have loop : ∀ (e j : Nat) (bst : List Int) (mm : Int), j + e = l.length → OKb l bst → (¬ bst = [] → mm = wy l bst) →
          EvP (fun k => tour_ext.l0 k l o (wy l o) bst mm (j : Int)) (fun r => r.1 = ((List.range l.length).drop j).foldl (fun bst (i : Nat) => if (i : Int) ∈ o then bst else srch l d (o ++ [(i : Int)]) bst) bst ∧ (¬ r.1 = [] → r.2 = wy l r.1)) := by
        intro e
        induction e with
        | zero =>
          intro j bst mm hj hbst hmm
          rw [List.drop_eq_nil_of_le (by simp; omega)]
          exact EvP.stop (bst, mm) (fun k => by simp only [tour_ext.l0]; rw [if_neg (by omega)]) ⟨rfl, hmm⟩
        | succ e ihe =>
          intro j bst mm hj hbst hmm
          have hwj : wrap64 ((j : Int) + 1) = ((j + 1 : Nat) : Int) := by rw [wrap_mid _ (by omega) (by omega)]; omega
          have hla := hr _ (rd_mem (o := o) (i := (o.length : Int) - 1) (by omega) (by omega))
          have kl := ok_at hv _ hla.1 hla.2
          have kj := ok_at hv (j : Int) (by omega) (by omega)
          have hwd : wrap64 (wy l o + dst (rd_T31 l (rd o ((o.length : Int) - 1))) (rd_T31 l (j : Int))) = wy l (o ++ [(j : Int)]) := by
            rw [wy_snoc l (j : Int) o ho]
            have := wy_nonneg l o
            have := wy_le l hv o hr
            have := dst_nonneg (rd_T31 l (rd o ((o.length : Int) - 1))) (rd_T31 l (j : Int))
            have := dst_le kl kj
            exact wrap_mid _ (by omega) (by omega)
          rw [range_drop _ _ (by omega), List.foldl_cons]
          refine EvP.step (f := fun k => (slices_Contains_int_int.f k o (j : Int)).bind fun t => if t = true then tour_ext.l0 k l o (wy l o) bst mm ((j + 1 : Nat) : Int) else ((tour_ext.f k l (o ++ [(j : Int)]) (wy l (o ++ [(j : Int)])) bst mm).bind fun b2 => tour_ext.l0 k l o (wy l o) b2.1 b2.2 ((j + 1 : Nat) : Int))) (fun k => ?_) ?_
          · simp only [tour_ext.l0]
            rw [if_pos (by omega), if_pos (by omega), hwj, if_pos hla.1, if_pos hla.2, dist_eq kl kj]
            simp only [Option.bind_some]
            rw [hwd]
          · refine EvP.bind (contains_ev o (by omega) (j : Int)) ?_
            by_cases hin : (j : Int) ∈ o
            · simp only [decide_eq_true hin, if_true, if_pos hin]
              exact ihe (j + 1) bst mm (by omega) hbst hmm
            · simp only [decide_eq_false hin, Bool.false_eq_true, if_false, if_neg hin]
              have hro : ∀ x ∈ o ++ [(j : Int)], 0 ≤ x ∧ x < (l.length : Int) := fun x hx => by
                rcases List.mem_append.1 hx with hx | hx
                · exact hr x hx
                · rw [List.mem_singleton] at hx; omega
              refine EvP.bindP (ih (o ++ [(j : Int)]) bst mm (by simp; omega) (by simp) hro hbst hmm) (fun b2 hb2 => ?_)
              have := ihe (j + 1) b2.1 b2.2 (by omega) (by rw [hb2.1]; exact srch_ok l d _ _ (by simp; omega) hro hbst) hb2.2
              rw [hb2.1] at this
              rw [← hb2.1] at this ⊢
              exact this
      refine EvP.step (f := fun k => tour_ext.l0 k l o (wy l o) b m ((0 : Nat) : Int)) (fun k => ?_) ?_
      · simp only [tour_ext.f]
        rw [if_pos h1, if_pos (by omega), if_neg pr, if_neg (by omega)]
        rfl
      · have := loop l.length 0 b m (by omega) hb hm
        rw [List.drop_zero] at this
        exact this
theorem compl_range (l : List S31) (h : 1 ≤ l.length) : Compl l [0] ((List.range l.length).map (fun i : Nat => (i : Int))) := by
  refine ⟨⟨((List.range l.length).drop 1).map (fun i : Nat => (i : Int)), ?_⟩, by simp, ?_, fun x hx => ?_⟩
  · have := range_drop l.length 0 (by omega)
    rw [List.drop_zero] at this
    conv => lhs; rw [this]
    rfl
  · exact List.Pairwise.map _ (fun a b (hab : a ≠ b) => by omega) List.nodup_range
  · obtain ⟨i, hi, rfl⟩ := List.mem_map.1 hx
    have := List.mem_range.1 hi
    omega
/-- The order that Exact finds. -/
def exactO (l : List S31) : List Int := srch l (l.length - 1) [0] []
theorem exact_spec (l : List S31) (h : 1 ≤ l.length) : Compl l [0] (exactO l) ∧ ∀ q, Compl l [0] q → wy l (exactO l) ≤ wy l q := by
  obtain ⟨a, b, c⟩ := srch_spec l (l.length - 1) [0] [] (by simp; omega) (by simp) (by simp) (fun x hx => by rw [List.mem_singleton] at hx; omega)
  have h1 := c _ (compl_range l h)
  refine ⟨a.resolve_left (fun e => h1.1 e), fun q hq => (c q hq).2⟩
def exactE (l : List S31) : List Int × Int × Int := if chkE l 10 = 0 then (if l.length = 0 then ([], 0, 0) else (exactO l, wy l (exactO l), 0)) else ([], 0, chkE l 10)
theorem Exact_ev (l : List S31) (hn : l.length ≤ 500) : Ev (fun k => tour_Exact.f k l) (exactE l) ∧ Ev (fun k => swarfref38_Exact.f k l) (exactE l) := by
  unfold tour_Exact.f swarfref38_Exact.f exactE
  simp only [if_pos (show l.length < 1000 by omega)]
  by_cases hc : chkE l 10 = 0
  · obtain ⟨c1, c2⟩ := chkE_zero hc
    rw [if_pos hc]
    by_cases h0 : l.length = 0
    · rw [if_pos h0]
      refine ⟨Ev.bind (check_ev l 10 (by omega)) ?_, Ev.bind (rvalid_ev l 10 (by omega)) ?_⟩ <;> simp only [if_pos hc, if_pos (show (l.length : Int) = 0 by omega)] <;> exact Ev.now _
    · rw [if_neg h0]
      have hok : OKb l [] := ⟨fun x hx => (by cases hx), by simp⟩
      have hr0 : ∀ x ∈ [(0 : Int)], 0 ≤ x ∧ x < (l.length : Int) := fun x hx => by rw [List.mem_singleton] at hx; omega
      obtain ⟨sp, _⟩ := exact_spec l (by omega)
      have hlen := sp.2.1
      have hne : ¬ exactO l = [] := fun e => by rw [e] at hlen; simp at hlen; omega
      constructor
      · refine Ev.bind (check_ev l 10 (by omega)) ?_
        simp only [if_pos hc, if_neg (show ¬ (l.length : Int) = 0 by omega)]
        obtain ⟨r, h1, h2, h3⟩ := ext_ev l c2 hn (l.length - 1) [0] [] 0 (by simp; omega) (by simp) hr0 hok (fun h => absurd rfl h)
        have e : r = (exactO l, wy l (exactO l)) := by
          have e1 : r.1 = exactO l := h2
          have e2 := h3 (by rw [e1]; exact hne)
          rw [e1] at e2
          exact Prod.ext e1 e2
        have h1' : Ev (fun k => tour_ext.f k l [0] 0 [] 0) r := h1
        rw [e] at h1'
        exact Ev.bind h1' (Ev.now _)
      · refine Ev.bind (rvalid_ev l 10 (by omega)) ?_
        simp only [if_pos hc, if_neg (show ¬ (l.length : Int) = 0 by omega)]
        refine Ev.bind (rsearch_ev l c2 hn (l.length - 1) [0] [] (by simp; omega) hr0 hok) ?_
        exact Ev.bind (length_ev l c2 (exactO l) (by omega) sp.2.2.2).2 (Ev.now _)
  · rw [if_neg hc]
    refine ⟨Ev.bind (check_ev l 10 (by omega)) ?_, Ev.bind (rvalid_ev l 10 (by omega)) ?_⟩ <;> simp only [if_neg hc] <;> exact Ev.now _
end Go.Proofs.Ytohjocajaanhaaa.B

/- No order is shorter than a weighed tree: the bound holds. Plain numbers and lists. -/

namespace Go.Proofs.Ytohjocajaanhaaa.B
open Go.RowKit Go.Proofs.Ytohjocajaanhaaa.P Go.Proofs.YtohjocajaanhaaaW.PrintWords Go.Proofs.YtohjocajaanhaaaW.PrintLast Go.Proofs.YtohjocajaanhaaaW.PrintMore Go.Proofs.Ytohjocajaanhaaa.Mst
set_option linter.unusedVariables false
set_option linter.unusedSimpArgs false

/-- The pairs of neighbours of an order. -/
def edges : List Int → List (Nat × Nat)
  | [] => []
  | [_] => []
  | a :: b :: t => (a.toNat, b.toNat) :: edges (b :: t)
theorem edges_len : ∀ (a : Int) (t : List Int), (edges (a :: t)).length = t.length
  | _, [] => rfl
  | _, b :: t => by simp only [edges, List.length_cons]; rw [edges_len b t]
def sumq (w : List Int) : List Int → Int
  | [] => 0
  | x :: xs => rd w x + sumq w xs
def lastOf : Int → List Int → Int
  | a, [] => a
  | _, b :: t => lastOf b t
theorem wt_edges (l : List S31) (w : List Int) : ∀ (t : List Int) (a : Int), (∀ x ∈ a :: t, 0 ≤ x) → wt (cst l w) (edges (a :: t)) = wy l (a :: t) + 2 * sumq w (a :: t) - rd w a - rd w (lastOf a t)
  | [], a, _ => by simp only [edges, wt, wy, sumq, lastOf]; omega
  | b :: t, a, h => by
    have ih := wt_edges l w t b (fun x hx => h x (List.mem_cons_of_mem _ hx))
    have ha := h a List.mem_cons_self
    have hb := h b (List.mem_cons_of_mem _ List.mem_cons_self)
    have ea : ((a.toNat : Nat) : Int) = a := by omega
    have eb : ((b.toNat : Nat) : Int) = b := by omega
    simp only [edges, wt, wy, lastOf]
    rw [ih]
    unfold cst
    rw [ea, eb]
    simp only [sumq]
    omega
theorem grow_edges (n : Nat) : ∀ (t p : List Int) (a : Int), (p ++ a :: t).Nodup → (∀ x ∈ p ++ a :: t, 0 ≤ x ∧ x < (n : Int)) → (∀ i : Nat, i < n → (i : Int) ∈ p ++ a :: t) → Grow n (insS (p ++ [a])) (edges (a :: t))
  | [], p, a, _, _, hall => Grow.nil (fun x hx => hall x hx)
  | b :: t, p, a, hd, hr, hall => by
    have e : p ++ a :: b :: t = (p ++ [a]) ++ b :: t := by simp
    have ih := grow_edges n t (p ++ [a]) b (by rw [← e]; exact hd) (by rw [← e]; exact hr) (by rw [← e]; exact hall)
    have ha := hr a (by simp)
    have hb := hr b (by simp)
    have ea : ((a.toNat : Nat) : Int) = a := by omega
    have eb : ((b.toNat : Nat) : Int) = b := by omega
    have hset : insS (p ++ [a] ++ [b]) = (fun x : Nat => insS (p ++ [a]) x ∨ x = b.toNat) := by
      funext x
      unfold insS
      rw [List.mem_append (s := p ++ [a]), List.mem_singleton]
      exact propext ⟨fun h => h.imp_right (fun h => by omega), fun h => h.imp_right (fun h => by omega)⟩
    rw [hset] at ih
    refine Grow.cons ?_ (by omega) ?_ (by omega) ih
    · unfold insS; rw [ea]; simp
    · unfold insS
      rw [eb]
      intro hm
      rw [e, List.nodup_append] at hd
      exact hd.2.2 b hm b List.mem_cons_self rfl
theorem sumq_perm (w : List Int) {p q : List Int} (h : p.Perm q) : sumq w p = sumq w q := by
  induction h with
  | nil => rfl
  | cons x _ ih => simp only [sumq, ih]
  | swap x y l => simp only [sumq]; omega
  | trans _ _ ih1 ih2 => exact ih1.trans ih2
theorem sumq_range (w : List Int) (d : Nat) : ∀ j : Nat, j + d = w.length → sumq w (((List.range w.length).drop j).map (fun i : Nat => (i : Int))) = sumI (w.drop j) := by
  induction d with
  | zero =>
    intro j hj
    rw [List.drop_eq_nil_of_le (by simp; omega), List.drop_eq_nil_of_le (by omega)]
    rfl
  | succ d ih =>
    intro j hj
    rw [range_drop _ _ (by omega), drop_rd w j (by omega)]
    simp only [List.map_cons, sumq, sumI]
    rw [ih (j + 1) (by omega)]
theorem compl_perm {l : List S31} {o q : List Int} (h : Compl l o q) : q.Perm ((List.range l.length).map (fun i : Nat => (i : Int))) := by
  obtain ⟨_, h2, h3, h4⟩ := h
  refine (List.perm_ext_iff_of_nodup h3 (List.Pairwise.map _ (fun a b (hab : a ≠ b) => by omega) List.nodup_range)).2 (fun a => ⟨fun ha => ?_, fun ha => ?_⟩)
  · have := h4 a ha
    exact List.mem_map.2 ⟨a.toNat, List.mem_range.2 (by omega), by omega⟩
  · obtain ⟨i, hi, rfl⟩ := List.mem_map.1 ha
    exact full_in h3 h4 h2 i (List.mem_range.1 hi)
theorem lastOf_mem : ∀ (t : List Int) (a : Int), ¬ t = [] → lastOf a t ∈ t
  | [], _, h => absurd rfl h
  | [b], _, _ => by simp [lastOf]
  | b :: c :: t, _, _ => List.mem_cons_of_mem _ (lastOf_mem (c :: t) b (by simp))
/-- A run's sum is at most an order's length with its weights. -/
theorem run_le_order {l : List S31} {w : List Int} (hg : Good l w) {t : Int} (h : Run (cst l w) l.length (fun x => (x : Int) ∈ [(0 : Int)]) (l.length - 1) t) {q : List Int} (hq : Compl l [0] q) :
    ∃ r, q = 0 :: r ∧ t ≤ wy l q + 2 * sumI w - rd w 0 - rd w (lastOf 0 r) := by
  have hp := compl_perm hq
  obtain ⟨⟨r, hr⟩, h2, h3, h4⟩ := hq
  have hr' : q = 0 :: r := hr
  subst hr'
  refine ⟨r, rfl, ?_⟩
  have hgr := grow_edges l.length r [] 0 h3 h4 (fun i hi => full_in h3 h4 h2 i hi)
  have hle := h.le (cst_sym l w) (E := edges (0 :: r)) hgr (by rw [edges_len]; simp only [List.length_cons] at h2; omega)
  rw [wt_edges l w r 0 (fun x hx => (h4 x hx).1), sumq_perm w hp] at hle
  have := sumq_range w w.length 0 (by omega)
  rw [List.drop_zero, List.drop_zero, hg.wl] at this
  rw [this] at hle
  exact hle
theorem bound_le {l : List S31} {w : List Int} (hg : Good l w) {t : Int} (h : Run (cst l w) l.length (fun x => (x : Int) ∈ [(0 : Int)]) (l.length - 1) t) {q : List Int} (hq : Compl l [0] q) : (if l.length < 2 then 0 else bndV t w) ≤ wy l q := by
  by_cases hl : l.length < 2
  · rw [if_pos hl]; exact wy_nonneg l q
  · rw [if_neg hl]
    obtain ⟨r, rfl, hle⟩ := run_le_order hg h hq
    obtain ⟨_, h2, h3, h4⟩ := hq
    have hrn : ¬ r = [] := by rintro rfl; simp at h2; omega
    have hm := lastOf_mem r 0 hrn
    have hlr := h4 _ (List.mem_cons_of_mem _ hm)
    have hne : ¬ lastOf 0 r = 0 := by
      intro e
      rw [e] at hm
      exact (List.nodup_cons.1 h3).1 hm
    have wl := hg.wl
    have hmin := minL_le (w.drop 1) (w.length - 2) (by rw [List.length_drop]; omega) ((lastOf 0 r).toNat - 1) (by omega)
    rw [rd_drop1 w ((lastOf 0 r).toNat - 1)] at hmin
    have e : (((lastOf 0 r).toNat - 1 : Nat) : Int) + 1 = lastOf 0 r := by omega
    rw [e] at hmin
    unfold bndV lastW
    omega
/-! ### Weights 0 -/
theorem rd_zeros (n : Nat) (i : Int) : rd (List.replicate n 0) i = 0 := by
  unfold rd
  rw [List.getD_eq_getElem?_getD, List.getElem?_replicate]
  split <;> rfl
theorem good_zeros {l : List S31} (hv : l.all okp = true) (h0 : 1 ≤ l.length) (h1 : l.length ≤ 200) : Good l (List.replicate l.length 0) :=
  ⟨hv, h0, h1, by simp, fun x hx => by have := List.eq_of_mem_replicate hx; omega⟩
theorem sumI_zeros (n : Nat) : sumI (List.replicate n 0) = 0 := by
  induction n with
  | zero => rfl
  | succ n ih => rw [List.replicate_succ]; simp only [sumI, ih]; rfl
theorem minL_zeros (n k : Nat) : k < n → minL (List.replicate n 0) k = 0 := by
  induction k with
  | zero => intro _; rw [minL_zero, rd_zeros]
  | succ k ih =>
    intro h
    rw [minL_succ _ k (by simpa using h), ih (by omega), rd_zeros]
    rfl
theorem bnd_zeros (n : Nat) (hn : 2 ≤ n) (t : Int) : bndV t (List.replicate n 0) = t := by
  unfold bndV lastW
  rw [sumI_zeros, rd_zeros]
  have : (List.replicate n (0 : Int)).drop 1 = List.replicate (n - 1) 0 := by simp
  rw [this, List.length_replicate, minL_zeros (n - 1) (n - 2) (by omega)]
  omega
theorem Tree_ev {l : List S31} (hv : l.all okp = true) (h0 : 1 ≤ l.length) (h1 : l.length ≤ 200) : ∃ t, Ev (fun k => tour_Tree.f k l) t ∧ Ev (fun k => swarfref38_Tree.f k l) t ∧ Run (cst l (List.replicate l.length 0)) l.length (fun x => (x : Int) ∈ [(0 : Int)]) (l.length - 1) t := by
  obtain ⟨t, p, e1, e2, e3⟩ := trees (good_zeros hv h0 h1)
  have hlen : ((l.length : Int)).toNat = l.length := by omega
  refine ⟨t, ?_, ?_, e3⟩
  · unfold tour_Tree.f
    simp only [if_pos (show 0 ≤ (l.length : Int) by omega), hlen, if_pos (show l.length ≤ 35184372088832 by omega)]
    exact Ev.bind e1 (Ev.now _)
  · unfold swarfref38_Tree.f
    simp only [if_pos (show 0 ≤ (l.length : Int) by omega), hlen, if_pos (show l.length ≤ 35184372088832 by omega)]
    exact Ev.bind e2 (Ev.now _)
theorem run_zero {c : Nat → Nat → Int} {n : Nat} {S : Nat → Prop} {t : Int} (h : Run c n S 0 t) : t = 0 := by
  generalize hk : 0 = k at h
  cases h with
  | nil _ => rfl
  | cons _ _ _ _ _ _ => omega
/-- A run's sum is at most an order's length. -/
theorem tree_le {l : List S31} (hv : l.all okp = true) (h0 : 1 ≤ l.length) (h1 : l.length ≤ 200) {t : Int} (h : Run (cst l (List.replicate l.length 0)) l.length (fun x => (x : Int) ∈ [(0 : Int)]) (l.length - 1) t) {q : List Int} (hq : Compl l [0] q) : t ≤ wy l q := by
  obtain ⟨r, _, hle⟩ := run_le_order (good_zeros hv h0 h1) h hq
  rw [sumI_zeros, rd_zeros, rd_zeros] at hle
  omega
end Go.Proofs.Ytohjocajaanhaaa.B

/- The statement TourProof, over plain numbers and lists. -/

namespace Go.Proofs.Ytohjocajaanhaaa.B
open Go.RowKit Go.Proofs.Ytohjocajaanhaaa.P Go.Proofs.YtohjocajaanhaaaW.PrintWords Go.Proofs.YtohjocajaanhaaaW.PrintLast Go.Proofs.YtohjocajaanhaaaW.PrintMore Go.Proofs.Ytohjocajaanhaaa.Mst
set_option linter.unusedVariables false
set_option linter.unusedSimpArgs false
theorem proof_j0 (l : List S31) (w : List Int) (b : Bool) (hb : b = false → chkE l 7 = 0 ∧ 1 ≤ l.length ∧ w.length ≤ 1000) : Ev (fun k => swarflaw38_TourProof.j0 k l w b) true := by
  cases b with
  | true =>
    refine Ev.step (f := fun k => (swarflaw38_awake.f k).bind fun t => some t) (fun k => by simp only [swarflaw38_TourProof.j0]; rfl) ?_
    exact Ev.bind awake_ev (Ev.now _)
  | false =>
    obtain ⟨hc, h0, hw⟩ := hb rfl
    obtain ⟨c1, c2⟩ := chkE_zero hc
    have hc10 : chkE l 10 = 0 := by unfold chkE; rw [if_neg (by omega), if_pos c2]
    obtain ⟨e1, _⟩ := Exact_ev l (by omega)
    have hE : exactE l = (exactO l, wy l (exactO l), 0) := by unfold exactE; rw [if_pos hc10, if_neg (by omega)]
    rw [hE] at e1
    have sp := (exact_spec l h0).1
    obtain ⟨r, e2, _, hr⟩ := Bounds l w (by omega) hw
    have hgz := good_zeros c2 h0 (by omega)
    obtain ⟨z, e3, _, hz⟩ := Bounds l (List.replicate l.length 0) (by omega) (by simp; omega)
    obtain ⟨t, e4, _, ht⟩ := Tree_ev c2 h0 (by omega)
    have hz2 : z.2 = 0 ∧ z.1 = t := by
      rcases hz with ⟨_, hz2, t', ht', hz1⟩ | ⟨hn, _⟩
      · have he : t' = t := Run.same (cst_sym _ _) ht' ht
        subst he
        refine ⟨hz2, ?_⟩
        rw [hz1]
        by_cases h2 : l.length < 2
        · rw [if_pos h2]
          have : l.length - 1 = 0 := by omega
          rw [this] at ht
          exact (run_zero ht).symm
        · rw [if_neg h2, bnd_zeros _ (by omega)]
      · exact absurd hgz hn
    have htl := tree_le c2 h0 (by omega) ht sp
    have hbl : r.2 = 0 → r.1 ≤ wy l (exactO l) := by
      intro h
      rcases hr with ⟨hg, _, t', ht', hr1⟩ | ⟨_, hn⟩
      · rw [hr1]; exact bound_le hg ht' sp
      · exact absurd h hn
    have hlen : ((l.length : Int)).toNat = l.length := by omega
    refine Ev.step (fun k => by simp only [swarflaw38_TourProof.j0]; rw [if_neg (by decide)]) ?_
    refine Ev.bind e1 (Ev.bind e2 ?_)
    simp only [if_pos (show 0 ≤ (l.length : Int) by omega), hlen, if_pos (show l.length ≤ 35184372088832 by omega)]
    refine Ev.bind e3 ?_
    have fin : decide (z.1 ≤ wy l (exactO l)) = true := by rw [hz2.2]; exact decide_eq_true htl
    have tail : Ev (fun n => (tour_Tree.f n l).bind fun t452 => if z.1 = t452 then some (decide (z.1 ≤ wy l (exactO l))) else some false) true := by
      refine Ev.bind e4 ?_
      simp only [if_pos hz2.2, fin]
      exact Ev.now _
    simp only [if_true]
    by_cases hr2 : r.2 = 0
    · simp only [if_pos hr2, if_pos (hbl hr2), if_pos hz2.1]
      exact tail
    · simp only [if_neg hr2, if_pos hz2.1]
      exact tail
theorem TourProof (l : List S31) (w : List Int) : ∃ k, swarflaw38_TourProof.f k l w = some true := by
  refine Ev.rounds (g := fun k => swarflaw38_TourProof.f k l w) ?_
  unfold swarflaw38_TourProof.f
  refine Ev.bind awake_ev ?_
  simp only [if_true]
  have hw : decide ((w.length : Int) > 20) = false → w.length ≤ 1000 := fun h => by have := of_decide_eq_false h; omega
  by_cases hbig : l.length ≤ 1000
  · refine Ev.bind (right_ev l 7 hbig) ?_
    by_cases hc : chkE l 7 = 0
    · simp only [hc, beq_self_eq_true, if_true]
      by_cases h0 : (l.length : Int) = 0
      · simp only [if_pos h0]
        exact proof_j0 l w _ (fun h => by cases h)
      · simp only [if_neg h0]
        exact proof_j0 l w _ (fun h => ⟨hc, by omega, hw h⟩)
    · simp only [show (chkE l 7 == 0) = false by simpa using hc, Bool.false_eq_true, if_false]
      exact proof_j0 l w _ (fun h => by cases h)
  · have hv : Ev (fun k => swarflaw38_right.f k l 7) false := by
      unfold swarflaw38_right.f swarfref38_Valid.f
      simp only [if_pos (show (l.length : Int) > 7 by omega), Option.bind_some]
      exact Ev.now _
    refine Ev.bind hv ?_
    simp only [Bool.false_eq_true, if_false]
    exact proof_j0 l w _ (fun h => by cases h)
end Go.Proofs.Ytohjocajaanhaaa.B
