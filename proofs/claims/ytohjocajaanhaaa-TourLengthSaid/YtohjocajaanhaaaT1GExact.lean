/- The contract of swarf/tour.Exact (function 22), by hand: out of that of extend. -/
import Derived.Test.YtohjocajaanhaaaT1Px1
import Derived.Test.YtohjocajaanhaaaT1GExt
namespace Go.Proofs.Ytohjocajaanhaaa.P
open Go.RowKit Go.Proofs.YtohjocajaanhaaaW.PrintWords Go.Proofs.YtohjocajaanhaaaW.PrintLast Go.Proofs.YtohjocajaanhaaaW.PrintMore
set_option linter.unusedVariables false
set_option linter.unusedSimpArgs false
def tour_Exact.f (k : Nat) (l0 : List S31) : Option (List Int × Int × Int) :=
  if l0.length < 1000 then ((tour_check.f k l0 10).bind fun e => (if e = 0 then (if (l0.length : Int) = 0 then some (([] : List Int), 0, 0) else ((tour_ext.f k l0 [0] 0 [] 0).bind fun t => some (t.1, t.2, 0))) else some (([] : List Int), 0, e))) else none
theorem tour_Exact.mono : ∀ a0 k, LeO (tour_Exact.f k a0) (tour_Exact.f (k + 1) a0) := by
  intro a0 k
  unfold tour_Exact.f
  refine LeO.ite (LeO.bind (tour_check.mono _ _ _) (fun _ => LeO.ite (LeO.ite (LeO.refl _) (LeO.bind (tour_ext.mono _ _ _ _ _ _) (fun _ => LeO.refl _))) (LeO.refl _))) (LeO.none _)
set_option maxHeartbeats 4000000 in
set_option maxRecDepth 100000 in
theorem tour_Exact.calls (k : Nat) (A0 : Option Addr) (c0 : Nat) (l0 : List S31) (r1 : List Int) (r2 : Int) (r3 : Int) (w : World) (hr0 : Kd.C k31 w A0 l0.length l0) (hc0 : l0.length ≤ c0) (h : tour_Exact.f k l0 = some (r1, r2, r3)) :
    Calls Try.prog 22 #[.slice A0 l0.length c0] w fun e w' => ∃ v0_ : Value, e = .returned (.tuple #[v0_, .int .i64 r2, .int .i64 r3]) ∧ Kd.R (Kd.int .i64) 3 w' w.heap.size (fun _ => True) v0_ r1 ∧ Below w.heap.size w w' := by
  have HR0 := Aside0.mk hr0
  have HC0 := Aside0.mk hc0
  have hu55 := Try.underlying55
  clear hr0 hc0
  unfold tour_Exact.f at h
  by_cases hlx : l0.length < 1000
  · rw [if_pos hlx] at h
    replace h := Option.bind_eq_some_iff.mp h
    obtain ⟨e0, AC0, h⟩ := h
    have AC := Aside0.mk AC0
    clear AC0
    by_cases c0' : e0 = 0
    · rw [if_pos c0'] at h
      have c0b : (e0 != 0) = false := bne_eq_false_iff_eq.mpr c0'
      by_cases c1 : (l0.length : Int) = 0
      · rw [if_pos c1] at h
        simp only [Option.some.injEq, Prod.mk.injEq] at h
        obtain ⟨rfl, rfl, rfl⟩ := h
        have c1b : ((l0.length : Int) == 0) = true := beq_iff_eq.mpr c1
        clear c1 c0'
        go_enter Try.func22, Try.ntmps22
        go_wp2_with (go_at_call 28; go_must (refine (tour_check.calls k _ _ l0 10 e0 _ HR0.out HC0.out AC.out).mono ?_; rintro e w' ⟨rfl, hb⟩; have HB := Aside0.mk hb; clear hb))
        go_ret3
        exact ⟨_, rfl, Kd.R_nil _ _ _ _ _, HB.out⟩
      · rw [if_neg c1] at h
        have c1b : ((l0.length : Int) == 0) = false := beq_eq_false_iff_ne.mpr c1
        replace h := Option.bind_eq_some_iff.mp h
        obtain ⟨⟨t1, t2⟩, AF0, h⟩ := h
        have AF := Aside0.mk AF0
        simp only [Option.some.injEq, Prod.mk.injEq] at h
        obtain ⟨rfl, rfl, rfl⟩ := h
        clear AF0 c1 c0'
        go_enter Try.func22, Try.ntmps22
        go_wp2_with (first | (go_at_call 28; go_must (refine (tour_check.calls k _ _ l0 10 e0 _ HR0.out HC0.out AC.out).mono ?_; rintro e w' ⟨rfl, hb⟩; have HB := Aside0.mk hb; clear hb)) | ((with_reducible refine gate_dst (N := 17) rfl ?_); go_must (refine box_event ?hg (N := 17) ?hd (cs := #[.slice A0 l0.length c0, .slice none 0 0, .int .i64 0]) (t := 55) ?hr ?_; (case hd => rfl); (case hg => rfl); (case hr => first | (go_simp; done) | (go_simp; rfl)); intro g hg w2 hbox hb; have HE := Aside0.mk (show EnvE w w2 g A0 l0.length c0 [] 0 (.slice none 0 0) from ⟨hbox, Kd.R_nil _ _ _ _ _, fun _ => rfl, below_step HB.out hb, by rw [hg]; exact HB.out.size⟩); clear HB hg hbox hb)) | ((with_reducible refine gate_dst (N := 19) rfl ?_); go_must (refine Kd.R_lit (Kd.int .i64) (w0 := w2) w2.heap.size 3 ?hg (N := 19) ?hd (xs := [0]) (inner := [.int .i64 0]) (ok := fun _ => True) (okp := fun _ => True) ?hr ?hp (fun _ hk => hk) trivial (Below.refl _ _) (Nat.le_refl _) (by simp) ?_; (case hd => rfl); (case hg => rfl); (case hr => first | (go_simp; done) | (go_simp; rfl)); (case hp => exact (Reps.one (show Kd.M (Kd.int .i64) _ _ _ 0 [.int .i64 0] from rfl) (Reps.none _ _))); intro v19 w3 ho hb hg_ hnew_; clear hg_ hnew_; have HO := Aside0.mk (Kd.R_lower ho HE.out.b.size); have HE3 := Aside0.mk (HE.out.step hb); clear HE ho hb; obtain ⟨A19, c19, e19⟩ := Kd.R_slice HO.out; subst e19)) | (go_at_call 38; go_must (refine (tour_ext.calls w g A0 c0 l0 HR0.out hlx k [0] 0 [] 0 t1 t2 _ A19 c19 _ HE3.out HO.out AF.out).mono ?_; rintro e w4 ⟨rfl, vb, hE, hK⟩; have HE4 := Aside0.mk hE; clear hE hK HE3 HO; have hz0 : w4.cell? ⟨g, 0, none⟩ = some (.slice A0 l0.length c0) := (blk_cell HE4.out.bk 0).trans rfl; have hz1 : w4.cell? ⟨g, 1, none⟩ = some vb := (blk_cell HE4.out.bk 1).trans rfl; have hz2 : w4.cell? ⟨g, 2, none⟩ = some (.int .i64 t2) := (blk_cell HE4.out.bk 2).trans rfl)))
        obtain ⟨Ab, cb, eb⟩ := Kd.R_slice HE4.out.r
        subst eb
        go_region
        all_goals go_wp2_with fail
        all_goals go_ret3
        all_goals exact ⟨_, rfl, Kd.R_drew HE4.out.r, below_drew1 HE4.out.b⟩
    · rw [if_neg c0'] at h
      have c0b : (e0 != 0) = true := bne_iff_ne.mpr c0'
      simp only [Option.some.injEq, Prod.mk.injEq] at h
      obtain ⟨rfl, rfl, rfl⟩ := h
      clear c0'
      go_enter Try.func22, Try.ntmps22
      go_wp2_with (go_at_call 28; go_must (refine (tour_check.calls k _ _ l0 10 e0 _ HR0.out HC0.out AC.out).mono ?_; rintro e w' ⟨rfl, hb⟩; have HB := Aside0.mk hb; clear hb))
      go_ret3
      exact ⟨_, rfl, Kd.R_nil _ _ _ _ _, HB.out⟩
  · rw [if_neg hlx] at h; cases h
end Go.Proofs.Ytohjocajaanhaaa.P
