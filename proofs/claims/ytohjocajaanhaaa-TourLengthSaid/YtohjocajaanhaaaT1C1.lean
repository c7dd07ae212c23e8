/- The statement TourLength, over plain numbers and lists. -/
import Derived.Test.YtohjocajaanhaaaT1A1
import Derived.Test.YtohjocajaanhaaaT1B1
import Derived.Test.YtohjocajaanhaaaT1Px27
namespace Go.Proofs.Ytohjocajaanhaaa.B
open Go.RowKit Go.Proofs.Ytohjocajaanhaaa.P Go.Proofs.YtohjocajaanhaaaW.PrintWords Go.Proofs.YtohjocajaanhaaaW.PrintLast Go.Proofs.YtohjocajaanhaaaW.PrintMore
set_option linter.unusedVariables false
set_option linter.unusedSimpArgs false
theorem length_j0 (l : List S31) (o : List Int) (b : Bool) (hb : b = false → l.length ≤ 1000) : Ev (fun k => swarflaw38_TourLength.j0 k l o b) true := by
  cases b with
  | true =>
    refine Ev.step (f := fun k => (swarflaw38_awake.f k).bind fun t => some t) (fun k => by simp only [swarflaw38_TourLength.j0]; rfl) ?_
    exact Ev.bind awake_ev (Ev.now _)
  | false =>
    have hn := hb rfl
    obtain ⟨e1, e2⟩ := Length_ev l o hn
    refine Ev.step (fun k => by simp only [swarflaw38_TourLength.j0]; rw [if_neg (by decide)]) ?_
    refine Ev.bind e1 (Ev.bind e2 ?_)
    by_cases h1 : (l.length : Int) > 1
    · simp only [if_pos h1]
      refine Ev.bind (right_ev l 12 hn) ?_
      by_cases hr : chkE l 12 = 0
      · obtain ⟨c1, c2⟩ := chkE_zero hr
        have k0 := ok_at c2 0 (by omega) (by omega)
        have k1 := ok_at c2 1 (by omega) (by omega)
        simp only [show (chkE l 12 == 0) = true by simpa using hr, if_true, if_pos (show 0 < (l.length : Int) by omega), if_pos (show 1 < (l.length : Int) by omega)]
        rw [dist_eq k0 k1, ref_dist_eq k0 k1]
        simp only [Option.bind_some, if_true, beq_self_eq_true]
        exact Ev.now _
      · simp only [show (chkE l 12 == 0) = false by simpa using hr]
        simp only [Bool.false_eq_true, if_false, if_true, beq_self_eq_true]
        exact Ev.now _
    · simp only [if_neg h1, if_true, beq_self_eq_true]
      exact Ev.now _
theorem TourLength (l : List S31) (o : List Int) : ∃ k, swarflaw38_TourLength.f k l o = some true := by
  refine Ev.rounds (g := fun k => swarflaw38_TourLength.f k l o) ?_
  unfold swarflaw38_TourLength.f
  refine Ev.bind awake_ev ?_
  simp only [if_true]
  unfold swarflaw38_few.f
  by_cases h1 : (l.length : Int) ≤ 12
  · simp only [if_pos h1, Option.bind_some, if_true]
    exact length_j0 l o _ (fun _ => by omega)
  · simp only [if_neg h1]
    by_cases h2 : (l.length : Int) > 199
    · simp only [if_pos h2, Option.bind_some]
      by_cases h3 : (l.length : Int) < 203
      · simp only [decide_eq_true h3, if_true]
        exact length_j0 l o _ (fun _ => by omega)
      · simp only [decide_eq_false h3, Bool.false_eq_true, if_false]
        exact length_j0 l o _ (fun h => by cases h)
    · simp only [if_neg h2, Option.bind_some, Bool.false_eq_true, if_false]
      exact length_j0 l o _ (fun h => by cases h)
end Go.Proofs.Ytohjocajaanhaaa.B
