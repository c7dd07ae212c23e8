/- The statement CycleRestored, over plain numbers and lists. -/
import Derived.Test.YtmaochcdjmnffaaT5C5
import Derived.Test.YtmaochcdjmnffaaT5Px36
namespace Go.Proofs.Ytmaochcdjmnffaa.B
open Go.RowKit Go.Proofs.Ytmaochcdjmnffaa.P Go.Proofs.YtmaochcdjmnffaaW.PrintWords Go.Proofs.YtmaochcdjmnffaaW.PrintLast Go.Proofs.YtmaochcdjmnffaaW.PrintMore
set_option linter.unusedVariables false
theorem CycleRestored (c r z q f i : Int) (h : Bool) (b0 b1 b2 b3 b4 b5 : Int) (b6 : Bool) (x y : Int) : ∃ k, swarflaw44_CycleRestored.f k c r z q f i h b0 b1 b2 b3 b4 b5 b6 x y = some true := by
  refine ⟨20000098 + 2, ?_⟩
  unfold swarflaw44_CycleRestored.f
  rw [awake_true _ (by omega)]
  simp only [Option.bind_some, if_true]
  rw [block_eq]
  simp only [Option.bind_some]
  by_cases he : vE c r z q f i = 0
  · rw [if_pos he]
    by_cases hf : far x = true ∨ far y = true
    · rw [if_pos hf]; rfl
    · rw [if_neg hf]
      simp only [if_true]
      rw [read_own _ c r z q f i h x y b1 b2 b3 b4 b0 b4 b5 b6 he]
      simp only [Option.bind_some, if_true]
      by_cases hc : c = 83000 <;> simp [hc]
  · rw [if_neg he]
    simp only []
    rw [if_neg he]
end Go.Proofs.Ytmaochcdjmnffaa.B
