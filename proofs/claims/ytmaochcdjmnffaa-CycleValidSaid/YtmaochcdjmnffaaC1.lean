/- The statement CycleValid, over plain numbers and lists. -/
import Derived.Test.YtmaochcdjmnffaaB1
import Derived.Test.YtmaochcdjmnffaaPx20
namespace Go.Proofs.Ytmaochcdjmnffaa.B
open Go.RowKit Go.Proofs.Ytmaochcdjmnffaa.P Go.Proofs.YtmaochcdjmnffaaW.PrintWords Go.Proofs.YtmaochcdjmnffaaW.PrintLast
theorem awake_small : swarflaw44_awake.f 60 = some true := by decide +kernel
theorem awake_true (k : Nat) (h : 60 ≤ k) : swarflaw44_awake.f k = some true := at_rounds (fun k => swarflaw44_awake.mono k) h awake_small
theorem CycleValid (c r z q f i : Int) (h : Bool) : ∃ k, swarflaw44_CycleValid.f k c r z q f i h = some true := by
  refine ⟨20000100, ?_⟩
  unfold swarflaw44_CycleValid.f
  obtain ⟨e1, e2⟩ := depths_eq 20000100 (by omega) c r z q f i h
  rw [awake_true _ (by omega), e1, e2, show (20000100 : Nat) = 20000098 + 2 from rfl, valid_eq, ref_valid_eq _ (by omega)]
  simp only [Option.bind_some, if_true]
  rw [equal_self _ _ (by have := dE_len c r z q f i; omega) (by omega)]
  rfl
end Go.Proofs.Ytmaochcdjmnffaa.B
