/- The examples of the chapter hold, told by the printed function. -/
import Derived.Test.YtmaochcdjmnffaaT6Px16
namespace Go.Proofs.Ytmaochcdjmnffaa.B
open Go.RowKit Go.Proofs.Ytmaochcdjmnffaa.P Go.Proofs.YtmaochcdjmnffaaW.PrintWords Go.Proofs.YtmaochcdjmnffaaW.PrintLast
theorem awake_small : swarflaw44_awake.f 60 = some true := by decide +kernel
theorem awake_true (k : Nat) (h : 60 ≤ k) : swarflaw44_awake.f k = some true := at_rounds (fun k => swarflaw44_awake.mono k) h awake_small
end Go.Proofs.Ytmaochcdjmnffaa.B
