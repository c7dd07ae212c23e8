/- The examples of the chapter hold, told by the printed function. -/
import Derived.Test.YtohjocajaanhaaaT1Px18
namespace Go.Proofs.Ytohjocajaanhaaa.B
open Go.RowKit Go.Proofs.Ytohjocajaanhaaa.P Go.Proofs.YtohjocajaanhaaaW.PrintWords Go.Proofs.YtohjocajaanhaaaW.PrintLast
theorem awake_ev : Ev (fun k => swarflaw38_awake.f k) true := Ev.of swarflaw38_awake.mono swarflaw38_awake.small
end Go.Proofs.Ytohjocajaanhaaa.B
