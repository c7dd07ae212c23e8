/-
  No cell of these rows narrows 'for every input' (looked for: loops, veiled, ifaces, maps, wideKeys, modest, calm, conditions, laid).
  DERIVED. THE GIVEN ROWS OF THIS SEAT. 7 by the template 'for every input the law returns true; each argument reads behind the call as it read before'; 0 by the template 'total and deterministic' (their statements: YtohjocajaanhaaaTotals.lean).
  GIVEN WITH THE SEED: the statements are not yours to turn. If you find one false, say at which input.
  Laid BY PROGRAM, IN A SANDBOX (cutbox-rows.mjs): the forced cells as the released guide's own fill.sh prints them over the translation fbe140e33ed39f4e… (all of the seat's roots in one cut). By AI agents, Wed Nov 11 2026. No macro, syntax, notation, axiom, sorry.
-/
import Derived.Test.YtohjocajaanhaaaChecked
import GoSem.Claim
import GoSem.ClaimJoined
import GoSem.ClaimMapViews
import Derived.JoinedTies
import Derived.KernelRfl
namespace Go.Proofs.Ytohjocajaanhaaa
/- THE CELL 'sum', in the pinned program and in every row, IS THE sha256 OF THE DUMP (.gsa) THAT YtohjocajaanhaaaProg.lean LOADS. Nothing in Lean hashes anything: it is a label: what it is worth is what the hold of that sum in a sandbox is worth. -/
noncomputable def Try.pinned : Pinned := { name := "ytohjocajaanhaaa", sum := "fbe140e33ed39f4e721313c27b9509838263ff3d9323db353c6db49a0ccff7ed", checked := Try.checked }
namespace Rows
def none {H : Type} : Left H := { results := [], args := [] }

/-- 'swarflaw38.TourLength': WHATEVER THE INPUT: true; the input reads as it did. -/
def tourLengthSpec : ChangeSpec := { name := "tourLength", fn := fun _ => fun
  | [d1, d2] => { results := [.lit (.bool true)], args := [d1, d2] }
  | _ => none }
def tourLengthRow : OpenClaim := { program := "ytohjocajaanhaaa", sum := "fbe140e33ed39f4e721313c27b9509838263ff3d9323db353c6db49a0ccff7ed", func := "swarf/swarflaw38.TourLength", spec := "tourLength", recurses := true, apart := false }
def TourLengthSaid : Prop := tourLengthRow.holds Try.pinned (OpenSpec.ofChange tourLengthSpec)

/-- ITS FALSE NEIGHBOUR: 'it returns false'. Refute it at one input. -/
def tourLengthWrong : ChangeSpec := { name := "tourLength", fn := fun _ => fun
  | [d1, d2] => { results := [.lit (.bool false)], args := [d1, d2] }
  | _ => none }
def TourLengthWrongFalsely : Prop := tourLengthRow.holds Try.pinned (OpenSpec.ofChange tourLengthWrong)

/-- 'swarflaw38.TourNearest': WHATEVER THE INPUT: true; the input reads as it did. -/
def tourNearestSpec : ChangeSpec := { name := "tourNearest", fn := fun _ => fun
  | [d] => { results := [.lit (.bool true)], args := [d] }
  | _ => none }
def tourNearestRow : OpenClaim := { program := "ytohjocajaanhaaa", sum := "fbe140e33ed39f4e721313c27b9509838263ff3d9323db353c6db49a0ccff7ed", func := "swarf/swarflaw38.TourNearest", spec := "tourNearest", recurses := true, apart := false }
def TourNearestSaid : Prop := tourNearestRow.holds Try.pinned (OpenSpec.ofChange tourNearestSpec)

/-- ITS FALSE NEIGHBOUR: 'it returns false'. Refute it at one input. -/
def tourNearestWrong : ChangeSpec := { name := "tourNearest", fn := fun _ => fun
  | [d] => { results := [.lit (.bool false)], args := [d] }
  | _ => none }
def TourNearestWrongFalsely : Prop := tourNearestRow.holds Try.pinned (OpenSpec.ofChange tourNearestWrong)

/-- 'swarflaw38.TourExact': WHATEVER THE INPUT: true; the input reads as it did. -/
def tourExactSpec : ChangeSpec := { name := "tourExact", fn := fun _ => fun
  | [d] => { results := [.lit (.bool true)], args := [d] }
  | _ => none }
def tourExactRow : OpenClaim := { program := "ytohjocajaanhaaa", sum := "fbe140e33ed39f4e721313c27b9509838263ff3d9323db353c6db49a0ccff7ed", func := "swarf/swarflaw38.TourExact", spec := "tourExact", recurses := true, apart := false }
def TourExactSaid : Prop := tourExactRow.holds Try.pinned (OpenSpec.ofChange tourExactSpec)

/-- ITS FALSE NEIGHBOUR: 'it returns false'. Refute it at one input. -/
def tourExactWrong : ChangeSpec := { name := "tourExact", fn := fun _ => fun
  | [d] => { results := [.lit (.bool false)], args := [d] }
  | _ => none }
def TourExactWrongFalsely : Prop := tourExactRow.holds Try.pinned (OpenSpec.ofChange tourExactWrong)

/-- 'swarflaw38.TourBound': WHATEVER THE INPUT: true; the input reads as it did. -/
def tourBoundSpec : ChangeSpec := { name := "tourBound", fn := fun _ => fun
  | [d1, d2] => { results := [.lit (.bool true)], args := [d1, d2] }
  | _ => none }
def tourBoundRow : OpenClaim := { program := "ytohjocajaanhaaa", sum := "fbe140e33ed39f4e721313c27b9509838263ff3d9323db353c6db49a0ccff7ed", func := "swarf/swarflaw38.TourBound", spec := "tourBound", recurses := true, apart := false }
def TourBoundSaid : Prop := tourBoundRow.holds Try.pinned (OpenSpec.ofChange tourBoundSpec)

/-- ITS FALSE NEIGHBOUR: 'it returns false'. Refute it at one input. -/
def tourBoundWrong : ChangeSpec := { name := "tourBound", fn := fun _ => fun
  | [d1, d2] => { results := [.lit (.bool false)], args := [d1, d2] }
  | _ => none }
def TourBoundWrongFalsely : Prop := tourBoundRow.holds Try.pinned (OpenSpec.ofChange tourBoundWrong)

/-- 'swarflaw38.TourProof': WHATEVER THE INPUT: true; the input reads as it did. -/
def tourProofSpec : ChangeSpec := { name := "tourProof", fn := fun _ => fun
  | [d1, d2] => { results := [.lit (.bool true)], args := [d1, d2] }
  | _ => none }
def tourProofRow : OpenClaim := { program := "ytohjocajaanhaaa", sum := "fbe140e33ed39f4e721313c27b9509838263ff3d9323db353c6db49a0ccff7ed", func := "swarf/swarflaw38.TourProof", spec := "tourProof", recurses := true, apart := false }
def TourProofSaid : Prop := tourProofRow.holds Try.pinned (OpenSpec.ofChange tourProofSpec)

/-- ITS FALSE NEIGHBOUR: 'it returns false'. Refute it at one input. -/
def tourProofWrong : ChangeSpec := { name := "tourProof", fn := fun _ => fun
  | [d1, d2] => { results := [.lit (.bool false)], args := [d1, d2] }
  | _ => none }
def TourProofWrongFalsely : Prop := tourProofRow.holds Try.pinned (OpenSpec.ofChange tourProofWrong)

/-- 'swarflaw38.TourImprove': WHATEVER THE INPUT: true; the input reads as it did. -/
def tourImproveSpec : ChangeSpec := { name := "tourImprove", fn := fun _ => fun
  | [d1, d2] => { results := [.lit (.bool true)], args := [d1, d2] }
  | _ => none }
def tourImproveRow : OpenClaim := { program := "ytohjocajaanhaaa", sum := "fbe140e33ed39f4e721313c27b9509838263ff3d9323db353c6db49a0ccff7ed", func := "swarf/swarflaw38.TourImprove", spec := "tourImprove", recurses := true, apart := false }
def TourImproveSaid : Prop := tourImproveRow.holds Try.pinned (OpenSpec.ofChange tourImproveSpec)

/-- ITS FALSE NEIGHBOUR: 'it returns false'. Refute it at one input. -/
def tourImproveWrong : ChangeSpec := { name := "tourImprove", fn := fun _ => fun
  | [d1, d2] => { results := [.lit (.bool false)], args := [d1, d2] }
  | _ => none }
def TourImproveWrongFalsely : Prop := tourImproveRow.holds Try.pinned (OpenSpec.ofChange tourImproveWrong)

/-- 'swarflaw38.TourOrders': WHATEVER THE INPUT: true; the input reads as it did. -/
def tourOrdersSpec : ChangeSpec := { name := "tourOrders", fn := fun _ => fun
  | [d] => { results := [.lit (.bool true)], args := [d] }
  | _ => none }
def tourOrdersRow : OpenClaim := { program := "ytohjocajaanhaaa", sum := "fbe140e33ed39f4e721313c27b9509838263ff3d9323db353c6db49a0ccff7ed", func := "swarf/swarflaw38.TourOrders", spec := "tourOrders", recurses := true, apart := false }
def TourOrdersSaid : Prop := tourOrdersRow.holds Try.pinned (OpenSpec.ofChange tourOrdersSpec)

/-- ITS FALSE NEIGHBOUR: 'it returns false'. Refute it at one input. -/
def tourOrdersWrong : ChangeSpec := { name := "tourOrders", fn := fun _ => fun
  | [d] => { results := [.lit (.bool false)], args := [d] }
  | _ => none }
def TourOrdersWrongFalsely : Prop := tourOrdersRow.holds Try.pinned (OpenSpec.ofChange tourOrdersWrong)

/- THE SECOND FORM. 'bulk': how many values and letters a reading holds, each counted each time it is reached (what is shared counts as often as it is met; a slice's spare places count too). A statement '..UptoSaid' is the law's where the arguments, and the package variables that the reading takes, are together of bulk at most 1048576: NARROWER than '..Said'. Prove '..Said' where nothing that the law and all that it calls make is longer than what came in: it says more and counts as full. Else prove '..UptoSaid'. A law counts once. -/
mutual
def uptoBulk {H : Type} : DataW H → Nat
  | .lit (.string bytes) => bytes.length + 1
  | .lit _ => 1
  | .nil => 1
  | .ptr d => uptoBulk d + 1
  | .slice elems spare => uptoBulkAll elems + uptoBulkAll spare + 1
  | .agg parts => uptoBulkAll parts + 1
  | .iface _ d => uptoBulk d + 1
  | .map entries => uptoBulkEntries entries + 1
  | .held _ => 1
def uptoBulkAll {H : Type} : List (DataW H) → Nat
  | [] => 0
  | d :: r => uptoBulk d + uptoBulkAll r
def uptoBulkEntries {H : Type} : List (Lit × DataW H) → Nat
  | [] => 0
  | x :: r => uptoBulkEntry x + uptoBulkEntries r
def uptoBulkEntry {H : Type} : Lit × DataW H → Nat
  | (.string bytes, d) => bytes.length + uptoBulk d + 1
  | (_, d) => uptoBulk d + 1
 end
def uptoSmall : (H : Type) → List (DataW H) → Bool := fun _ ds => decide (uptoBulkAll ds ≤ 1048576)
def OpenSpec.upto (s : _root_.Go.ChangeSpec) : _root_.Go.OpenSpec := { _root_.Go.OpenSpec.ofChange s with cond := some uptoSmall }

/-- 'swarflaw38.TourLength', WHERE WHAT IT READS IS OF BULK AT MOST 1048576: true; the input reads as it did. -/
def tourLengthUptoRow : OpenClaim := { program := "ytohjocajaanhaaa", sum := "fbe140e33ed39f4e721313c27b9509838263ff3d9323db353c6db49a0ccff7ed", func := "swarf/swarflaw38.TourLength", spec := "tourLength", recurses := true, apart := false, narrowed := true }
def TourLengthUptoSaid : Prop := tourLengthUptoRow.holds Try.pinned (OpenSpec.upto tourLengthSpec)

/-- 'swarflaw38.TourNearest', WHERE WHAT IT READS IS OF BULK AT MOST 1048576: true; the input reads as it did. -/
def tourNearestUptoRow : OpenClaim := { program := "ytohjocajaanhaaa", sum := "fbe140e33ed39f4e721313c27b9509838263ff3d9323db353c6db49a0ccff7ed", func := "swarf/swarflaw38.TourNearest", spec := "tourNearest", recurses := true, apart := false, narrowed := true }
def TourNearestUptoSaid : Prop := tourNearestUptoRow.holds Try.pinned (OpenSpec.upto tourNearestSpec)

/-- 'swarflaw38.TourExact', WHERE WHAT IT READS IS OF BULK AT MOST 1048576: true; the input reads as it did. -/
def tourExactUptoRow : OpenClaim := { program := "ytohjocajaanhaaa", sum := "fbe140e33ed39f4e721313c27b9509838263ff3d9323db353c6db49a0ccff7ed", func := "swarf/swarflaw38.TourExact", spec := "tourExact", recurses := true, apart := false, narrowed := true }
def TourExactUptoSaid : Prop := tourExactUptoRow.holds Try.pinned (OpenSpec.upto tourExactSpec)

/-- 'swarflaw38.TourBound', WHERE WHAT IT READS IS OF BULK AT MOST 1048576: true; the input reads as it did. -/
def tourBoundUptoRow : OpenClaim := { program := "ytohjocajaanhaaa", sum := "fbe140e33ed39f4e721313c27b9509838263ff3d9323db353c6db49a0ccff7ed", func := "swarf/swarflaw38.TourBound", spec := "tourBound", recurses := true, apart := false, narrowed := true }
def TourBoundUptoSaid : Prop := tourBoundUptoRow.holds Try.pinned (OpenSpec.upto tourBoundSpec)

/-- 'swarflaw38.TourProof', WHERE WHAT IT READS IS OF BULK AT MOST 1048576: true; the input reads as it did. -/
def tourProofUptoRow : OpenClaim := { program := "ytohjocajaanhaaa", sum := "fbe140e33ed39f4e721313c27b9509838263ff3d9323db353c6db49a0ccff7ed", func := "swarf/swarflaw38.TourProof", spec := "tourProof", recurses := true, apart := false, narrowed := true }
def TourProofUptoSaid : Prop := tourProofUptoRow.holds Try.pinned (OpenSpec.upto tourProofSpec)

/-- 'swarflaw38.TourImprove', WHERE WHAT IT READS IS OF BULK AT MOST 1048576: true; the input reads as it did. -/
def tourImproveUptoRow : OpenClaim := { program := "ytohjocajaanhaaa", sum := "fbe140e33ed39f4e721313c27b9509838263ff3d9323db353c6db49a0ccff7ed", func := "swarf/swarflaw38.TourImprove", spec := "tourImprove", recurses := true, apart := false, narrowed := true }
def TourImproveUptoSaid : Prop := tourImproveUptoRow.holds Try.pinned (OpenSpec.upto tourImproveSpec)

/-- 'swarflaw38.TourOrders', WHERE WHAT IT READS IS OF BULK AT MOST 1048576: true; the input reads as it did. -/
def tourOrdersUptoRow : OpenClaim := { program := "ytohjocajaanhaaa", sum := "fbe140e33ed39f4e721313c27b9509838263ff3d9323db353c6db49a0ccff7ed", func := "swarf/swarflaw38.TourOrders", spec := "tourOrders", recurses := true, apart := false, narrowed := true }
def TourOrdersUptoSaid : Prop := tourOrdersUptoRow.holds Try.pinned (OpenSpec.upto tourOrdersSpec)

end Rows
end Go.Proofs.Ytohjocajaanhaaa
