/-
  No cell of these rows narrows 'for every input' (looked for: loops, veiled, ifaces, maps, wideKeys, modest, calm, conditions, laid).
  DERIVED. THE GIVEN ROWS OF THIS SEAT. 6 by the template 'for every input the law returns true; each argument reads behind the call as it read before'; 0 by the template 'total and deterministic' (their statements: YtmaochcdjmnffaaTotals.lean).
  GIVEN WITH THE SEED: the statements are not yours to turn. If you find one false, say at which input.
  Laid BY PROGRAM, IN A SANDBOX (cutbox-rows.mjs): the forced cells as the released guide's own fill.sh prints them over the translation 15dd01e831d70d83… (all of the seat's roots in one cut). By AI agents, Wed Nov 11 2026. No macro, syntax, notation, axiom, sorry.
-/
import Derived.Test.YtmaochcdjmnffaaChecked
import GoSem.Claim
import GoSem.ClaimJoined
import GoSem.ClaimMapViews
import Derived.JoinedTies
import Derived.KernelRfl
namespace Go.Proofs.Ytmaochcdjmnffaa
/- THE CELL 'sum', in the pinned program and in every row, IS THE sha256 OF THE DUMP (.gsa) THAT YtmaochcdjmnffaaProg.lean LOADS. Nothing in Lean hashes anything: it is a label: what it is worth is what the hold of that sum in a sandbox is worth. -/
noncomputable def Try.pinned : Pinned := { name := "ytmaochcdjmnffaa", sum := "15dd01e831d70d83a46a8deb3bd79de3d9da2f1958eb7a246dbc7109f3932946", checked := Try.checked }
namespace Rows
def none {H : Type} : Left H := { results := [], args := [] }

/-- 'swarflaw44.CycleValid': WHATEVER THE INPUT: true; the input reads as it did. -/
def cycleValidSpec : ChangeSpec := { name := "cycleValid", fn := fun _ => fun
  | [d] => { results := [.lit (.bool true)], args := [d] }
  | _ => none }
def cycleValidRow : OpenClaim := { program := "ytmaochcdjmnffaa", sum := "15dd01e831d70d83a46a8deb3bd79de3d9da2f1958eb7a246dbc7109f3932946", func := "swarf/swarflaw44.CycleValid", spec := "cycleValid", unfollowed := true, recurses := true, apart := false }
def CycleValidSaid : Prop := cycleValidRow.holds Try.pinned (OpenSpec.ofChange cycleValidSpec)

/-- ITS FALSE NEIGHBOUR: 'it returns false'. Refute it at one input. -/
def cycleValidWrong : ChangeSpec := { name := "cycleValid", fn := fun _ => fun
  | [d] => { results := [.lit (.bool false)], args := [d] }
  | _ => none }
def CycleValidWrongFalsely : Prop := cycleValidRow.holds Try.pinned (OpenSpec.ofChange cycleValidWrong)

/-- 'swarflaw44.CycleEnds': WHATEVER THE INPUT: true; the input reads as it did. -/
def cycleEndsSpec : ChangeSpec := { name := "cycleEnds", fn := fun _ => fun
  | [d1, d2, d3] => { results := [.lit (.bool true)], args := [d1, d2, d3] }
  | _ => none }
def cycleEndsRow : OpenClaim := { program := "ytmaochcdjmnffaa", sum := "15dd01e831d70d83a46a8deb3bd79de3d9da2f1958eb7a246dbc7109f3932946", func := "swarf/swarflaw44.CycleEnds", spec := "cycleEnds", unfollowed := true, recurses := true, apart := false }
def CycleEndsSaid : Prop := cycleEndsRow.holds Try.pinned (OpenSpec.ofChange cycleEndsSpec)

/-- ITS FALSE NEIGHBOUR: 'it returns false'. Refute it at one input. -/
def cycleEndsWrong : ChangeSpec := { name := "cycleEnds", fn := fun _ => fun
  | [d1, d2, d3] => { results := [.lit (.bool false)], args := [d1, d2, d3] }
  | _ => none }
def CycleEndsWrongFalsely : Prop := cycleEndsRow.holds Try.pinned (OpenSpec.ofChange cycleEndsWrong)

/-- 'swarflaw44.CycleTravel': WHATEVER THE INPUT: true; the input reads as it did. -/
def cycleTravelSpec : ChangeSpec := { name := "cycleTravel", fn := fun _ => fun
  | [d1, d2] => { results := [.lit (.bool true)], args := [d1, d2] }
  | _ => none }
def cycleTravelRow : OpenClaim := { program := "ytmaochcdjmnffaa", sum := "15dd01e831d70d83a46a8deb3bd79de3d9da2f1958eb7a246dbc7109f3932946", func := "swarf/swarflaw44.CycleTravel", spec := "cycleTravel", unfollowed := true, recurses := true, apart := false }
def CycleTravelSaid : Prop := cycleTravelRow.holds Try.pinned (OpenSpec.ofChange cycleTravelSpec)

/-- ITS FALSE NEIGHBOUR: 'it returns false'. Refute it at one input. -/
def cycleTravelWrong : ChangeSpec := { name := "cycleTravel", fn := fun _ => fun
  | [d1, d2] => { results := [.lit (.bool false)], args := [d1, d2] }
  | _ => none }
def CycleTravelWrongFalsely : Prop := cycleTravelRow.holds Try.pinned (OpenSpec.ofChange cycleTravelWrong)

/-- 'swarflaw44.CycleRead': WHATEVER THE INPUT: true; the input reads as it did. -/
def cycleReadSpec : ChangeSpec := { name := "cycleRead", fn := fun _ => fun
  | [d1, d2, d3] => { results := [.lit (.bool true)], args := [d1, d2, d3] }
  | _ => none }
def cycleReadRow : OpenClaim := { program := "ytmaochcdjmnffaa", sum := "15dd01e831d70d83a46a8deb3bd79de3d9da2f1958eb7a246dbc7109f3932946", func := "swarf/swarflaw44.CycleRead", spec := "cycleRead", unfollowed := true, recurses := true, apart := false }
def CycleReadSaid : Prop := cycleReadRow.holds Try.pinned (OpenSpec.ofChange cycleReadSpec)

/-- ITS FALSE NEIGHBOUR: 'it returns false'. Refute it at one input. -/
def cycleReadWrong : ChangeSpec := { name := "cycleRead", fn := fun _ => fun
  | [d1, d2, d3] => { results := [.lit (.bool false)], args := [d1, d2, d3] }
  | _ => none }
def CycleReadWrongFalsely : Prop := cycleReadRow.holds Try.pinned (OpenSpec.ofChange cycleReadWrong)

/-- 'swarflaw44.CycleRestored': WHATEVER THE INPUT: true; the input reads as it did. -/
def cycleRestoredSpec : ChangeSpec := { name := "cycleRestored", fn := fun _ => fun
  | [d1, d2, d3] => { results := [.lit (.bool true)], args := [d1, d2, d3] }
  | _ => none }
def cycleRestoredRow : OpenClaim := { program := "ytmaochcdjmnffaa", sum := "15dd01e831d70d83a46a8deb3bd79de3d9da2f1958eb7a246dbc7109f3932946", func := "swarf/swarflaw44.CycleRestored", spec := "cycleRestored", unfollowed := true, recurses := true, apart := false }
def CycleRestoredSaid : Prop := cycleRestoredRow.holds Try.pinned (OpenSpec.ofChange cycleRestoredSpec)

/-- ITS FALSE NEIGHBOUR: 'it returns false'. Refute it at one input. -/
def cycleRestoredWrong : ChangeSpec := { name := "cycleRestored", fn := fun _ => fun
  | [d1, d2, d3] => { results := [.lit (.bool false)], args := [d1, d2, d3] }
  | _ => none }
def CycleRestoredWrongFalsely : Prop := cycleRestoredRow.holds Try.pinned (OpenSpec.ofChange cycleRestoredWrong)

/-- 'swarflaw44.CycleParts': WHATEVER THE INPUT: true; the input reads as it did. -/
def cyclePartsSpec : ChangeSpec := { name := "cycleParts", fn := fun _ => fun
  | [d1, d2, d3] => { results := [.lit (.bool true)], args := [d1, d2, d3] }
  | _ => none }
def cyclePartsRow : OpenClaim := { program := "ytmaochcdjmnffaa", sum := "15dd01e831d70d83a46a8deb3bd79de3d9da2f1958eb7a246dbc7109f3932946", func := "swarf/swarflaw44.CycleParts", spec := "cycleParts", unfollowed := true, recurses := true, apart := false }
def CyclePartsSaid : Prop := cyclePartsRow.holds Try.pinned (OpenSpec.ofChange cyclePartsSpec)

/-- ITS FALSE NEIGHBOUR: 'it returns false'. Refute it at one input. -/
def cyclePartsWrong : ChangeSpec := { name := "cycleParts", fn := fun _ => fun
  | [d1, d2, d3] => { results := [.lit (.bool false)], args := [d1, d2, d3] }
  | _ => none }
def CyclePartsWrongFalsely : Prop := cyclePartsRow.holds Try.pinned (OpenSpec.ofChange cyclePartsWrong)

/- THE SECOND FORM. 'bulk': how many values and letters a reading holds, each counted each time it is reached (what is shared counts as often as it is met; a slice's spare places count too). A statement '..UptoSaid' is the law's where the arguments, and the package variables that the reading takes, are together of bulk at most 1048576: NARROWER than '..Said'. Prove '..Said' where nothing that the law and all that it calls make is longer than what came in: it says more and counts as full. Else prove '..UptoSaid'. A law counts once. -/
mutual
def uptoBulk {H : Type} : DataW H → Nat
  | .lit (.string bytes) => bytes.length + 1
  | .lit _ => 1
  | .nil => 1
  | .ptr d => uptoBulk d + 1
  | .slice elems spare => uptoBulkAll elems + uptoBulkAll spare + 1
  | .agg parts => uptoBulkAll parts + 1
  | .iface _ d => uptoBulk d + 1
  | .map entries => uptoBulkEntries entries + 1
  | .held _ => 1
def uptoBulkAll {H : Type} : List (DataW H) → Nat
  | [] => 0
  | d :: r => uptoBulk d + uptoBulkAll r
def uptoBulkEntries {H : Type} : List (Lit × DataW H) → Nat
  | [] => 0
  | x :: r => uptoBulkEntry x + uptoBulkEntries r
def uptoBulkEntry {H : Type} : Lit × DataW H → Nat
  | (.string bytes, d) => bytes.length + uptoBulk d + 1
  | (_, d) => uptoBulk d + 1
 end
def uptoSmall : (H : Type) → List (DataW H) → Bool := fun _ ds => decide (uptoBulkAll ds ≤ 1048576)
def OpenSpec.upto (s : _root_.Go.ChangeSpec) : _root_.Go.OpenSpec := { _root_.Go.OpenSpec.ofChange s with cond := some uptoSmall }

/-- 'swarflaw44.CycleValid', WHERE WHAT IT READS IS OF BULK AT MOST 1048576: true; the input reads as it did. -/
def cycleValidUptoRow : OpenClaim := { program := "ytmaochcdjmnffaa", sum := "15dd01e831d70d83a46a8deb3bd79de3d9da2f1958eb7a246dbc7109f3932946", func := "swarf/swarflaw44.CycleValid", spec := "cycleValid", unfollowed := true, recurses := true, apart := false, narrowed := true }
def CycleValidUptoSaid : Prop := cycleValidUptoRow.holds Try.pinned (OpenSpec.upto cycleValidSpec)

/-- 'swarflaw44.CycleEnds', WHERE WHAT IT READS IS OF BULK AT MOST 1048576: true; the input reads as it did. -/
def cycleEndsUptoRow : OpenClaim := { program := "ytmaochcdjmnffaa", sum := "15dd01e831d70d83a46a8deb3bd79de3d9da2f1958eb7a246dbc7109f3932946", func := "swarf/swarflaw44.CycleEnds", spec := "cycleEnds", unfollowed := true, recurses := true, apart := false, narrowed := true }
def CycleEndsUptoSaid : Prop := cycleEndsUptoRow.holds Try.pinned (OpenSpec.upto cycleEndsSpec)

/-- 'swarflaw44.CycleTravel', WHERE WHAT IT READS IS OF BULK AT MOST 1048576: true; the input reads as it did. -/
def cycleTravelUptoRow : OpenClaim := { program := "ytmaochcdjmnffaa", sum := "15dd01e831d70d83a46a8deb3bd79de3d9da2f1958eb7a246dbc7109f3932946", func := "swarf/swarflaw44.CycleTravel", spec := "cycleTravel", unfollowed := true, recurses := true, apart := false, narrowed := true }
def CycleTravelUptoSaid : Prop := cycleTravelUptoRow.holds Try.pinned (OpenSpec.upto cycleTravelSpec)

/-- 'swarflaw44.CycleRead', WHERE WHAT IT READS IS OF BULK AT MOST 1048576: true; the input reads as it did. -/
def cycleReadUptoRow : OpenClaim := { program := "ytmaochcdjmnffaa", sum := "15dd01e831d70d83a46a8deb3bd79de3d9da2f1958eb7a246dbc7109f3932946", func := "swarf/swarflaw44.CycleRead", spec := "cycleRead", unfollowed := true, recurses := true, apart := false, narrowed := true }
def CycleReadUptoSaid : Prop := cycleReadUptoRow.holds Try.pinned (OpenSpec.upto cycleReadSpec)

/-- 'swarflaw44.CycleRestored', WHERE WHAT IT READS IS OF BULK AT MOST 1048576: true; the input reads as it did. -/
def cycleRestoredUptoRow : OpenClaim := { program := "ytmaochcdjmnffaa", sum := "15dd01e831d70d83a46a8deb3bd79de3d9da2f1958eb7a246dbc7109f3932946", func := "swarf/swarflaw44.CycleRestored", spec := "cycleRestored", unfollowed := true, recurses := true, apart := false, narrowed := true }
def CycleRestoredUptoSaid : Prop := cycleRestoredUptoRow.holds Try.pinned (OpenSpec.upto cycleRestoredSpec)

/-- 'swarflaw44.CycleParts', WHERE WHAT IT READS IS OF BULK AT MOST 1048576: true; the input reads as it did. -/
def cyclePartsUptoRow : OpenClaim := { program := "ytmaochcdjmnffaa", sum := "15dd01e831d70d83a46a8deb3bd79de3d9da2f1958eb7a246dbc7109f3932946", func := "swarf/swarflaw44.CycleParts", spec := "cycleParts", unfollowed := true, recurses := true, apart := false, narrowed := true }
def CyclePartsUptoSaid : Prop := cyclePartsUptoRow.holds Try.pinned (OpenSpec.upto cyclePartsSpec)

end Rows
end Go.Proofs.Ytmaochcdjmnffaa
