/-
  No cell of these rows narrows 'for every input' (looked for: loops, veiled, ifaces, maps, wideKeys, modest, calm, conditions, laid).
  DERIVED. THE GIVEN ROWS OF THIS SEAT. 5 by the template 'for every input the law returns true; each argument reads behind the call as it read before'; 0 by the template 'total and deterministic' (their statements: YtdlpoonfcdoiiaaGreatTotals.lean).
  GIVEN WITH THE SEED: the statements are not yours to turn. If you find one false, say at which input.
  Laid BY PROGRAM, IN A SANDBOX (cutbox-rows.mjs): the forced cells as the released guide's own fill.sh prints them over the translation 744b1b96a189b099… (all of the seat's roots in one cut). By AI agents, Wed Nov 11 2026. No macro, syntax, notation, axiom, sorry.
-/
import Derived.Test.YtdlpoonfcdoiiaaGreatChecked
import GoSem.Claim
import GoSem.ClaimJoined
import GoSem.ClaimMapViews
import Derived.JoinedTies
import Derived.KernelRfl
namespace Go.Proofs.YtdlpoonfcdoiiaaGreat
/- THE CELL 'sum', in the pinned program and in every row, IS THE sha256 OF THE DUMP (.gsa) THAT YtdlpoonfcdoiiaaGreatProg.lean LOADS. Nothing in Lean hashes anything: it is a label: what it is worth is what the hold of that sum in a sandbox is worth. -/
noncomputable def Tryz.pinned : Pinned := { name := "ytdlpoonfcdoiiaagreat", sum := "744b1b96a189b09999a48cf5f553c7128c797c0d30087aabad5fd58b018df6cd", checked := Tryz.checked }
namespace Rows
def none {H : Type} : Left H := { results := [], args := [] }

/-- 'heavykeystop.SystemBounds': WHATEVER THE INPUT: true; the input reads as it did. -/
def systemBoundsSpec : ChangeSpec := { name := "systemBounds", fn := fun _ => fun
  | [d1, d2, d3] => { results := [.lit (.bool true)], args := [d1, d2, d3] }
  | _ => none }
def systemBoundsRow : OpenClaim := { program := "ytdlpoonfcdoiiaagreat", sum := "744b1b96a189b09999a48cf5f553c7128c797c0d30087aabad5fd58b018df6cd", func := "heavykeys/heavykeystop.SystemBounds", spec := "systemBounds", inPlace := ["internal/bytealg.abigen_runtime_cmpstring", "math/bits.Add64", "slices.overlaps[heavykeys/api.Entry]"], unfollowed := true, recurses := true, apart := false }
def SystemBoundsSaid : Prop := systemBoundsRow.holds Tryz.pinned (OpenSpec.ofChange systemBoundsSpec)

/-- ITS FALSE NEIGHBOUR: 'it returns false'. Refute it at one input. -/
def systemBoundsWrong : ChangeSpec := { name := "systemBounds", fn := fun _ => fun
  | [d1, d2, d3] => { results := [.lit (.bool false)], args := [d1, d2, d3] }
  | _ => none }
def SystemBoundsWrongFalsely : Prop := systemBoundsRow.holds Tryz.pinned (OpenSpec.ofChange systemBoundsWrong)

/-- 'heavykeystop.SystemMass': WHATEVER THE INPUT: true; the input reads as it did. -/
def systemMassSpec : ChangeSpec := { name := "systemMass", fn := fun _ => fun
  | [d1, d2, d3] => { results := [.lit (.bool true)], args := [d1, d2, d3] }
  | _ => none }
def systemMassRow : OpenClaim := { program := "ytdlpoonfcdoiiaagreat", sum := "744b1b96a189b09999a48cf5f553c7128c797c0d30087aabad5fd58b018df6cd", func := "heavykeys/heavykeystop.SystemMass", spec := "systemMass", inPlace := ["internal/bytealg.abigen_runtime_cmpstring", "math/bits.Add64", "slices.overlaps[heavykeys/api.Entry]"], unfollowed := true, recurses := true, apart := false }
def SystemMassSaid : Prop := systemMassRow.holds Tryz.pinned (OpenSpec.ofChange systemMassSpec)

/-- ITS FALSE NEIGHBOUR: 'it returns false'. Refute it at one input. -/
def systemMassWrong : ChangeSpec := { name := "systemMass", fn := fun _ => fun
  | [d1, d2, d3] => { results := [.lit (.bool false)], args := [d1, d2, d3] }
  | _ => none }
def SystemMassWrongFalsely : Prop := systemMassRow.holds Tryz.pinned (OpenSpec.ofChange systemMassWrong)

/-- 'heavykeystop.SystemRest': WHATEVER THE INPUT: true; the input reads as it did. -/
def systemRestSpec : ChangeSpec := { name := "systemRest", fn := fun _ => fun
  | [d1, d2, d3] => { results := [.lit (.bool true)], args := [d1, d2, d3] }
  | _ => none }
def systemRestRow : OpenClaim := { program := "ytdlpoonfcdoiiaagreat", sum := "744b1b96a189b09999a48cf5f553c7128c797c0d30087aabad5fd58b018df6cd", func := "heavykeys/heavykeystop.SystemRest", spec := "systemRest", inPlace := ["internal/bytealg.abigen_runtime_cmpstring", "math/bits.Add64", "slices.overlaps[heavykeys/api.Entry]"], unfollowed := true, recurses := true, apart := false }
def SystemRestSaid : Prop := systemRestRow.holds Tryz.pinned (OpenSpec.ofChange systemRestSpec)

/-- ITS FALSE NEIGHBOUR: 'it returns false'. Refute it at one input. -/
def systemRestWrong : ChangeSpec := { name := "systemRest", fn := fun _ => fun
  | [d1, d2, d3] => { results := [.lit (.bool false)], args := [d1, d2, d3] }
  | _ => none }
def SystemRestWrongFalsely : Prop := systemRestRow.holds Tryz.pinned (OpenSpec.ofChange systemRestWrong)

/-- 'heavykeystop.SystemSchedules': WHATEVER THE INPUT: true; the input reads as it did. -/
def systemSchedulesSpec : ChangeSpec := { name := "systemSchedules", fn := fun _ => fun
  | [d1, d2, d3, d4, d5] => { results := [.lit (.bool true)], args := [d1, d2, d3, d4, d5] }
  | _ => none }
def systemSchedulesRow : OpenClaim := { program := "ytdlpoonfcdoiiaagreat", sum := "744b1b96a189b09999a48cf5f553c7128c797c0d30087aabad5fd58b018df6cd", func := "heavykeys/heavykeystop.SystemSchedules", spec := "systemSchedules", inPlace := ["internal/bytealg.abigen_runtime_cmpstring", "math/bits.Add64", "slices.overlaps[heavykeys/api.Entry]"], unfollowed := true, recurses := true, apart := false }
def SystemSchedulesSaid : Prop := systemSchedulesRow.holds Tryz.pinned (OpenSpec.ofChange systemSchedulesSpec)

/-- ITS FALSE NEIGHBOUR: 'it returns false'. Refute it at one input. -/
def systemSchedulesWrong : ChangeSpec := { name := "systemSchedules", fn := fun _ => fun
  | [d1, d2, d3, d4, d5] => { results := [.lit (.bool false)], args := [d1, d2, d3, d4, d5] }
  | _ => none }
def SystemSchedulesWrongFalsely : Prop := systemSchedulesRow.holds Tryz.pinned (OpenSpec.ofChange systemSchedulesWrong)

/-- 'heavykeystop.SystemReported': WHATEVER THE INPUT: true; the input reads as it did. -/
def systemReportedSpec : ChangeSpec := { name := "systemReported", fn := fun _ => fun
  | [d1, d2, d3] => { results := [.lit (.bool true)], args := [d1, d2, d3] }
  | _ => none }
def systemReportedRow : OpenClaim := { program := "ytdlpoonfcdoiiaagreat", sum := "744b1b96a189b09999a48cf5f553c7128c797c0d30087aabad5fd58b018df6cd", func := "heavykeys/heavykeystop.SystemReported", spec := "systemReported", inPlace := ["internal/bytealg.abigen_runtime_cmpstring", "math/bits.Add64", "slices.overlaps[heavykeys/api.Entry]"], unfollowed := true, recurses := true, apart := false }
def SystemReportedSaid : Prop := systemReportedRow.holds Tryz.pinned (OpenSpec.ofChange systemReportedSpec)

/-- ITS FALSE NEIGHBOUR: 'it returns false'. Refute it at one input. -/
def systemReportedWrong : ChangeSpec := { name := "systemReported", fn := fun _ => fun
  | [d1, d2, d3] => { results := [.lit (.bool false)], args := [d1, d2, d3] }
  | _ => none }
def SystemReportedWrongFalsely : Prop := systemReportedRow.holds Tryz.pinned (OpenSpec.ofChange systemReportedWrong)

/- THE SECOND FORM. 'bulk': how many values and letters a reading holds, each counted each time it is reached (what is shared counts as often as it is met; a slice's spare places count too). A statement '..UptoSaid' is the law's where the arguments, and the package variables that the reading takes, are together of bulk at most 1048576: NARROWER than '..Said'. Prove '..Said' where nothing that the law and all that it calls make is longer than what came in: it says more and counts as full. Else prove '..UptoSaid'. A law counts once. -/
mutual
def uptoBulk {H : Type} : DataW H → Nat
  | .lit (.string bytes) => bytes.length + 1
  | .lit _ => 1
  | .nil => 1
  | .ptr d => uptoBulk d + 1
  | .slice elems spare => uptoBulkAll elems + uptoBulkAll spare + 1
  | .agg parts => uptoBulkAll parts + 1
  | .iface _ d => uptoBulk d + 1
  | .map entries => uptoBulkEntries entries + 1
  | .held _ => 1
def uptoBulkAll {H : Type} : List (DataW H) → Nat
  | [] => 0
  | d :: r => uptoBulk d + uptoBulkAll r
def uptoBulkEntries {H : Type} : List (Lit × DataW H) → Nat
  | [] => 0
  | x :: r => uptoBulkEntry x + uptoBulkEntries r
def uptoBulkEntry {H : Type} : Lit × DataW H → Nat
  | (.string bytes, d) => bytes.length + uptoBulk d + 1
  | (_, d) => uptoBulk d + 1
 end
def uptoSmall : (H : Type) → List (DataW H) → Bool := fun _ ds => decide (uptoBulkAll ds ≤ 1048576)
def OpenSpec.upto (s : _root_.Go.ChangeSpec) : _root_.Go.OpenSpec := { _root_.Go.OpenSpec.ofChange s with cond := some uptoSmall }

/-- 'heavykeystop.SystemBounds', WHERE WHAT IT READS IS OF BULK AT MOST 1048576: true; the input reads as it did. -/
def systemBoundsUptoRow : OpenClaim := { program := "ytdlpoonfcdoiiaagreat", sum := "744b1b96a189b09999a48cf5f553c7128c797c0d30087aabad5fd58b018df6cd", func := "heavykeys/heavykeystop.SystemBounds", spec := "systemBounds", inPlace := ["internal/bytealg.abigen_runtime_cmpstring", "math/bits.Add64", "slices.overlaps[heavykeys/api.Entry]"], unfollowed := true, recurses := true, apart := false, narrowed := true }
def SystemBoundsUptoSaid : Prop := systemBoundsUptoRow.holds Tryz.pinned (OpenSpec.upto systemBoundsSpec)

/-- 'heavykeystop.SystemMass', WHERE WHAT IT READS IS OF BULK AT MOST 1048576: true; the input reads as it did. -/
def systemMassUptoRow : OpenClaim := { program := "ytdlpoonfcdoiiaagreat", sum := "744b1b96a189b09999a48cf5f553c7128c797c0d30087aabad5fd58b018df6cd", func := "heavykeys/heavykeystop.SystemMass", spec := "systemMass", inPlace := ["internal/bytealg.abigen_runtime_cmpstring", "math/bits.Add64", "slices.overlaps[heavykeys/api.Entry]"], unfollowed := true, recurses := true, apart := false, narrowed := true }
def SystemMassUptoSaid : Prop := systemMassUptoRow.holds Tryz.pinned (OpenSpec.upto systemMassSpec)

/-- 'heavykeystop.SystemRest', WHERE WHAT IT READS IS OF BULK AT MOST 1048576: true; the input reads as it did. -/
def systemRestUptoRow : OpenClaim := { program := "ytdlpoonfcdoiiaagreat", sum := "744b1b96a189b09999a48cf5f553c7128c797c0d30087aabad5fd58b018df6cd", func := "heavykeys/heavykeystop.SystemRest", spec := "systemRest", inPlace := ["internal/bytealg.abigen_runtime_cmpstring", "math/bits.Add64", "slices.overlaps[heavykeys/api.Entry]"], unfollowed := true, recurses := true, apart := false, narrowed := true }
def SystemRestUptoSaid : Prop := systemRestUptoRow.holds Tryz.pinned (OpenSpec.upto systemRestSpec)

/-- 'heavykeystop.SystemSchedules', WHERE WHAT IT READS IS OF BULK AT MOST 1048576: true; the input reads as it did. -/
def systemSchedulesUptoRow : OpenClaim := { program := "ytdlpoonfcdoiiaagreat", sum := "744b1b96a189b09999a48cf5f553c7128c797c0d30087aabad5fd58b018df6cd", func := "heavykeys/heavykeystop.SystemSchedules", spec := "systemSchedules", inPlace := ["internal/bytealg.abigen_runtime_cmpstring", "math/bits.Add64", "slices.overlaps[heavykeys/api.Entry]"], unfollowed := true, recurses := true, apart := false, narrowed := true }
def SystemSchedulesUptoSaid : Prop := systemSchedulesUptoRow.holds Tryz.pinned (OpenSpec.upto systemSchedulesSpec)

/-- 'heavykeystop.SystemReported', WHERE WHAT IT READS IS OF BULK AT MOST 1048576: true; the input reads as it did. -/
def systemReportedUptoRow : OpenClaim := { program := "ytdlpoonfcdoiiaagreat", sum := "744b1b96a189b09999a48cf5f553c7128c797c0d30087aabad5fd58b018df6cd", func := "heavykeys/heavykeystop.SystemReported", spec := "systemReported", inPlace := ["internal/bytealg.abigen_runtime_cmpstring", "math/bits.Add64", "slices.overlaps[heavykeys/api.Entry]"], unfollowed := true, recurses := true, apart := false, narrowed := true }
def SystemReportedUptoSaid : Prop := systemReportedUptoRow.holds Tryz.pinned (OpenSpec.upto systemReportedSpec)

end Rows
end Go.Proofs.YtdlpoonfcdoiiaaGreat
