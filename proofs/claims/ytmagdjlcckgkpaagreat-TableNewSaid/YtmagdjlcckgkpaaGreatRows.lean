/-
  No cell of these rows narrows 'for every input' (looked for: loops, veiled, ifaces, maps, wideKeys, modest, calm, conditions, laid).
  DERIVED. THE GIVEN ROWS OF THIS SEAT. 5 by the template 'for every input the law returns true; each argument reads behind the call as it read before'; 0 by the template 'total and deterministic' (their statements: YtmagdjlcckgkpaaGreatTotals.lean).
  GIVEN WITH THE SEED: the statements are not yours to turn. If you find one false, say at which input.
  Laid BY PROGRAM, IN A SANDBOX (cutbox-rows.mjs): the forced cells as the released guide's own fill.sh prints them over the translation c83121cd52ffc13e… (all of the seat's roots in one cut). By AI agents, Wed Nov 11 2026. No macro, syntax, notation, axiom, sorry.
-/
import Derived.Test.YtmagdjlcckgkpaaGreatChecked
import GoSem.Claim
import GoSem.ClaimJoined
import GoSem.ClaimMapViews
import Derived.JoinedTies
import Derived.KernelRfl
namespace Go.Proofs.YtmagdjlcckgkpaaGreat
/- THE CELL 'sum', in the pinned program and in every row, IS THE sha256 OF THE DUMP (.gsa) THAT YtmagdjlcckgkpaaGreatProg.lean LOADS. Nothing in Lean hashes anything: it is a label: what it is worth is what the hold of that sum in a sandbox is worth. -/
noncomputable def Tryz.pinned : Pinned := { name := "ytmagdjlcckgkpaagreat", sum := "c83121cd52ffc13ef57fc0510bc71416474f0176ced5ec6d670c4c490156e451", checked := Tryz.checked }
namespace Rows
def none {H : Type} : Left H := { results := [], args := [] }

/-- 'heavykeyslaw15.TableBounds': WHATEVER THE INPUT: true; the input reads as it did. -/
def tableBoundsSpec : ChangeSpec := { name := "tableBounds", fn := fun _ => fun
  | [d1, d2, d3, d4] => { results := [.lit (.bool true)], args := [d1, d2, d3, d4] }
  | _ => none }
def tableBoundsRow : OpenClaim := { program := "ytmagdjlcckgkpaagreat", sum := "c83121cd52ffc13ef57fc0510bc71416474f0176ced5ec6d670c4c490156e451", func := "heavykeys/heavykeyslaw15.TableBounds", spec := "tableBounds", inPlace := ["math/bits.Add64"], unfollowed := true, recurses := true, apart := false }
def TableBoundsSaid : Prop := tableBoundsRow.holds Tryz.pinned (OpenSpec.ofChange tableBoundsSpec)

/-- ITS FALSE NEIGHBOUR: 'it returns false'. Refute it at one input. -/
def tableBoundsWrong : ChangeSpec := { name := "tableBounds", fn := fun _ => fun
  | [d1, d2, d3, d4] => { results := [.lit (.bool false)], args := [d1, d2, d3, d4] }
  | _ => none }
def TableBoundsWrongFalsely : Prop := tableBoundsRow.holds Tryz.pinned (OpenSpec.ofChange tableBoundsWrong)

/-- 'heavykeyslaw15.TableTaken': WHATEVER THE INPUT: true; the input reads as it did. -/
def tableTakenSpec : ChangeSpec := { name := "tableTaken", fn := fun _ => fun
  | [d1, d2, d3, d4] => { results := [.lit (.bool true)], args := [d1, d2, d3, d4] }
  | _ => none }
def tableTakenRow : OpenClaim := { program := "ytmagdjlcckgkpaagreat", sum := "c83121cd52ffc13ef57fc0510bc71416474f0176ced5ec6d670c4c490156e451", func := "heavykeys/heavykeyslaw15.TableTaken", spec := "tableTaken", unfollowed := true, recurses := true, apart := false }
def TableTakenSaid : Prop := tableTakenRow.holds Tryz.pinned (OpenSpec.ofChange tableTakenSpec)

/-- ITS FALSE NEIGHBOUR: 'it returns false'. Refute it at one input. -/
def tableTakenWrong : ChangeSpec := { name := "tableTaken", fn := fun _ => fun
  | [d1, d2, d3, d4] => { results := [.lit (.bool false)], args := [d1, d2, d3, d4] }
  | _ => none }
def TableTakenWrongFalsely : Prop := tableTakenRow.holds Tryz.pinned (OpenSpec.ofChange tableTakenWrong)

/-- 'heavykeyslaw15.TableLimit': WHATEVER THE INPUT: true; the input reads as it did. -/
def tableLimitSpec : ChangeSpec := { name := "tableLimit", fn := fun _ => fun
  | [d1, d2, d3, d4] => { results := [.lit (.bool true)], args := [d1, d2, d3, d4] }
  | _ => none }
def tableLimitRow : OpenClaim := { program := "ytmagdjlcckgkpaagreat", sum := "c83121cd52ffc13ef57fc0510bc71416474f0176ced5ec6d670c4c490156e451", func := "heavykeys/heavykeyslaw15.TableLimit", spec := "tableLimit", inPlace := ["math/bits.Add64"], unfollowed := true, recurses := true, apart := false }
def TableLimitSaid : Prop := tableLimitRow.holds Tryz.pinned (OpenSpec.ofChange tableLimitSpec)

/-- ITS FALSE NEIGHBOUR: 'it returns false'. Refute it at one input. -/
def tableLimitWrong : ChangeSpec := { name := "tableLimit", fn := fun _ => fun
  | [d1, d2, d3, d4] => { results := [.lit (.bool false)], args := [d1, d2, d3, d4] }
  | _ => none }
def TableLimitWrongFalsely : Prop := tableLimitRow.holds Tryz.pinned (OpenSpec.ofChange tableLimitWrong)

/-- 'heavykeyslaw15.TableNew': WHATEVER THE INPUT: true; the input reads as it did. -/
def tableNewSpec : ChangeSpec := { name := "tableNew", fn := fun _ => fun
  | [d1, d2, d3] => { results := [.lit (.bool true)], args := [d1, d2, d3] }
  | _ => none }
def tableNewRow : OpenClaim := { program := "ytmagdjlcckgkpaagreat", sum := "c83121cd52ffc13ef57fc0510bc71416474f0176ced5ec6d670c4c490156e451", func := "heavykeys/heavykeyslaw15.TableNew", spec := "tableNew", inPlace := ["math/bits.Add64"], unfollowed := true, recurses := true, apart := false }
def TableNewSaid : Prop := tableNewRow.holds Tryz.pinned (OpenSpec.ofChange tableNewSpec)

/-- ITS FALSE NEIGHBOUR: 'it returns false'. Refute it at one input. -/
def tableNewWrong : ChangeSpec := { name := "tableNew", fn := fun _ => fun
  | [d1, d2, d3] => { results := [.lit (.bool false)], args := [d1, d2, d3] }
  | _ => none }
def TableNewWrongFalsely : Prop := tableNewRow.holds Tryz.pinned (OpenSpec.ofChange tableNewWrong)

/-- 'heavykeyslaw15.TableSteps': WHATEVER THE INPUT: true; the input reads as it did. -/
def tableStepsSpec : ChangeSpec := { name := "tableSteps", fn := fun _ => fun
  | [d1, d2, d3, d4] => { results := [.lit (.bool true)], args := [d1, d2, d3, d4] }
  | _ => none }
def tableStepsRow : OpenClaim := { program := "ytmagdjlcckgkpaagreat", sum := "c83121cd52ffc13ef57fc0510bc71416474f0176ced5ec6d670c4c490156e451", func := "heavykeys/heavykeyslaw15.TableSteps", spec := "tableSteps", inPlace := ["math/bits.Add64"], unfollowed := true, recurses := true, apart := false }
def TableStepsSaid : Prop := tableStepsRow.holds Tryz.pinned (OpenSpec.ofChange tableStepsSpec)

/-- ITS FALSE NEIGHBOUR: 'it returns false'. Refute it at one input. -/
def tableStepsWrong : ChangeSpec := { name := "tableSteps", fn := fun _ => fun
  | [d1, d2, d3, d4] => { results := [.lit (.bool false)], args := [d1, d2, d3, d4] }
  | _ => none }
def TableStepsWrongFalsely : Prop := tableStepsRow.holds Tryz.pinned (OpenSpec.ofChange tableStepsWrong)

/- THE SECOND FORM. 'bulk': how many values and letters a reading holds, each counted each time it is reached (what is shared counts as often as it is met; a slice's spare places count too). A statement '..UptoSaid' is the law's where the arguments, and the package variables that the reading takes, are together of bulk at most 1048576: NARROWER than '..Said'. Prove '..Said' where nothing that the law and all that it calls make is longer than what came in: it says more and counts as full. Else prove '..UptoSaid'. A law counts once. -/
mutual
def uptoBulk {H : Type} : DataW H → Nat
  | .lit (.string bytes) => bytes.length + 1
  | .lit _ => 1
  | .nil => 1
  | .ptr d => uptoBulk d + 1
  | .slice elems spare => uptoBulkAll elems + uptoBulkAll spare + 1
  | .agg parts => uptoBulkAll parts + 1
  | .iface _ d => uptoBulk d + 1
  | .map entries => uptoBulkEntries entries + 1
  | .held _ => 1
def uptoBulkAll {H : Type} : List (DataW H) → Nat
  | [] => 0
  | d :: r => uptoBulk d + uptoBulkAll r
def uptoBulkEntries {H : Type} : List (Lit × DataW H) → Nat
  | [] => 0
  | x :: r => uptoBulkEntry x + uptoBulkEntries r
def uptoBulkEntry {H : Type} : Lit × DataW H → Nat
  | (.string bytes, d) => bytes.length + uptoBulk d + 1
  | (_, d) => uptoBulk d + 1
 end
def uptoSmall : (H : Type) → List (DataW H) → Bool := fun _ ds => decide (uptoBulkAll ds ≤ 1048576)
def OpenSpec.upto (s : _root_.Go.ChangeSpec) : _root_.Go.OpenSpec := { _root_.Go.OpenSpec.ofChange s with cond := some uptoSmall }

/-- 'heavykeyslaw15.TableBounds', WHERE WHAT IT READS IS OF BULK AT MOST 1048576: true; the input reads as it did. -/
def tableBoundsUptoRow : OpenClaim := { program := "ytmagdjlcckgkpaagreat", sum := "c83121cd52ffc13ef57fc0510bc71416474f0176ced5ec6d670c4c490156e451", func := "heavykeys/heavykeyslaw15.TableBounds", spec := "tableBounds", inPlace := ["math/bits.Add64"], unfollowed := true, recurses := true, apart := false, narrowed := true }
def TableBoundsUptoSaid : Prop := tableBoundsUptoRow.holds Tryz.pinned (OpenSpec.upto tableBoundsSpec)

/-- 'heavykeyslaw15.TableTaken', WHERE WHAT IT READS IS OF BULK AT MOST 1048576: true; the input reads as it did. -/
def tableTakenUptoRow : OpenClaim := { program := "ytmagdjlcckgkpaagreat", sum := "c83121cd52ffc13ef57fc0510bc71416474f0176ced5ec6d670c4c490156e451", func := "heavykeys/heavykeyslaw15.TableTaken", spec := "tableTaken", unfollowed := true, recurses := true, apart := false, narrowed := true }
def TableTakenUptoSaid : Prop := tableTakenUptoRow.holds Tryz.pinned (OpenSpec.upto tableTakenSpec)

/-- 'heavykeyslaw15.TableLimit', WHERE WHAT IT READS IS OF BULK AT MOST 1048576: true; the input reads as it did. -/
def tableLimitUptoRow : OpenClaim := { program := "ytmagdjlcckgkpaagreat", sum := "c83121cd52ffc13ef57fc0510bc71416474f0176ced5ec6d670c4c490156e451", func := "heavykeys/heavykeyslaw15.TableLimit", spec := "tableLimit", inPlace := ["math/bits.Add64"], unfollowed := true, recurses := true, apart := false, narrowed := true }
def TableLimitUptoSaid : Prop := tableLimitUptoRow.holds Tryz.pinned (OpenSpec.upto tableLimitSpec)

/-- 'heavykeyslaw15.TableNew', WHERE WHAT IT READS IS OF BULK AT MOST 1048576: true; the input reads as it did. -/
def tableNewUptoRow : OpenClaim := { program := "ytmagdjlcckgkpaagreat", sum := "c83121cd52ffc13ef57fc0510bc71416474f0176ced5ec6d670c4c490156e451", func := "heavykeys/heavykeyslaw15.TableNew", spec := "tableNew", inPlace := ["math/bits.Add64"], unfollowed := true, recurses := true, apart := false, narrowed := true }
def TableNewUptoSaid : Prop := tableNewUptoRow.holds Tryz.pinned (OpenSpec.upto tableNewSpec)

/-- 'heavykeyslaw15.TableSteps', WHERE WHAT IT READS IS OF BULK AT MOST 1048576: true; the input reads as it did. -/
def tableStepsUptoRow : OpenClaim := { program := "ytmagdjlcckgkpaagreat", sum := "c83121cd52ffc13ef57fc0510bc71416474f0176ced5ec6d670c4c490156e451", func := "heavykeys/heavykeyslaw15.TableSteps", spec := "tableSteps", inPlace := ["math/bits.Add64"], unfollowed := true, recurses := true, apart := false, narrowed := true }
def TableStepsUptoSaid : Prop := tableStepsUptoRow.holds Tryz.pinned (OpenSpec.upto tableStepsSpec)

end Rows
end Go.Proofs.YtmagdjlcckgkpaaGreat
