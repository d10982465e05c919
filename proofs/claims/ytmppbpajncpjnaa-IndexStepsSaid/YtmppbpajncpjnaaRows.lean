/-
  No cell of these rows narrows 'for every input' (looked for: loops, veiled, ifaces, maps, wideKeys, modest, calm, conditions, laid).
  DERIVED. THE GIVEN ROWS OF THIS SEAT. 4 by the template 'for every input the law returns true; each argument reads behind the call as it read before'; 0 by the template 'total and deterministic' (their statements: YtmppbpajncpjnaaTotals.lean).
  GIVEN WITH THE SEED: the statements are not yours to turn. If you find one false, say at which input.
  Laid BY PROGRAM, IN A SANDBOX (cutbox-rows.mjs): the forced cells as the released guide's own fill.sh prints them over the translation 3d0953d3f4a37464… (all of the seat's roots in one cut). By AI agents, Wed Nov 11 2026. No macro, syntax, notation, axiom, sorry.
-/
import Derived.Test.YtmppbpajncpjnaaChecked
import GoSem.Claim
import GoSem.ClaimJoined
import GoSem.ClaimMapViews
import Derived.JoinedTies
import Derived.KernelRfl
namespace Go.Proofs.Ytmppbpajncpjnaa
/- THE CELL 'sum', in the pinned program and in every row, IS THE sha256 OF THE DUMP (.gsa) THAT YtmppbpajncpjnaaProg.lean LOADS. Nothing in Lean hashes anything: it is a label: what it is worth is what the hold of that sum in a sandbox is worth. -/
noncomputable def Try.pinned : Pinned := { name := "ytmppbpajncpjnaa", sum := "3d0953d3f4a37464b9aa9422e03603824606cc90d8eca8ade40a2f003c54a22c", checked := Try.checked }
namespace Rows
def none {H : Type} : Left H := { results := [], args := [] }

/-- 'heavykeyslaw10.IndexTexts': WHATEVER THE INPUT: true; the input reads as it did. -/
def indexTextsSpec : ChangeSpec := { name := "indexTexts", fn := fun _ => fun
  | [d1, d2] => { results := [.lit (.bool true)], args := [d1, d2] }
  | _ => none }
def indexTextsRow : OpenClaim := { program := "ytmppbpajncpjnaa", sum := "3d0953d3f4a37464b9aa9422e03603824606cc90d8eca8ade40a2f003c54a22c", func := "heavykeys/heavykeyslaw10.IndexTexts", spec := "indexTexts", apart := false }
def IndexTextsSaid : Prop := indexTextsRow.holds Try.pinned (OpenSpec.ofChange indexTextsSpec)

/-- ITS FALSE NEIGHBOUR: 'it returns false'. Refute it at one input. -/
def indexTextsWrong : ChangeSpec := { name := "indexTexts", fn := fun _ => fun
  | [d1, d2] => { results := [.lit (.bool false)], args := [d1, d2] }
  | _ => none }
def IndexTextsWrongFalsely : Prop := indexTextsRow.holds Try.pinned (OpenSpec.ofChange indexTextsWrong)

/-- 'heavykeyslaw10.IndexCollides': WHATEVER THE INPUT: true; the input reads as it did. -/
def indexCollidesSpec : ChangeSpec := { name := "indexCollides", fn := fun _ => fun
  | [d1, d2] => { results := [.lit (.bool true)], args := [d1, d2] }
  | _ => none }
def indexCollidesRow : OpenClaim := { program := "ytmppbpajncpjnaa", sum := "3d0953d3f4a37464b9aa9422e03603824606cc90d8eca8ade40a2f003c54a22c", func := "heavykeys/heavykeyslaw10.IndexCollides", spec := "indexCollides", recurses := true, apart := false }
def IndexCollidesSaid : Prop := indexCollidesRow.holds Try.pinned (OpenSpec.ofChange indexCollidesSpec)

/-- ITS FALSE NEIGHBOUR: 'it returns false'. Refute it at one input. -/
def indexCollidesWrong : ChangeSpec := { name := "indexCollides", fn := fun _ => fun
  | [d1, d2] => { results := [.lit (.bool false)], args := [d1, d2] }
  | _ => none }
def IndexCollidesWrongFalsely : Prop := indexCollidesRow.holds Try.pinned (OpenSpec.ofChange indexCollidesWrong)

/-- 'heavykeyslaw10.IndexNew': WHATEVER THE INPUT: true; the input reads as it did. -/
def indexNewSpec : ChangeSpec := { name := "indexNew", fn := fun _ => fun
  | [d1, d2, d3] => { results := [.lit (.bool true)], args := [d1, d2, d3] }
  | _ => none }
def indexNewRow : OpenClaim := { program := "ytmppbpajncpjnaa", sum := "3d0953d3f4a37464b9aa9422e03603824606cc90d8eca8ade40a2f003c54a22c", func := "heavykeys/heavykeyslaw10.IndexNew", spec := "indexNew", recurses := true, apart := false }
def IndexNewSaid : Prop := indexNewRow.holds Try.pinned (OpenSpec.ofChange indexNewSpec)

/-- ITS FALSE NEIGHBOUR: 'it returns false'. Refute it at one input. -/
def indexNewWrong : ChangeSpec := { name := "indexNew", fn := fun _ => fun
  | [d1, d2, d3] => { results := [.lit (.bool false)], args := [d1, d2, d3] }
  | _ => none }
def IndexNewWrongFalsely : Prop := indexNewRow.holds Try.pinned (OpenSpec.ofChange indexNewWrong)

/-- 'heavykeyslaw10.IndexSteps': WHATEVER THE INPUT: true; the input reads as it did. -/
def indexStepsSpec : ChangeSpec := { name := "indexSteps", fn := fun _ => fun
  | [d1, d2, d3, d4] => { results := [.lit (.bool true)], args := [d1, d2, d3, d4] }
  | _ => none }
def indexStepsRow : OpenClaim := { program := "ytmppbpajncpjnaa", sum := "3d0953d3f4a37464b9aa9422e03603824606cc90d8eca8ade40a2f003c54a22c", func := "heavykeys/heavykeyslaw10.IndexSteps", spec := "indexSteps", recurses := true, apart := false }
def IndexStepsSaid : Prop := indexStepsRow.holds Try.pinned (OpenSpec.ofChange indexStepsSpec)

/-- ITS FALSE NEIGHBOUR: 'it returns false'. Refute it at one input. -/
def indexStepsWrong : ChangeSpec := { name := "indexSteps", fn := fun _ => fun
  | [d1, d2, d3, d4] => { results := [.lit (.bool false)], args := [d1, d2, d3, d4] }
  | _ => none }
def IndexStepsWrongFalsely : Prop := indexStepsRow.holds Try.pinned (OpenSpec.ofChange indexStepsWrong)

/- THE SECOND FORM. 'bulk': how many values and letters a reading holds, each counted each time it is reached (what is shared counts as often as it is met; a slice's spare places count too). A statement '..UptoSaid' is the law's where the arguments, and the package variables that the reading takes, are together of bulk at most 1048576: NARROWER than '..Said'. Prove '..Said' where nothing that the law and all that it calls make is longer than what came in: it says more and counts as full. Else prove '..UptoSaid'. A law counts once. -/
mutual
def uptoBulk {H : Type} : DataW H → Nat
  | .lit (.string bytes) => bytes.length + 1
  | .lit _ => 1
  | .nil => 1
  | .ptr d => uptoBulk d + 1
  | .slice elems spare => uptoBulkAll elems + uptoBulkAll spare + 1
  | .agg parts => uptoBulkAll parts + 1
  | .iface _ d => uptoBulk d + 1
  | .map entries => uptoBulkEntries entries + 1
  | .held _ => 1
def uptoBulkAll {H : Type} : List (DataW H) → Nat
  | [] => 0
  | d :: r => uptoBulk d + uptoBulkAll r
def uptoBulkEntries {H : Type} : List (Lit × DataW H) → Nat
  | [] => 0
  | x :: r => uptoBulkEntry x + uptoBulkEntries r
def uptoBulkEntry {H : Type} : Lit × DataW H → Nat
  | (.string bytes, d) => bytes.length + uptoBulk d + 1
  | (_, d) => uptoBulk d + 1
 end
def uptoSmall : (H : Type) → List (DataW H) → Bool := fun _ ds => decide (uptoBulkAll ds ≤ 1048576)
def OpenSpec.upto (s : _root_.Go.ChangeSpec) : _root_.Go.OpenSpec := { _root_.Go.OpenSpec.ofChange s with cond := some uptoSmall }

/-- 'heavykeyslaw10.IndexTexts', WHERE WHAT IT READS IS OF BULK AT MOST 1048576: true; the input reads as it did. -/
def indexTextsUptoRow : OpenClaim := { program := "ytmppbpajncpjnaa", sum := "3d0953d3f4a37464b9aa9422e03603824606cc90d8eca8ade40a2f003c54a22c", func := "heavykeys/heavykeyslaw10.IndexTexts", spec := "indexTexts", apart := false, narrowed := true }
def IndexTextsUptoSaid : Prop := indexTextsUptoRow.holds Try.pinned (OpenSpec.upto indexTextsSpec)

/-- 'heavykeyslaw10.IndexCollides', WHERE WHAT IT READS IS OF BULK AT MOST 1048576: true; the input reads as it did. -/
def indexCollidesUptoRow : OpenClaim := { program := "ytmppbpajncpjnaa", sum := "3d0953d3f4a37464b9aa9422e03603824606cc90d8eca8ade40a2f003c54a22c", func := "heavykeys/heavykeyslaw10.IndexCollides", spec := "indexCollides", recurses := true, apart := false, narrowed := true }
def IndexCollidesUptoSaid : Prop := indexCollidesUptoRow.holds Try.pinned (OpenSpec.upto indexCollidesSpec)

/-- 'heavykeyslaw10.IndexNew', WHERE WHAT IT READS IS OF BULK AT MOST 1048576: true; the input reads as it did. -/
def indexNewUptoRow : OpenClaim := { program := "ytmppbpajncpjnaa", sum := "3d0953d3f4a37464b9aa9422e03603824606cc90d8eca8ade40a2f003c54a22c", func := "heavykeys/heavykeyslaw10.IndexNew", spec := "indexNew", recurses := true, apart := false, narrowed := true }
def IndexNewUptoSaid : Prop := indexNewUptoRow.holds Try.pinned (OpenSpec.upto indexNewSpec)

/-- 'heavykeyslaw10.IndexSteps', WHERE WHAT IT READS IS OF BULK AT MOST 1048576: true; the input reads as it did. -/
def indexStepsUptoRow : OpenClaim := { program := "ytmppbpajncpjnaa", sum := "3d0953d3f4a37464b9aa9422e03603824606cc90d8eca8ade40a2f003c54a22c", func := "heavykeys/heavykeyslaw10.IndexSteps", spec := "indexSteps", recurses := true, apart := false, narrowed := true }
def IndexStepsUptoSaid : Prop := indexStepsUptoRow.holds Try.pinned (OpenSpec.upto indexStepsSpec)

end Rows
end Go.Proofs.Ytmppbpajncpjnaa
