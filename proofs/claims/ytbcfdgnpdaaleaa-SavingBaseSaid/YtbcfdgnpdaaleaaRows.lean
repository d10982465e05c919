/-
  No cell of these rows narrows 'for every input' (looked for: loops, veiled, ifaces, maps, wideKeys, modest, calm, conditions, laid).
  DERIVED. THE GIVEN ROWS OF THIS SEAT. 4 by the template 'for every input the law returns true; each argument reads behind the call as it read before'; 0 by the template 'total and deterministic' (their statements: YtbcfdgnpdaaleaaTotals.lean).
  GIVEN WITH THE SEED: the statements are not yours to turn. If you find one false, say at which input.
  Laid BY PROGRAM, IN A SANDBOX (cutbox-rows.mjs): the forced cells as the released guide's own fill.sh prints them over the translation 0f1a2f93811e232d… (all of the seat's roots in one cut). By AI agents, Wed Nov 11 2026. No macro, syntax, notation, axiom, sorry.
-/
import Derived.Test.YtbcfdgnpdaaleaaChecked
import GoSem.Claim
import GoSem.ClaimJoined
import GoSem.ClaimMapViews
import Derived.JoinedTies
import Derived.KernelRfl
namespace Go.Proofs.Ytbcfdgnpdaaleaa
/- THE CELL 'sum', in the pinned program and in every row, IS THE sha256 OF THE DUMP (.gsa) THAT YtbcfdgnpdaaleaaProg.lean LOADS. Nothing in Lean hashes anything: it is a label: what it is worth is what the hold of that sum in a sandbox is worth. -/
noncomputable def Try.pinned : Pinned := { name := "ytbcfdgnpdaaleaa", sum := "0f1a2f93811e232d0bafa0049ab2ab482f377b400b9ee5aca8bbccc01b1e811c", checked := Try.checked }
namespace Rows
def none {H : Type} : Left H := { results := [], args := [] }

/-- 'heavykeyslaw13.SavingHeavy': WHATEVER THE INPUT: true; the input reads as it did. -/
def savingHeavySpec : ChangeSpec := { name := "savingHeavy", fn := fun _ => fun
  | [d1, d2, d3] => { results := [.lit (.bool true)], args := [d1, d2, d3] }
  | _ => none }
def savingHeavyRow : OpenClaim := { program := "ytbcfdgnpdaaleaa", sum := "0f1a2f93811e232d0bafa0049ab2ab482f377b400b9ee5aca8bbccc01b1e811c", func := "heavykeys/heavykeyslaw13.SavingHeavy", spec := "savingHeavy", inPlace := ["math/bits.Add64"], apart := false }
def SavingHeavySaid : Prop := savingHeavyRow.holds Try.pinned (OpenSpec.ofChange savingHeavySpec)

/-- ITS FALSE NEIGHBOUR: 'it returns false'. Refute it at one input. -/
def savingHeavyWrong : ChangeSpec := { name := "savingHeavy", fn := fun _ => fun
  | [d1, d2, d3] => { results := [.lit (.bool false)], args := [d1, d2, d3] }
  | _ => none }
def SavingHeavyWrongFalsely : Prop := savingHeavyRow.holds Try.pinned (OpenSpec.ofChange savingHeavyWrong)

/-- 'heavykeyslaw13.SavingBounds': WHATEVER THE INPUT: true; the input reads as it did. -/
def savingBoundsSpec : ChangeSpec := { name := "savingBounds", fn := fun _ => fun
  | [d1, d2, d3] => { results := [.lit (.bool true)], args := [d1, d2, d3] }
  | _ => none }
def savingBoundsRow : OpenClaim := { program := "ytbcfdgnpdaaleaa", sum := "0f1a2f93811e232d0bafa0049ab2ab482f377b400b9ee5aca8bbccc01b1e811c", func := "heavykeys/heavykeyslaw13.SavingBounds", spec := "savingBounds", inPlace := ["math/bits.Add64"], recurses := true, apart := false }
def SavingBoundsSaid : Prop := savingBoundsRow.holds Try.pinned (OpenSpec.ofChange savingBoundsSpec)

/-- ITS FALSE NEIGHBOUR: 'it returns false'. Refute it at one input. -/
def savingBoundsWrong : ChangeSpec := { name := "savingBounds", fn := fun _ => fun
  | [d1, d2, d3] => { results := [.lit (.bool false)], args := [d1, d2, d3] }
  | _ => none }
def SavingBoundsWrongFalsely : Prop := savingBoundsRow.holds Try.pinned (OpenSpec.ofChange savingBoundsWrong)

/-- 'heavykeyslaw13.SavingNew': WHATEVER THE INPUT: true; the input reads as it did. -/
def savingNewSpec : ChangeSpec := { name := "savingNew", fn := fun _ => fun
  | [d] => { results := [.lit (.bool true)], args := [d] }
  | _ => none }
def savingNewRow : OpenClaim := { program := "ytbcfdgnpdaaleaa", sum := "0f1a2f93811e232d0bafa0049ab2ab482f377b400b9ee5aca8bbccc01b1e811c", func := "heavykeys/heavykeyslaw13.SavingNew", spec := "savingNew", inPlace := ["math/bits.Add64"], recurses := true, apart := false }
def SavingNewSaid : Prop := savingNewRow.holds Try.pinned (OpenSpec.ofChange savingNewSpec)

/-- ITS FALSE NEIGHBOUR: 'it returns false'. Refute it at one input. -/
def savingNewWrong : ChangeSpec := { name := "savingNew", fn := fun _ => fun
  | [d] => { results := [.lit (.bool false)], args := [d] }
  | _ => none }
def SavingNewWrongFalsely : Prop := savingNewRow.holds Try.pinned (OpenSpec.ofChange savingNewWrong)

/-- 'heavykeyslaw13.SavingBase': WHATEVER THE INPUT: true; the input reads as it did. -/
def savingBaseSpec : ChangeSpec := { name := "savingBase", fn := fun _ => fun
  | [d1, d2, d3] => { results := [.lit (.bool true)], args := [d1, d2, d3] }
  | _ => none }
def savingBaseRow : OpenClaim := { program := "ytbcfdgnpdaaleaa", sum := "0f1a2f93811e232d0bafa0049ab2ab482f377b400b9ee5aca8bbccc01b1e811c", func := "heavykeys/heavykeyslaw13.SavingBase", spec := "savingBase", inPlace := ["math/bits.Add64"], recurses := true, apart := false }
def SavingBaseSaid : Prop := savingBaseRow.holds Try.pinned (OpenSpec.ofChange savingBaseSpec)

/-- ITS FALSE NEIGHBOUR: 'it returns false'. Refute it at one input. -/
def savingBaseWrong : ChangeSpec := { name := "savingBase", fn := fun _ => fun
  | [d1, d2, d3] => { results := [.lit (.bool false)], args := [d1, d2, d3] }
  | _ => none }
def SavingBaseWrongFalsely : Prop := savingBaseRow.holds Try.pinned (OpenSpec.ofChange savingBaseWrong)

/- THE SECOND FORM. 'bulk': how many values and letters a reading holds, each counted each time it is reached (what is shared counts as often as it is met; a slice's spare places count too). A statement '..UptoSaid' is the law's where the arguments, and the package variables that the reading takes, are together of bulk at most 1048576: NARROWER than '..Said'. Prove '..Said' where nothing that the law and all that it calls make is longer than what came in: it says more and counts as full. Else prove '..UptoSaid'. A law counts once. -/
mutual
def uptoBulk {H : Type} : DataW H → Nat
  | .lit (.string bytes) => bytes.length + 1
  | .lit _ => 1
  | .nil => 1
  | .ptr d => uptoBulk d + 1
  | .slice elems spare => uptoBulkAll elems + uptoBulkAll spare + 1
  | .agg parts => uptoBulkAll parts + 1
  | .iface _ d => uptoBulk d + 1
  | .map entries => uptoBulkEntries entries + 1
  | .held _ => 1
def uptoBulkAll {H : Type} : List (DataW H) → Nat
  | [] => 0
  | d :: r => uptoBulk d + uptoBulkAll r
def uptoBulkEntries {H : Type} : List (Lit × DataW H) → Nat
  | [] => 0
  | x :: r => uptoBulkEntry x + uptoBulkEntries r
def uptoBulkEntry {H : Type} : Lit × DataW H → Nat
  | (.string bytes, d) => bytes.length + uptoBulk d + 1
  | (_, d) => uptoBulk d + 1
 end
def uptoSmall : (H : Type) → List (DataW H) → Bool := fun _ ds => decide (uptoBulkAll ds ≤ 1048576)
def OpenSpec.upto (s : _root_.Go.ChangeSpec) : _root_.Go.OpenSpec := { _root_.Go.OpenSpec.ofChange s with cond := some uptoSmall }

/-- 'heavykeyslaw13.SavingHeavy', WHERE WHAT IT READS IS OF BULK AT MOST 1048576: true; the input reads as it did. -/
def savingHeavyUptoRow : OpenClaim := { program := "ytbcfdgnpdaaleaa", sum := "0f1a2f93811e232d0bafa0049ab2ab482f377b400b9ee5aca8bbccc01b1e811c", func := "heavykeys/heavykeyslaw13.SavingHeavy", spec := "savingHeavy", inPlace := ["math/bits.Add64"], apart := false, narrowed := true }
def SavingHeavyUptoSaid : Prop := savingHeavyUptoRow.holds Try.pinned (OpenSpec.upto savingHeavySpec)

/-- 'heavykeyslaw13.SavingBounds', WHERE WHAT IT READS IS OF BULK AT MOST 1048576: true; the input reads as it did. -/
def savingBoundsUptoRow : OpenClaim := { program := "ytbcfdgnpdaaleaa", sum := "0f1a2f93811e232d0bafa0049ab2ab482f377b400b9ee5aca8bbccc01b1e811c", func := "heavykeys/heavykeyslaw13.SavingBounds", spec := "savingBounds", inPlace := ["math/bits.Add64"], recurses := true, apart := false, narrowed := true }
def SavingBoundsUptoSaid : Prop := savingBoundsUptoRow.holds Try.pinned (OpenSpec.upto savingBoundsSpec)

/-- 'heavykeyslaw13.SavingNew', WHERE WHAT IT READS IS OF BULK AT MOST 1048576: true; the input reads as it did. -/
def savingNewUptoRow : OpenClaim := { program := "ytbcfdgnpdaaleaa", sum := "0f1a2f93811e232d0bafa0049ab2ab482f377b400b9ee5aca8bbccc01b1e811c", func := "heavykeys/heavykeyslaw13.SavingNew", spec := "savingNew", inPlace := ["math/bits.Add64"], recurses := true, apart := false, narrowed := true }
def SavingNewUptoSaid : Prop := savingNewUptoRow.holds Try.pinned (OpenSpec.upto savingNewSpec)

/-- 'heavykeyslaw13.SavingBase', WHERE WHAT IT READS IS OF BULK AT MOST 1048576: true; the input reads as it did. -/
def savingBaseUptoRow : OpenClaim := { program := "ytbcfdgnpdaaleaa", sum := "0f1a2f93811e232d0bafa0049ab2ab482f377b400b9ee5aca8bbccc01b1e811c", func := "heavykeys/heavykeyslaw13.SavingBase", spec := "savingBase", inPlace := ["math/bits.Add64"], recurses := true, apart := false, narrowed := true }
def SavingBaseUptoSaid : Prop := savingBaseUptoRow.holds Try.pinned (OpenSpec.upto savingBaseSpec)

end Rows
end Go.Proofs.Ytbcfdgnpdaaleaa
