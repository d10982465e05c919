/-
  No cell of these rows narrows 'for every input' (looked for: loops, veiled, ifaces, maps, wideKeys, modest, calm, conditions, laid).
  DERIVED. THE GIVEN ROWS OF THIS SEAT. 5 by the template 'for every input the law returns true; each argument reads behind the call as it read before'; 0 by the template 'total and deterministic' (their statements: YtkoklfagmbaapaaTotals.lean).
  GIVEN WITH THE SEED: the statements are not yours to turn. If you find one false, say at which input.
  Laid BY PROGRAM, IN A SANDBOX (cutbox-rows.mjs): the forced cells as the released guide's own fill.sh prints them over the translation a6a64f72c7ff8b77… (all of the seat's roots in one cut). By AI agents, Wed Nov 11 2026. No macro, syntax, notation, axiom, sorry.
-/
import Derived.Test.YtkoklfagmbaapaaChecked
import GoSem.Claim
import GoSem.ClaimJoined
import GoSem.ClaimMapViews
import Derived.JoinedTies
import Derived.KernelRfl
namespace Go.Proofs.Ytkoklfagmbaapaa
/- THE CELL 'sum', in the pinned program and in every row, IS THE sha256 OF THE DUMP (.gsa) THAT YtkoklfagmbaapaaProg.lean LOADS. Nothing in Lean hashes anything: it is a label: what it is worth is what the hold of that sum in a sandbox is worth. -/
noncomputable def Try.pinned : Pinned := { name := "ytkoklfagmbaapaa", sum := "a6a64f72c7ff8b77d754d6f0d5af5c855a74a640dfe68e07adc502f372f1a252", checked := Try.checked }
namespace Rows
def none {H : Type} : Left H := { results := [], args := [] }

/-- 'heavykeyslaw14.FrequentBounds': WHATEVER THE INPUT: true; the input reads as it did. -/
def frequentBoundsSpec : ChangeSpec := { name := "frequentBounds", fn := fun _ => fun
  | [d1, d2, d3] => { results := [.lit (.bool true)], args := [d1, d2, d3] }
  | _ => none }
def frequentBoundsRow : OpenClaim := { program := "ytkoklfagmbaapaa", sum := "a6a64f72c7ff8b77d754d6f0d5af5c855a74a640dfe68e07adc502f372f1a252", func := "heavykeys/heavykeyslaw14.FrequentBounds", spec := "frequentBounds", inPlace := ["math/bits.Add64"], unfollowed := true, recurses := true, apart := false }
def FrequentBoundsSaid : Prop := frequentBoundsRow.holds Try.pinned (OpenSpec.ofChange frequentBoundsSpec)

/-- ITS FALSE NEIGHBOUR: 'it returns false'. Refute it at one input. -/
def frequentBoundsWrong : ChangeSpec := { name := "frequentBounds", fn := fun _ => fun
  | [d1, d2, d3] => { results := [.lit (.bool false)], args := [d1, d2, d3] }
  | _ => none }
def FrequentBoundsWrongFalsely : Prop := frequentBoundsRow.holds Try.pinned (OpenSpec.ofChange frequentBoundsWrong)

/-- 'heavykeyslaw14.FrequentHeavy': WHATEVER THE INPUT: true; the input reads as it did. -/
def frequentHeavySpec : ChangeSpec := { name := "frequentHeavy", fn := fun _ => fun
  | [d1, d2, d3] => { results := [.lit (.bool true)], args := [d1, d2, d3] }
  | _ => none }
def frequentHeavyRow : OpenClaim := { program := "ytkoklfagmbaapaa", sum := "a6a64f72c7ff8b77d754d6f0d5af5c855a74a640dfe68e07adc502f372f1a252", func := "heavykeys/heavykeyslaw14.FrequentHeavy", spec := "frequentHeavy", inPlace := ["math/bits.Add64"], unfollowed := true, recurses := true, apart := false }
def FrequentHeavySaid : Prop := frequentHeavyRow.holds Try.pinned (OpenSpec.ofChange frequentHeavySpec)

/-- ITS FALSE NEIGHBOUR: 'it returns false'. Refute it at one input. -/
def frequentHeavyWrong : ChangeSpec := { name := "frequentHeavy", fn := fun _ => fun
  | [d1, d2, d3] => { results := [.lit (.bool false)], args := [d1, d2, d3] }
  | _ => none }
def FrequentHeavyWrongFalsely : Prop := frequentHeavyRow.holds Try.pinned (OpenSpec.ofChange frequentHeavyWrong)

/-- 'heavykeyslaw14.FrequentNew': WHATEVER THE INPUT: true; the input reads as it did. -/
def frequentNewSpec : ChangeSpec := { name := "frequentNew", fn := fun _ => fun
  | [d] => { results := [.lit (.bool true)], args := [d] }
  | _ => none }
def frequentNewRow : OpenClaim := { program := "ytkoklfagmbaapaa", sum := "a6a64f72c7ff8b77d754d6f0d5af5c855a74a640dfe68e07adc502f372f1a252", func := "heavykeys/heavykeyslaw14.FrequentNew", spec := "frequentNew", inPlace := ["math/bits.Add64"], unfollowed := true, recurses := true, apart := false }
def FrequentNewSaid : Prop := frequentNewRow.holds Try.pinned (OpenSpec.ofChange frequentNewSpec)

/-- ITS FALSE NEIGHBOUR: 'it returns false'. Refute it at one input. -/
def frequentNewWrong : ChangeSpec := { name := "frequentNew", fn := fun _ => fun
  | [d] => { results := [.lit (.bool false)], args := [d] }
  | _ => none }
def FrequentNewWrongFalsely : Prop := frequentNewRow.holds Try.pinned (OpenSpec.ofChange frequentNewWrong)

/-- 'heavykeyslaw14.FrequentSteps': WHATEVER THE INPUT: true; the input reads as it did. -/
def frequentStepsSpec : ChangeSpec := { name := "frequentSteps", fn := fun _ => fun
  | [d1, d2, d3, d4, d5] => { results := [.lit (.bool true)], args := [d1, d2, d3, d4, d5] }
  | _ => none }
def frequentStepsRow : OpenClaim := { program := "ytkoklfagmbaapaa", sum := "a6a64f72c7ff8b77d754d6f0d5af5c855a74a640dfe68e07adc502f372f1a252", func := "heavykeys/heavykeyslaw14.FrequentSteps", spec := "frequentSteps", inPlace := ["math/bits.Add64"], unfollowed := true, recurses := true, apart := false }
def FrequentStepsSaid : Prop := frequentStepsRow.holds Try.pinned (OpenSpec.ofChange frequentStepsSpec)

/-- ITS FALSE NEIGHBOUR: 'it returns false'. Refute it at one input. -/
def frequentStepsWrong : ChangeSpec := { name := "frequentSteps", fn := fun _ => fun
  | [d1, d2, d3, d4, d5] => { results := [.lit (.bool false)], args := [d1, d2, d3, d4, d5] }
  | _ => none }
def FrequentStepsWrongFalsely : Prop := frequentStepsRow.holds Try.pinned (OpenSpec.ofChange frequentStepsWrong)

/-- 'heavykeyslaw14.FrequentSum': WHATEVER THE INPUT: true; the input reads as it did. -/
def frequentSumSpec : ChangeSpec := { name := "frequentSum", fn := fun _ => fun
  | [d1, d2, d3] => { results := [.lit (.bool true)], args := [d1, d2, d3] }
  | _ => none }
def frequentSumRow : OpenClaim := { program := "ytkoklfagmbaapaa", sum := "a6a64f72c7ff8b77d754d6f0d5af5c855a74a640dfe68e07adc502f372f1a252", func := "heavykeys/heavykeyslaw14.FrequentSum", spec := "frequentSum", inPlace := ["math/bits.Add64"], unfollowed := true, recurses := true, apart := false }
def FrequentSumSaid : Prop := frequentSumRow.holds Try.pinned (OpenSpec.ofChange frequentSumSpec)

/-- ITS FALSE NEIGHBOUR: 'it returns false'. Refute it at one input. -/
def frequentSumWrong : ChangeSpec := { name := "frequentSum", fn := fun _ => fun
  | [d1, d2, d3] => { results := [.lit (.bool false)], args := [d1, d2, d3] }
  | _ => none }
def FrequentSumWrongFalsely : Prop := frequentSumRow.holds Try.pinned (OpenSpec.ofChange frequentSumWrong)

/- THE SECOND FORM. 'bulk': how many values and letters a reading holds, each counted each time it is reached (what is shared counts as often as it is met; a slice's spare places count too). A statement '..UptoSaid' is the law's where the arguments, and the package variables that the reading takes, are together of bulk at most 1048576: NARROWER than '..Said'. Prove '..Said' where nothing that the law and all that it calls make is longer than what came in: it says more and counts as full. Else prove '..UptoSaid'. A law counts once. -/
mutual
def uptoBulk {H : Type} : DataW H → Nat
  | .lit (.string bytes) => bytes.length + 1
  | .lit _ => 1
  | .nil => 1
  | .ptr d => uptoBulk d + 1
  | .slice elems spare => uptoBulkAll elems + uptoBulkAll spare + 1
  | .agg parts => uptoBulkAll parts + 1
  | .iface _ d => uptoBulk d + 1
  | .map entries => uptoBulkEntries entries + 1
  | .held _ => 1
def uptoBulkAll {H : Type} : List (DataW H) → Nat
  | [] => 0
  | d :: r => uptoBulk d + uptoBulkAll r
def uptoBulkEntries {H : Type} : List (Lit × DataW H) → Nat
  | [] => 0
  | x :: r => uptoBulkEntry x + uptoBulkEntries r
def uptoBulkEntry {H : Type} : Lit × DataW H → Nat
  | (.string bytes, d) => bytes.length + uptoBulk d + 1
  | (_, d) => uptoBulk d + 1
 end
def uptoSmall : (H : Type) → List (DataW H) → Bool := fun _ ds => decide (uptoBulkAll ds ≤ 1048576)
def OpenSpec.upto (s : _root_.Go.ChangeSpec) : _root_.Go.OpenSpec := { _root_.Go.OpenSpec.ofChange s with cond := some uptoSmall }

/-- 'heavykeyslaw14.FrequentBounds', WHERE WHAT IT READS IS OF BULK AT MOST 1048576: true; the input reads as it did. -/
def frequentBoundsUptoRow : OpenClaim := { program := "ytkoklfagmbaapaa", sum := "a6a64f72c7ff8b77d754d6f0d5af5c855a74a640dfe68e07adc502f372f1a252", func := "heavykeys/heavykeyslaw14.FrequentBounds", spec := "frequentBounds", inPlace := ["math/bits.Add64"], unfollowed := true, recurses := true, apart := false, narrowed := true }
def FrequentBoundsUptoSaid : Prop := frequentBoundsUptoRow.holds Try.pinned (OpenSpec.upto frequentBoundsSpec)

/-- 'heavykeyslaw14.FrequentHeavy', WHERE WHAT IT READS IS OF BULK AT MOST 1048576: true; the input reads as it did. -/
def frequentHeavyUptoRow : OpenClaim := { program := "ytkoklfagmbaapaa", sum := "a6a64f72c7ff8b77d754d6f0d5af5c855a74a640dfe68e07adc502f372f1a252", func := "heavykeys/heavykeyslaw14.FrequentHeavy", spec := "frequentHeavy", inPlace := ["math/bits.Add64"], unfollowed := true, recurses := true, apart := false, narrowed := true }
def FrequentHeavyUptoSaid : Prop := frequentHeavyUptoRow.holds Try.pinned (OpenSpec.upto frequentHeavySpec)

/-- 'heavykeyslaw14.FrequentNew', WHERE WHAT IT READS IS OF BULK AT MOST 1048576: true; the input reads as it did. -/
def frequentNewUptoRow : OpenClaim := { program := "ytkoklfagmbaapaa", sum := "a6a64f72c7ff8b77d754d6f0d5af5c855a74a640dfe68e07adc502f372f1a252", func := "heavykeys/heavykeyslaw14.FrequentNew", spec := "frequentNew", inPlace := ["math/bits.Add64"], unfollowed := true, recurses := true, apart := false, narrowed := true }
def FrequentNewUptoSaid : Prop := frequentNewUptoRow.holds Try.pinned (OpenSpec.upto frequentNewSpec)

/-- 'heavykeyslaw14.FrequentSteps', WHERE WHAT IT READS IS OF BULK AT MOST 1048576: true; the input reads as it did. -/
def frequentStepsUptoRow : OpenClaim := { program := "ytkoklfagmbaapaa", sum := "a6a64f72c7ff8b77d754d6f0d5af5c855a74a640dfe68e07adc502f372f1a252", func := "heavykeys/heavykeyslaw14.FrequentSteps", spec := "frequentSteps", inPlace := ["math/bits.Add64"], unfollowed := true, recurses := true, apart := false, narrowed := true }
def FrequentStepsUptoSaid : Prop := frequentStepsUptoRow.holds Try.pinned (OpenSpec.upto frequentStepsSpec)

/-- 'heavykeyslaw14.FrequentSum', WHERE WHAT IT READS IS OF BULK AT MOST 1048576: true; the input reads as it did. -/
def frequentSumUptoRow : OpenClaim := { program := "ytkoklfagmbaapaa", sum := "a6a64f72c7ff8b77d754d6f0d5af5c855a74a640dfe68e07adc502f372f1a252", func := "heavykeys/heavykeyslaw14.FrequentSum", spec := "frequentSum", inPlace := ["math/bits.Add64"], unfollowed := true, recurses := true, apart := false, narrowed := true }
def FrequentSumUptoSaid : Prop := frequentSumUptoRow.holds Try.pinned (OpenSpec.upto frequentSumSpec)

end Rows
end Go.Proofs.Ytkoklfagmbaapaa
