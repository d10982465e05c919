/-
  No cell of these rows narrows 'for every input' (looked for: loops, veiled, ifaces, maps, wideKeys, modest, calm, conditions, laid).
  DERIVED. THE GIVEN ROWS OF THIS SEAT. 9 by the template 'for every input the law returns true; each argument reads behind the call as it read before'; 0 by the template 'total and deterministic' (their statements: YtkabdnijhjccoaaTotals.lean).
  GIVEN WITH THE SEED: the statements are not yours to turn. If you find one false, say at which input.
  Laid BY PROGRAM, IN A SANDBOX (cutbox-rows.mjs): the forced cells as the released guide's own fill.sh prints them over the translation 5ccbdc684e99af5d… (all of the seat's roots in one cut). By AI agents, Wed Nov 11 2026. No macro, syntax, notation, axiom, sorry.
-/
import Derived.Test.YtkabdnijhjccoaaChecked
import GoSem.Claim
import GoSem.ClaimJoined
import GoSem.ClaimMapViews
import Derived.JoinedTies
import Derived.KernelRfl
namespace Go.Proofs.Ytkabdnijhjccoaa
/- THE CELL 'sum', in the pinned program and in every row, IS THE sha256 OF THE DUMP (.gsa) THAT YtkabdnijhjccoaaProg.lean LOADS. Nothing in Lean hashes anything: it is a label: what it is worth is what the hold of that sum in a sandbox is worth. -/
noncomputable def Try.pinned : Pinned := { name := "ytkabdnijhjccoaa", sum := "5ccbdc684e99af5daca8b6677cdbb18745b2db23122f11e01bd83623bb9de06e", checked := Try.checked }
namespace Rows
def none {H : Type} : Left H := { results := [], args := [] }

/-- 'heavykeyslaw11.ChainTexts': WHATEVER THE INPUT: true; the input reads as it did. -/
def chainTextsSpec : ChangeSpec := { name := "chainTexts", fn := fun _ => fun
  | [d] => { results := [.lit (.bool true)], args := [d] }
  | _ => none }
def chainTextsRow : OpenClaim := { program := "ytkabdnijhjccoaa", sum := "5ccbdc684e99af5daca8b6677cdbb18745b2db23122f11e01bd83623bb9de06e", func := "heavykeys/heavykeyslaw11.ChainTexts", spec := "chainTexts", apart := false }
def ChainTextsSaid : Prop := chainTextsRow.holds Try.pinned (OpenSpec.ofChange chainTextsSpec)

/-- ITS FALSE NEIGHBOUR: 'it returns false'. Refute it at one input. -/
def chainTextsWrong : ChangeSpec := { name := "chainTexts", fn := fun _ => fun
  | [d] => { results := [.lit (.bool false)], args := [d] }
  | _ => none }
def ChainTextsWrongFalsely : Prop := chainTextsRow.holds Try.pinned (OpenSpec.ofChange chainTextsWrong)

/-- 'heavykeyslaw11.ChainNew': WHATEVER THE INPUT: true; the input reads as it did. -/
def chainNewSpec : ChangeSpec := { name := "chainNew", fn := fun _ => fun
  | [d] => { results := [.lit (.bool true)], args := [d] }
  | _ => none }
def chainNewRow : OpenClaim := { program := "ytkabdnijhjccoaa", sum := "5ccbdc684e99af5daca8b6677cdbb18745b2db23122f11e01bd83623bb9de06e", func := "heavykeys/heavykeyslaw11.ChainNew", spec := "chainNew", apart := false }
def ChainNewSaid : Prop := chainNewRow.holds Try.pinned (OpenSpec.ofChange chainNewSpec)

/-- ITS FALSE NEIGHBOUR: 'it returns false'. Refute it at one input. -/
def chainNewWrong : ChangeSpec := { name := "chainNew", fn := fun _ => fun
  | [d] => { results := [.lit (.bool false)], args := [d] }
  | _ => none }
def ChainNewWrongFalsely : Prop := chainNewRow.holds Try.pinned (OpenSpec.ofChange chainNewWrong)

/-- 'heavykeyslaw11.ChainSteps': WHATEVER THE INPUT: true; the input reads as it did. -/
def chainStepsSpec : ChangeSpec := { name := "chainSteps", fn := fun _ => fun
  | [d1, d2, d3] => { results := [.lit (.bool true)], args := [d1, d2, d3] }
  | _ => none }
def chainStepsRow : OpenClaim := { program := "ytkabdnijhjccoaa", sum := "5ccbdc684e99af5daca8b6677cdbb18745b2db23122f11e01bd83623bb9de06e", func := "heavykeys/heavykeyslaw11.ChainSteps", spec := "chainSteps", apart := false }
def ChainStepsSaid : Prop := chainStepsRow.holds Try.pinned (OpenSpec.ofChange chainStepsSpec)

/-- ITS FALSE NEIGHBOUR: 'it returns false'. Refute it at one input. -/
def chainStepsWrong : ChangeSpec := { name := "chainSteps", fn := fun _ => fun
  | [d1, d2, d3] => { results := [.lit (.bool false)], args := [d1, d2, d3] }
  | _ => none }
def ChainStepsWrongFalsely : Prop := chainStepsRow.holds Try.pinned (OpenSpec.ofChange chainStepsWrong)

/-- 'heavykeyslaw11.ChainWalk': WHATEVER THE INPUT: true; the input reads as it did. -/
def chainWalkSpec : ChangeSpec := { name := "chainWalk", fn := fun _ => fun
  | [d1, d2] => { results := [.lit (.bool true)], args := [d1, d2] }
  | _ => none }
def chainWalkRow : OpenClaim := { program := "ytkabdnijhjccoaa", sum := "5ccbdc684e99af5daca8b6677cdbb18745b2db23122f11e01bd83623bb9de06e", func := "heavykeys/heavykeyslaw11.ChainWalk", spec := "chainWalk", apart := false }
def ChainWalkSaid : Prop := chainWalkRow.holds Try.pinned (OpenSpec.ofChange chainWalkSpec)

/-- ITS FALSE NEIGHBOUR: 'it returns false'. Refute it at one input. -/
def chainWalkWrong : ChangeSpec := { name := "chainWalk", fn := fun _ => fun
  | [d1, d2] => { results := [.lit (.bool false)], args := [d1, d2] }
  | _ => none }
def ChainWalkWrongFalsely : Prop := chainWalkRow.holds Try.pinned (OpenSpec.ofChange chainWalkWrong)

/-- 'heavykeyslaw12.RanksAge': WHATEVER THE INPUT: true; the input reads as it did. -/
def ranksAgeSpec : ChangeSpec := { name := "ranksAge", fn := fun _ => fun
  | [d1, d2, d3] => { results := [.lit (.bool true)], args := [d1, d2, d3] }
  | _ => none }
def ranksAgeRow : OpenClaim := { program := "ytkabdnijhjccoaa", sum := "5ccbdc684e99af5daca8b6677cdbb18745b2db23122f11e01bd83623bb9de06e", func := "heavykeys/heavykeyslaw12.RanksAge", spec := "ranksAge", inPlace := ["math/bits.Add64"], apart := false }
def RanksAgeSaid : Prop := ranksAgeRow.holds Try.pinned (OpenSpec.ofChange ranksAgeSpec)

/-- ITS FALSE NEIGHBOUR: 'it returns false'. Refute it at one input. -/
def ranksAgeWrong : ChangeSpec := { name := "ranksAge", fn := fun _ => fun
  | [d1, d2, d3] => { results := [.lit (.bool false)], args := [d1, d2, d3] }
  | _ => none }
def RanksAgeWrongFalsely : Prop := ranksAgeRow.holds Try.pinned (OpenSpec.ofChange ranksAgeWrong)

/-- 'heavykeyslaw12.RanksSorted': WHATEVER THE INPUT: true; the input reads as it did. -/
def ranksSortedSpec : ChangeSpec := { name := "ranksSorted", fn := fun _ => fun
  | [d1, d2] => { results := [.lit (.bool true)], args := [d1, d2] }
  | _ => none }
def ranksSortedRow : OpenClaim := { program := "ytkabdnijhjccoaa", sum := "5ccbdc684e99af5daca8b6677cdbb18745b2db23122f11e01bd83623bb9de06e", func := "heavykeys/heavykeyslaw12.RanksSorted", spec := "ranksSorted", inPlace := ["math/bits.Add64"], apart := false }
def RanksSortedSaid : Prop := ranksSortedRow.holds Try.pinned (OpenSpec.ofChange ranksSortedSpec)

/-- ITS FALSE NEIGHBOUR: 'it returns false'. Refute it at one input. -/
def ranksSortedWrong : ChangeSpec := { name := "ranksSorted", fn := fun _ => fun
  | [d1, d2] => { results := [.lit (.bool false)], args := [d1, d2] }
  | _ => none }
def RanksSortedWrongFalsely : Prop := ranksSortedRow.holds Try.pinned (OpenSpec.ofChange ranksSortedWrong)

/-- 'heavykeyslaw12.RanksDrain': WHATEVER THE INPUT: true; the input reads as it did. -/
def ranksDrainSpec : ChangeSpec := { name := "ranksDrain", fn := fun _ => fun
  | [d] => { results := [.lit (.bool true)], args := [d] }
  | _ => none }
def ranksDrainRow : OpenClaim := { program := "ytkabdnijhjccoaa", sum := "5ccbdc684e99af5daca8b6677cdbb18745b2db23122f11e01bd83623bb9de06e", func := "heavykeys/heavykeyslaw12.RanksDrain", spec := "ranksDrain", inPlace := ["math/bits.Add64"], apart := false }
def RanksDrainSaid : Prop := ranksDrainRow.holds Try.pinned (OpenSpec.ofChange ranksDrainSpec)

/-- ITS FALSE NEIGHBOUR: 'it returns false'. Refute it at one input. -/
def ranksDrainWrong : ChangeSpec := { name := "ranksDrain", fn := fun _ => fun
  | [d] => { results := [.lit (.bool false)], args := [d] }
  | _ => none }
def RanksDrainWrongFalsely : Prop := ranksDrainRow.holds Try.pinned (OpenSpec.ofChange ranksDrainWrong)

/-- 'heavykeyslaw12.RanksNew': WHATEVER THE INPUT: true; the input reads as it did. -/
def ranksNewSpec : ChangeSpec := { name := "ranksNew", fn := fun _ => fun
  | [d] => { results := [.lit (.bool true)], args := [d] }
  | _ => none }
def ranksNewRow : OpenClaim := { program := "ytkabdnijhjccoaa", sum := "5ccbdc684e99af5daca8b6677cdbb18745b2db23122f11e01bd83623bb9de06e", func := "heavykeys/heavykeyslaw12.RanksNew", spec := "ranksNew", inPlace := ["math/bits.Add64"], apart := false }
def RanksNewSaid : Prop := ranksNewRow.holds Try.pinned (OpenSpec.ofChange ranksNewSpec)

/-- ITS FALSE NEIGHBOUR: 'it returns false'. Refute it at one input. -/
def ranksNewWrong : ChangeSpec := { name := "ranksNew", fn := fun _ => fun
  | [d] => { results := [.lit (.bool false)], args := [d] }
  | _ => none }
def RanksNewWrongFalsely : Prop := ranksNewRow.holds Try.pinned (OpenSpec.ofChange ranksNewWrong)

/-- 'heavykeyslaw12.RanksSteps': WHATEVER THE INPUT: true; the input reads as it did. -/
def ranksStepsSpec : ChangeSpec := { name := "ranksSteps", fn := fun _ => fun
  | [d1, d2, d3, d4] => { results := [.lit (.bool true)], args := [d1, d2, d3, d4] }
  | _ => none }
def ranksStepsRow : OpenClaim := { program := "ytkabdnijhjccoaa", sum := "5ccbdc684e99af5daca8b6677cdbb18745b2db23122f11e01bd83623bb9de06e", func := "heavykeys/heavykeyslaw12.RanksSteps", spec := "ranksSteps", inPlace := ["math/bits.Add64"], apart := false }
def RanksStepsSaid : Prop := ranksStepsRow.holds Try.pinned (OpenSpec.ofChange ranksStepsSpec)

/-- ITS FALSE NEIGHBOUR: 'it returns false'. Refute it at one input. -/
def ranksStepsWrong : ChangeSpec := { name := "ranksSteps", fn := fun _ => fun
  | [d1, d2, d3, d4] => { results := [.lit (.bool false)], args := [d1, d2, d3, d4] }
  | _ => none }
def RanksStepsWrongFalsely : Prop := ranksStepsRow.holds Try.pinned (OpenSpec.ofChange ranksStepsWrong)

/- THE SECOND FORM. 'bulk': how many values and letters a reading holds, each counted each time it is reached (what is shared counts as often as it is met; a slice's spare places count too). A statement '..UptoSaid' is the law's where the arguments, and the package variables that the reading takes, are together of bulk at most 1048576: NARROWER than '..Said'. Prove '..Said' where nothing that the law and all that it calls make is longer than what came in: it says more and counts as full. Else prove '..UptoSaid'. A law counts once. -/
mutual
def uptoBulk {H : Type} : DataW H → Nat
  | .lit (.string bytes) => bytes.length + 1
  | .lit _ => 1
  | .nil => 1
  | .ptr d => uptoBulk d + 1
  | .slice elems spare => uptoBulkAll elems + uptoBulkAll spare + 1
  | .agg parts => uptoBulkAll parts + 1
  | .iface _ d => uptoBulk d + 1
  | .map entries => uptoBulkEntries entries + 1
  | .held _ => 1
def uptoBulkAll {H : Type} : List (DataW H) → Nat
  | [] => 0
  | d :: r => uptoBulk d + uptoBulkAll r
def uptoBulkEntries {H : Type} : List (Lit × DataW H) → Nat
  | [] => 0
  | x :: r => uptoBulkEntry x + uptoBulkEntries r
def uptoBulkEntry {H : Type} : Lit × DataW H → Nat
  | (.string bytes, d) => bytes.length + uptoBulk d + 1
  | (_, d) => uptoBulk d + 1
 end
def uptoSmall : (H : Type) → List (DataW H) → Bool := fun _ ds => decide (uptoBulkAll ds ≤ 1048576)
def OpenSpec.upto (s : _root_.Go.ChangeSpec) : _root_.Go.OpenSpec := { _root_.Go.OpenSpec.ofChange s with cond := some uptoSmall }

/-- 'heavykeyslaw11.ChainTexts', WHERE WHAT IT READS IS OF BULK AT MOST 1048576: true; the input reads as it did. -/
def chainTextsUptoRow : OpenClaim := { program := "ytkabdnijhjccoaa", sum := "5ccbdc684e99af5daca8b6677cdbb18745b2db23122f11e01bd83623bb9de06e", func := "heavykeys/heavykeyslaw11.ChainTexts", spec := "chainTexts", apart := false, narrowed := true }
def ChainTextsUptoSaid : Prop := chainTextsUptoRow.holds Try.pinned (OpenSpec.upto chainTextsSpec)

/-- 'heavykeyslaw11.ChainNew', WHERE WHAT IT READS IS OF BULK AT MOST 1048576: true; the input reads as it did. -/
def chainNewUptoRow : OpenClaim := { program := "ytkabdnijhjccoaa", sum := "5ccbdc684e99af5daca8b6677cdbb18745b2db23122f11e01bd83623bb9de06e", func := "heavykeys/heavykeyslaw11.ChainNew", spec := "chainNew", apart := false, narrowed := true }
def ChainNewUptoSaid : Prop := chainNewUptoRow.holds Try.pinned (OpenSpec.upto chainNewSpec)

/-- 'heavykeyslaw11.ChainSteps', WHERE WHAT IT READS IS OF BULK AT MOST 1048576: true; the input reads as it did. -/
def chainStepsUptoRow : OpenClaim := { program := "ytkabdnijhjccoaa", sum := "5ccbdc684e99af5daca8b6677cdbb18745b2db23122f11e01bd83623bb9de06e", func := "heavykeys/heavykeyslaw11.ChainSteps", spec := "chainSteps", apart := false, narrowed := true }
def ChainStepsUptoSaid : Prop := chainStepsUptoRow.holds Try.pinned (OpenSpec.upto chainStepsSpec)

/-- 'heavykeyslaw11.ChainWalk', WHERE WHAT IT READS IS OF BULK AT MOST 1048576: true; the input reads as it did. -/
def chainWalkUptoRow : OpenClaim := { program := "ytkabdnijhjccoaa", sum := "5ccbdc684e99af5daca8b6677cdbb18745b2db23122f11e01bd83623bb9de06e", func := "heavykeys/heavykeyslaw11.ChainWalk", spec := "chainWalk", apart := false, narrowed := true }
def ChainWalkUptoSaid : Prop := chainWalkUptoRow.holds Try.pinned (OpenSpec.upto chainWalkSpec)

/-- 'heavykeyslaw12.RanksAge', WHERE WHAT IT READS IS OF BULK AT MOST 1048576: true; the input reads as it did. -/
def ranksAgeUptoRow : OpenClaim := { program := "ytkabdnijhjccoaa", sum := "5ccbdc684e99af5daca8b6677cdbb18745b2db23122f11e01bd83623bb9de06e", func := "heavykeys/heavykeyslaw12.RanksAge", spec := "ranksAge", inPlace := ["math/bits.Add64"], apart := false, narrowed := true }
def RanksAgeUptoSaid : Prop := ranksAgeUptoRow.holds Try.pinned (OpenSpec.upto ranksAgeSpec)

/-- 'heavykeyslaw12.RanksSorted', WHERE WHAT IT READS IS OF BULK AT MOST 1048576: true; the input reads as it did. -/
def ranksSortedUptoRow : OpenClaim := { program := "ytkabdnijhjccoaa", sum := "5ccbdc684e99af5daca8b6677cdbb18745b2db23122f11e01bd83623bb9de06e", func := "heavykeys/heavykeyslaw12.RanksSorted", spec := "ranksSorted", inPlace := ["math/bits.Add64"], apart := false, narrowed := true }
def RanksSortedUptoSaid : Prop := ranksSortedUptoRow.holds Try.pinned (OpenSpec.upto ranksSortedSpec)

/-- 'heavykeyslaw12.RanksDrain', WHERE WHAT IT READS IS OF BULK AT MOST 1048576: true; the input reads as it did. -/
def ranksDrainUptoRow : OpenClaim := { program := "ytkabdnijhjccoaa", sum := "5ccbdc684e99af5daca8b6677cdbb18745b2db23122f11e01bd83623bb9de06e", func := "heavykeys/heavykeyslaw12.RanksDrain", spec := "ranksDrain", inPlace := ["math/bits.Add64"], apart := false, narrowed := true }
def RanksDrainUptoSaid : Prop := ranksDrainUptoRow.holds Try.pinned (OpenSpec.upto ranksDrainSpec)

/-- 'heavykeyslaw12.RanksNew', WHERE WHAT IT READS IS OF BULK AT MOST 1048576: true; the input reads as it did. -/
def ranksNewUptoRow : OpenClaim := { program := "ytkabdnijhjccoaa", sum := "5ccbdc684e99af5daca8b6677cdbb18745b2db23122f11e01bd83623bb9de06e", func := "heavykeys/heavykeyslaw12.RanksNew", spec := "ranksNew", inPlace := ["math/bits.Add64"], apart := false, narrowed := true }
def RanksNewUptoSaid : Prop := ranksNewUptoRow.holds Try.pinned (OpenSpec.upto ranksNewSpec)

/-- 'heavykeyslaw12.RanksSteps', WHERE WHAT IT READS IS OF BULK AT MOST 1048576: true; the input reads as it did. -/
def ranksStepsUptoRow : OpenClaim := { program := "ytkabdnijhjccoaa", sum := "5ccbdc684e99af5daca8b6677cdbb18745b2db23122f11e01bd83623bb9de06e", func := "heavykeys/heavykeyslaw12.RanksSteps", spec := "ranksSteps", inPlace := ["math/bits.Add64"], apart := false, narrowed := true }
def RanksStepsUptoSaid : Prop := ranksStepsUptoRow.holds Try.pinned (OpenSpec.upto ranksStepsSpec)

end Rows
end Go.Proofs.Ytkabdnijhjccoaa
