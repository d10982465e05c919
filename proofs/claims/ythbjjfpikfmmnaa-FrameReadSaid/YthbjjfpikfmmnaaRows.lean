/-
  No cell of these rows narrows 'for every input' (looked for: loops, veiled, ifaces, maps, wideKeys, modest, calm, conditions, laid).
  DERIVED. THE GIVEN ROWS OF THIS SEAT. 5 by the template 'for every input the law returns true; each argument reads behind the call as it read before'; 0 by the template 'total and deterministic' (their statements: YthbjjfpikfmmnaaTotals.lean).
  GIVEN WITH THE SEED: the statements are not yours to turn. If you find one false, say at which input.
  Laid BY PROGRAM, IN A SANDBOX (cutbox-rows.mjs): the forced cells as the released guide's own fill.sh prints them over the translation 246730b8c2289d7d… (all of the seat's roots in one cut). By AI agents, Wed Nov 11 2026. No macro, syntax, notation, axiom, sorry.
-/
import Derived.Test.YthbjjfpikfmmnaaChecked
import GoSem.Claim
import GoSem.ClaimJoined
import GoSem.ClaimMapViews
import Derived.JoinedTies
import Derived.KernelRfl
namespace Go.Proofs.Ythbjjfpikfmmnaa
/- THE CELL 'sum', in the pinned program and in every row, IS THE sha256 OF THE DUMP (.gsa) THAT YthbjjfpikfmmnaaProg.lean LOADS. Nothing in Lean hashes anything: it is a label: what it is worth is what the hold of that sum in a sandbox is worth. -/
noncomputable def Try.pinned : Pinned := { name := "ythbjjfpikfmmnaa", sum := "246730b8c2289d7d197eb2fa3f716dcb56fc73ef37070203a342ab3606cf09e7", checked := Try.checked }
namespace Rows
def none {H : Type} : Left H := { results := [], args := [] }

/-- 'heavykeyslaw05.FrameRead': WHATEVER THE INPUT: true; the input reads as it did. -/
def frameReadSpec : ChangeSpec := { name := "frameRead", fn := fun _ => fun
  | [d1, d2, d3, d4, d5] => { results := [.lit (.bool true)], args := [d1, d2, d3, d4, d5] }
  | _ => none }
def frameReadRow : OpenClaim := { program := "ythbjjfpikfmmnaa", sum := "246730b8c2289d7d197eb2fa3f716dcb56fc73ef37070203a342ab3606cf09e7", func := "heavykeys/heavykeyslaw05.FrameRead", spec := "frameRead", inPlace := ["internal/bytealg.abigen_runtime_cmpstring"], unfollowed := true, recurses := true, apart := false }
def FrameReadSaid : Prop := frameReadRow.holds Try.pinned (OpenSpec.ofChange frameReadSpec)

/-- ITS FALSE NEIGHBOUR: 'it returns false'. Refute it at one input. -/
def frameReadWrong : ChangeSpec := { name := "frameRead", fn := fun _ => fun
  | [d1, d2, d3, d4, d5] => { results := [.lit (.bool false)], args := [d1, d2, d3, d4, d5] }
  | _ => none }
def FrameReadWrongFalsely : Prop := frameReadRow.holds Try.pinned (OpenSpec.ofChange frameReadWrong)

/-- 'heavykeyslaw05.FrameEach': WHATEVER THE INPUT: true; the input reads as it did. -/
def frameEachSpec : ChangeSpec := { name := "frameEach", fn := fun _ => fun
  | [d] => { results := [.lit (.bool true)], args := [d] }
  | _ => none }
def frameEachRow : OpenClaim := { program := "ythbjjfpikfmmnaa", sum := "246730b8c2289d7d197eb2fa3f716dcb56fc73ef37070203a342ab3606cf09e7", func := "heavykeys/heavykeyslaw05.FrameEach", spec := "frameEach", inPlace := ["internal/bytealg.abigen_runtime_cmpstring"], unfollowed := true, recurses := true, apart := false }
def FrameEachSaid : Prop := frameEachRow.holds Try.pinned (OpenSpec.ofChange frameEachSpec)

/-- ITS FALSE NEIGHBOUR: 'it returns false'. Refute it at one input. -/
def frameEachWrong : ChangeSpec := { name := "frameEach", fn := fun _ => fun
  | [d] => { results := [.lit (.bool false)], args := [d] }
  | _ => none }
def FrameEachWrongFalsely : Prop := frameEachRow.holds Try.pinned (OpenSpec.ofChange frameEachWrong)

/-- 'heavykeyslaw05.FrameSpoilt': WHATEVER THE INPUT: true; the input reads as it did. -/
def frameSpoiltSpec : ChangeSpec := { name := "frameSpoilt", fn := fun _ => fun
  | [d1, d2] => { results := [.lit (.bool true)], args := [d1, d2] }
  | _ => none }
def frameSpoiltRow : OpenClaim := { program := "ythbjjfpikfmmnaa", sum := "246730b8c2289d7d197eb2fa3f716dcb56fc73ef37070203a342ab3606cf09e7", func := "heavykeys/heavykeyslaw05.FrameSpoilt", spec := "frameSpoilt", inPlace := ["internal/bytealg.abigen_runtime_cmpstring"], unfollowed := true, recurses := true, apart := false }
def FrameSpoiltSaid : Prop := frameSpoiltRow.holds Try.pinned (OpenSpec.ofChange frameSpoiltSpec)

/-- ITS FALSE NEIGHBOUR: 'it returns false'. Refute it at one input. -/
def frameSpoiltWrong : ChangeSpec := { name := "frameSpoilt", fn := fun _ => fun
  | [d1, d2] => { results := [.lit (.bool false)], args := [d1, d2] }
  | _ => none }
def FrameSpoiltWrongFalsely : Prop := frameSpoiltRow.holds Try.pinned (OpenSpec.ofChange frameSpoiltWrong)

/-- 'heavykeyslaw05.FrameBody': WHATEVER THE INPUT: true; the input reads as it did. -/
def frameBodySpec : ChangeSpec := { name := "frameBody", fn := fun _ => fun
  | [d1, d2, d3] => { results := [.lit (.bool true)], args := [d1, d2, d3] }
  | _ => none }
def frameBodyRow : OpenClaim := { program := "ythbjjfpikfmmnaa", sum := "246730b8c2289d7d197eb2fa3f716dcb56fc73ef37070203a342ab3606cf09e7", func := "heavykeys/heavykeyslaw05.FrameBody", spec := "frameBody", inPlace := ["internal/bytealg.abigen_runtime_cmpstring"], unfollowed := true, recurses := true, apart := false }
def FrameBodySaid : Prop := frameBodyRow.holds Try.pinned (OpenSpec.ofChange frameBodySpec)

/-- ITS FALSE NEIGHBOUR: 'it returns false'. Refute it at one input. -/
def frameBodyWrong : ChangeSpec := { name := "frameBody", fn := fun _ => fun
  | [d1, d2, d3] => { results := [.lit (.bool false)], args := [d1, d2, d3] }
  | _ => none }
def FrameBodyWrongFalsely : Prop := frameBodyRow.holds Try.pinned (OpenSpec.ofChange frameBodyWrong)

/-- 'heavykeyslaw05.FrameLength': WHATEVER THE INPUT: true; the input reads as it did. -/
def frameLengthSpec : ChangeSpec := { name := "frameLength", fn := fun _ => fun
  | [d] => { results := [.lit (.bool true)], args := [d] }
  | _ => none }
def frameLengthRow : OpenClaim := { program := "ythbjjfpikfmmnaa", sum := "246730b8c2289d7d197eb2fa3f716dcb56fc73ef37070203a342ab3606cf09e7", func := "heavykeys/heavykeyslaw05.FrameLength", spec := "frameLength", inPlace := ["internal/bytealg.abigen_runtime_cmpstring"], unfollowed := true, recurses := true, apart := false }
def FrameLengthSaid : Prop := frameLengthRow.holds Try.pinned (OpenSpec.ofChange frameLengthSpec)

/-- ITS FALSE NEIGHBOUR: 'it returns false'. Refute it at one input. -/
def frameLengthWrong : ChangeSpec := { name := "frameLength", fn := fun _ => fun
  | [d] => { results := [.lit (.bool false)], args := [d] }
  | _ => none }
def FrameLengthWrongFalsely : Prop := frameLengthRow.holds Try.pinned (OpenSpec.ofChange frameLengthWrong)

/- THE SECOND FORM. 'bulk': how many values and letters a reading holds, each counted each time it is reached (what is shared counts as often as it is met; a slice's spare places count too). A statement '..UptoSaid' is the law's where the arguments, and the package variables that the reading takes, are together of bulk at most 1048576: NARROWER than '..Said'. Prove '..Said' where nothing that the law and all that it calls make is longer than what came in: it says more and counts as full. Else prove '..UptoSaid'. A law counts once. -/
mutual
def uptoBulk {H : Type} : DataW H → Nat
  | .lit (.string bytes) => bytes.length + 1
  | .lit _ => 1
  | .nil => 1
  | .ptr d => uptoBulk d + 1
  | .slice elems spare => uptoBulkAll elems + uptoBulkAll spare + 1
  | .agg parts => uptoBulkAll parts + 1
  | .iface _ d => uptoBulk d + 1
  | .map entries => uptoBulkEntries entries + 1
  | .held _ => 1
def uptoBulkAll {H : Type} : List (DataW H) → Nat
  | [] => 0
  | d :: r => uptoBulk d + uptoBulkAll r
def uptoBulkEntries {H : Type} : List (Lit × DataW H) → Nat
  | [] => 0
  | x :: r => uptoBulkEntry x + uptoBulkEntries r
def uptoBulkEntry {H : Type} : Lit × DataW H → Nat
  | (.string bytes, d) => bytes.length + uptoBulk d + 1
  | (_, d) => uptoBulk d + 1
 end
def uptoSmall : (H : Type) → List (DataW H) → Bool := fun _ ds => decide (uptoBulkAll ds ≤ 1048576)
def OpenSpec.upto (s : _root_.Go.ChangeSpec) : _root_.Go.OpenSpec := { _root_.Go.OpenSpec.ofChange s with cond := some uptoSmall }

/-- 'heavykeyslaw05.FrameRead', WHERE WHAT IT READS IS OF BULK AT MOST 1048576: true; the input reads as it did. -/
def frameReadUptoRow : OpenClaim := { program := "ythbjjfpikfmmnaa", sum := "246730b8c2289d7d197eb2fa3f716dcb56fc73ef37070203a342ab3606cf09e7", func := "heavykeys/heavykeyslaw05.FrameRead", spec := "frameRead", inPlace := ["internal/bytealg.abigen_runtime_cmpstring"], unfollowed := true, recurses := true, apart := false, narrowed := true }
def FrameReadUptoSaid : Prop := frameReadUptoRow.holds Try.pinned (OpenSpec.upto frameReadSpec)

/-- 'heavykeyslaw05.FrameEach', WHERE WHAT IT READS IS OF BULK AT MOST 1048576: true; the input reads as it did. -/
def frameEachUptoRow : OpenClaim := { program := "ythbjjfpikfmmnaa", sum := "246730b8c2289d7d197eb2fa3f716dcb56fc73ef37070203a342ab3606cf09e7", func := "heavykeys/heavykeyslaw05.FrameEach", spec := "frameEach", inPlace := ["internal/bytealg.abigen_runtime_cmpstring"], unfollowed := true, recurses := true, apart := false, narrowed := true }
def FrameEachUptoSaid : Prop := frameEachUptoRow.holds Try.pinned (OpenSpec.upto frameEachSpec)

/-- 'heavykeyslaw05.FrameSpoilt', WHERE WHAT IT READS IS OF BULK AT MOST 1048576: true; the input reads as it did. -/
def frameSpoiltUptoRow : OpenClaim := { program := "ythbjjfpikfmmnaa", sum := "246730b8c2289d7d197eb2fa3f716dcb56fc73ef37070203a342ab3606cf09e7", func := "heavykeys/heavykeyslaw05.FrameSpoilt", spec := "frameSpoilt", inPlace := ["internal/bytealg.abigen_runtime_cmpstring"], unfollowed := true, recurses := true, apart := false, narrowed := true }
def FrameSpoiltUptoSaid : Prop := frameSpoiltUptoRow.holds Try.pinned (OpenSpec.upto frameSpoiltSpec)

/-- 'heavykeyslaw05.FrameBody', WHERE WHAT IT READS IS OF BULK AT MOST 1048576: true; the input reads as it did. -/
def frameBodyUptoRow : OpenClaim := { program := "ythbjjfpikfmmnaa", sum := "246730b8c2289d7d197eb2fa3f716dcb56fc73ef37070203a342ab3606cf09e7", func := "heavykeys/heavykeyslaw05.FrameBody", spec := "frameBody", inPlace := ["internal/bytealg.abigen_runtime_cmpstring"], unfollowed := true, recurses := true, apart := false, narrowed := true }
def FrameBodyUptoSaid : Prop := frameBodyUptoRow.holds Try.pinned (OpenSpec.upto frameBodySpec)

/-- 'heavykeyslaw05.FrameLength', WHERE WHAT IT READS IS OF BULK AT MOST 1048576: true; the input reads as it did. -/
def frameLengthUptoRow : OpenClaim := { program := "ythbjjfpikfmmnaa", sum := "246730b8c2289d7d197eb2fa3f716dcb56fc73ef37070203a342ab3606cf09e7", func := "heavykeys/heavykeyslaw05.FrameLength", spec := "frameLength", inPlace := ["internal/bytealg.abigen_runtime_cmpstring"], unfollowed := true, recurses := true, apart := false, narrowed := true }
def FrameLengthUptoSaid : Prop := frameLengthUptoRow.holds Try.pinned (OpenSpec.upto frameLengthSpec)

end Rows
end Go.Proofs.Ythbjjfpikfmmnaa
