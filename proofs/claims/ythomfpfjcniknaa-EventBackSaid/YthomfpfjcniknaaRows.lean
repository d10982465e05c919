/-
  No cell of these rows narrows 'for every input' (looked for: loops, veiled, ifaces, maps, wideKeys, modest, calm, conditions, laid).
  DERIVED. THE GIVEN ROWS OF THIS SEAT. 12 by the template 'for every input the law returns true; each argument reads behind the call as it read before'; 0 by the template 'total and deterministic' (their statements: YthomfpfjcniknaaTotals.lean).
  GIVEN WITH THE SEED: the statements are not yours to turn. If you find one false, say at which input.
  Laid BY PROGRAM, IN A SANDBOX (cutbox-rows.mjs): the forced cells as the released guide's own fill.sh prints them over the translation d8b73b209cee9c40… (all of the seat's roots in one cut). By AI agents, Wed Nov 11 2026. No macro, syntax, notation, axiom, sorry.
-/
import Derived.Test.YthomfpfjcniknaaChecked
import GoSem.Claim
import GoSem.ClaimJoined
import GoSem.ClaimMapViews
import Derived.JoinedTies
import Derived.KernelRfl
namespace Go.Proofs.Ythomfpfjcniknaa
/- THE CELL 'sum', in the pinned program and in every row, IS THE sha256 OF THE DUMP (.gsa) THAT YthomfpfjcniknaaProg.lean LOADS. Nothing in Lean hashes anything: it is a label: what it is worth is what the hold of that sum in a sandbox is worth. -/
noncomputable def Try.pinned : Pinned := { name := "ythomfpfjcniknaa", sum := "d8b73b209cee9c405ed1f42a433c5c77cadb1a63123c782dfaae888ffffd5719", checked := Try.checked }
namespace Rows
def none {H : Type} : Left H := { results := [], args := [] }

/-- 'heavykeyslaw04.EventEncode': WHATEVER THE INPUT: true; the input reads as it did. -/
def eventEncodeSpec : ChangeSpec := { name := "eventEncode", fn := fun _ => fun
  | [d1, d2, d3, d4] => { results := [.lit (.bool true)], args := [d1, d2, d3, d4] }
  | _ => none }
def eventEncodeRow : OpenClaim := { program := "ythomfpfjcniknaa", sum := "d8b73b209cee9c405ed1f42a433c5c77cadb1a63123c782dfaae888ffffd5719", func := "heavykeys/heavykeyslaw04.EventEncode", spec := "eventEncode", apart := false }
def EventEncodeSaid : Prop := eventEncodeRow.holds Try.pinned (OpenSpec.ofChange eventEncodeSpec)

/-- ITS FALSE NEIGHBOUR: 'it returns false'. Refute it at one input. -/
def eventEncodeWrong : ChangeSpec := { name := "eventEncode", fn := fun _ => fun
  | [d1, d2, d3, d4] => { results := [.lit (.bool false)], args := [d1, d2, d3, d4] }
  | _ => none }
def EventEncodeWrongFalsely : Prop := eventEncodeRow.holds Try.pinned (OpenSpec.ofChange eventEncodeWrong)

/-- 'heavykeyslaw04.EventVerdict': WHATEVER THE INPUT: true; the input reads as it did. -/
def eventVerdictSpec : ChangeSpec := { name := "eventVerdict", fn := fun _ => fun
  | [d] => { results := [.lit (.bool true)], args := [d] }
  | _ => none }
def eventVerdictRow : OpenClaim := { program := "ythomfpfjcniknaa", sum := "d8b73b209cee9c405ed1f42a433c5c77cadb1a63123c782dfaae888ffffd5719", func := "heavykeys/heavykeyslaw04.EventVerdict", spec := "eventVerdict", apart := false }
def EventVerdictSaid : Prop := eventVerdictRow.holds Try.pinned (OpenSpec.ofChange eventVerdictSpec)

/-- ITS FALSE NEIGHBOUR: 'it returns false'. Refute it at one input. -/
def eventVerdictWrong : ChangeSpec := { name := "eventVerdict", fn := fun _ => fun
  | [d] => { results := [.lit (.bool false)], args := [d] }
  | _ => none }
def EventVerdictWrongFalsely : Prop := eventVerdictRow.holds Try.pinned (OpenSpec.ofChange eventVerdictWrong)

/-- 'heavykeyslaw04.EventDecode': WHATEVER THE INPUT: true; the input reads as it did. -/
def eventDecodeSpec : ChangeSpec := { name := "eventDecode", fn := fun _ => fun
  | [d1, d2, d3, d4] => { results := [.lit (.bool true)], args := [d1, d2, d3, d4] }
  | _ => none }
def eventDecodeRow : OpenClaim := { program := "ythomfpfjcniknaa", sum := "d8b73b209cee9c405ed1f42a433c5c77cadb1a63123c782dfaae888ffffd5719", func := "heavykeys/heavykeyslaw04.EventDecode", spec := "eventDecode", unfollowed := true, recurses := true, apart := false }
def EventDecodeSaid : Prop := eventDecodeRow.holds Try.pinned (OpenSpec.ofChange eventDecodeSpec)

/-- ITS FALSE NEIGHBOUR: 'it returns false'. Refute it at one input. -/
def eventDecodeWrong : ChangeSpec := { name := "eventDecode", fn := fun _ => fun
  | [d1, d2, d3, d4] => { results := [.lit (.bool false)], args := [d1, d2, d3, d4] }
  | _ => none }
def EventDecodeWrongFalsely : Prop := eventDecodeRow.holds Try.pinned (OpenSpec.ofChange eventDecodeWrong)

/-- 'heavykeyslaw04.EventBack': WHATEVER THE INPUT: true; the input reads as it did. -/
def eventBackSpec : ChangeSpec := { name := "eventBack", fn := fun _ => fun
  | [d1, d2, d3] => { results := [.lit (.bool true)], args := [d1, d2, d3] }
  | _ => none }
def eventBackRow : OpenClaim := { program := "ythomfpfjcniknaa", sum := "d8b73b209cee9c405ed1f42a433c5c77cadb1a63123c782dfaae888ffffd5719", func := "heavykeys/heavykeyslaw04.EventBack", spec := "eventBack", unfollowed := true, recurses := true, apart := false }
def EventBackSaid : Prop := eventBackRow.holds Try.pinned (OpenSpec.ofChange eventBackSpec)

/-- ITS FALSE NEIGHBOUR: 'it returns false'. Refute it at one input. -/
def eventBackWrong : ChangeSpec := { name := "eventBack", fn := fun _ => fun
  | [d1, d2, d3] => { results := [.lit (.bool false)], args := [d1, d2, d3] }
  | _ => none }
def EventBackWrongFalsely : Prop := eventBackRow.holds Try.pinned (OpenSpec.ofChange eventBackWrong)

/-- 'heavykeyslaw03.TagsValid': WHATEVER THE INPUT: true; the input reads as it did. -/
def tagsValidSpec : ChangeSpec := { name := "tagsValid", fn := fun _ => fun
  | [d1, d2, d3] => { results := [.lit (.bool true)], args := [d1, d2, d3] }
  | _ => none }
def tagsValidRow : OpenClaim := { program := "ythomfpfjcniknaa", sum := "d8b73b209cee9c405ed1f42a433c5c77cadb1a63123c782dfaae888ffffd5719", func := "heavykeys/heavykeyslaw03.TagsValid", spec := "tagsValid", inPlace := ["internal/bytealg.abigen_runtime_cmpstring"], unfollowed := true, recurses := true, apart := false }
def TagsValidSaid : Prop := tagsValidRow.holds Try.pinned (OpenSpec.ofChange tagsValidSpec)

/-- ITS FALSE NEIGHBOUR: 'it returns false'. Refute it at one input. -/
def tagsValidWrong : ChangeSpec := { name := "tagsValid", fn := fun _ => fun
  | [d1, d2, d3] => { results := [.lit (.bool false)], args := [d1, d2, d3] }
  | _ => none }
def TagsValidWrongFalsely : Prop := tagsValidRow.holds Try.pinned (OpenSpec.ofChange tagsValidWrong)

/-- 'heavykeyslaw03.TagsKey': WHATEVER THE INPUT: true; the input reads as it did. -/
def tagsKeySpec : ChangeSpec := { name := "tagsKey", fn := fun _ => fun
  | [d1, d2, d3, d4, d5] => { results := [.lit (.bool true)], args := [d1, d2, d3, d4, d5] }
  | _ => none }
def tagsKeyRow : OpenClaim := { program := "ythomfpfjcniknaa", sum := "d8b73b209cee9c405ed1f42a433c5c77cadb1a63123c782dfaae888ffffd5719", func := "heavykeys/heavykeyslaw03.TagsKey", spec := "tagsKey", inPlace := ["internal/bytealg.abigen_runtime_cmpstring"], unfollowed := true, recurses := true, apart := false }
def TagsKeySaid : Prop := tagsKeyRow.holds Try.pinned (OpenSpec.ofChange tagsKeySpec)

/-- ITS FALSE NEIGHBOUR: 'it returns false'. Refute it at one input. -/
def tagsKeyWrong : ChangeSpec := { name := "tagsKey", fn := fun _ => fun
  | [d1, d2, d3, d4, d5] => { results := [.lit (.bool false)], args := [d1, d2, d3, d4, d5] }
  | _ => none }
def TagsKeyWrongFalsely : Prop := tagsKeyRow.holds Try.pinned (OpenSpec.ofChange tagsKeyWrong)

/-- 'heavykeyslaw03.TagsOrder': WHATEVER THE INPUT: true; the input reads as it did. -/
def tagsOrderSpec : ChangeSpec := { name := "tagsOrder", fn := fun _ => fun
  | [d1, d2] => { results := [.lit (.bool true)], args := [d1, d2] }
  | _ => none }
def tagsOrderRow : OpenClaim := { program := "ythomfpfjcniknaa", sum := "d8b73b209cee9c405ed1f42a433c5c77cadb1a63123c782dfaae888ffffd5719", func := "heavykeys/heavykeyslaw03.TagsOrder", spec := "tagsOrder", inPlace := ["internal/bytealg.abigen_runtime_cmpstring"], unfollowed := true, recurses := true, apart := false }
def TagsOrderSaid : Prop := tagsOrderRow.holds Try.pinned (OpenSpec.ofChange tagsOrderSpec)

/-- ITS FALSE NEIGHBOUR: 'it returns false'. Refute it at one input. -/
def tagsOrderWrong : ChangeSpec := { name := "tagsOrder", fn := fun _ => fun
  | [d1, d2] => { results := [.lit (.bool false)], args := [d1, d2] }
  | _ => none }
def TagsOrderWrongFalsely : Prop := tagsOrderRow.holds Try.pinned (OpenSpec.ofChange tagsOrderWrong)

/-- 'heavykeyslaw03.TagsDiffer': WHATEVER THE INPUT: true; the input reads as it did. -/
def tagsDifferSpec : ChangeSpec := { name := "tagsDiffer", fn := fun _ => fun
  | [d1, d2] => { results := [.lit (.bool true)], args := [d1, d2] }
  | _ => none }
def tagsDifferRow : OpenClaim := { program := "ythomfpfjcniknaa", sum := "d8b73b209cee9c405ed1f42a433c5c77cadb1a63123c782dfaae888ffffd5719", func := "heavykeys/heavykeyslaw03.TagsDiffer", spec := "tagsDiffer", inPlace := ["internal/bytealg.abigen_runtime_cmpstring"], unfollowed := true, recurses := true, apart := false }
def TagsDifferSaid : Prop := tagsDifferRow.holds Try.pinned (OpenSpec.ofChange tagsDifferSpec)

/-- ITS FALSE NEIGHBOUR: 'it returns false'. Refute it at one input. -/
def tagsDifferWrong : ChangeSpec := { name := "tagsDiffer", fn := fun _ => fun
  | [d1, d2] => { results := [.lit (.bool false)], args := [d1, d2] }
  | _ => none }
def TagsDifferWrongFalsely : Prop := tagsDifferRow.holds Try.pinned (OpenSpec.ofChange tagsDifferWrong)

/-- 'heavykeyslaw03.TagsSplit': WHATEVER THE INPUT: true; the input reads as it did. -/
def tagsSplitSpec : ChangeSpec := { name := "tagsSplit", fn := fun _ => fun
  | [d1, d2, d3, d4] => { results := [.lit (.bool true)], args := [d1, d2, d3, d4] }
  | _ => none }
def tagsSplitRow : OpenClaim := { program := "ythomfpfjcniknaa", sum := "d8b73b209cee9c405ed1f42a433c5c77cadb1a63123c782dfaae888ffffd5719", func := "heavykeys/heavykeyslaw03.TagsSplit", spec := "tagsSplit", inPlace := ["internal/bytealg.abigen_runtime_cmpstring"], unfollowed := true, recurses := true, apart := false }
def TagsSplitSaid : Prop := tagsSplitRow.holds Try.pinned (OpenSpec.ofChange tagsSplitSpec)

/-- ITS FALSE NEIGHBOUR: 'it returns false'. Refute it at one input. -/
def tagsSplitWrong : ChangeSpec := { name := "tagsSplit", fn := fun _ => fun
  | [d1, d2, d3, d4] => { results := [.lit (.bool false)], args := [d1, d2, d3, d4] }
  | _ => none }
def TagsSplitWrongFalsely : Prop := tagsSplitRow.holds Try.pinned (OpenSpec.ofChange tagsSplitWrong)

/-- 'heavykeyslaw03.TagsBack': WHATEVER THE INPUT: true; the input reads as it did. -/
def tagsBackSpec : ChangeSpec := { name := "tagsBack", fn := fun _ => fun
  | [d] => { results := [.lit (.bool true)], args := [d] }
  | _ => none }
def tagsBackRow : OpenClaim := { program := "ythomfpfjcniknaa", sum := "d8b73b209cee9c405ed1f42a433c5c77cadb1a63123c782dfaae888ffffd5719", func := "heavykeys/heavykeyslaw03.TagsBack", spec := "tagsBack", inPlace := ["internal/bytealg.abigen_runtime_cmpstring"], unfollowed := true, recurses := true, apart := false }
def TagsBackSaid : Prop := tagsBackRow.holds Try.pinned (OpenSpec.ofChange tagsBackSpec)

/-- ITS FALSE NEIGHBOUR: 'it returns false'. Refute it at one input. -/
def tagsBackWrong : ChangeSpec := { name := "tagsBack", fn := fun _ => fun
  | [d] => { results := [.lit (.bool false)], args := [d] }
  | _ => none }
def TagsBackWrongFalsely : Prop := tagsBackRow.holds Try.pinned (OpenSpec.ofChange tagsBackWrong)

/-- 'heavykeyslaw04.EventItem': WHATEVER THE INPUT: true; the input reads as it did. -/
def eventItemSpec : ChangeSpec := { name := "eventItem", fn := fun _ => fun
  | [d1, d2, d3] => { results := [.lit (.bool true)], args := [d1, d2, d3] }
  | _ => none }
def eventItemRow : OpenClaim := { program := "ythomfpfjcniknaa", sum := "d8b73b209cee9c405ed1f42a433c5c77cadb1a63123c782dfaae888ffffd5719", func := "heavykeys/heavykeyslaw04.EventItem", spec := "eventItem", inPlace := ["internal/bytealg.abigen_runtime_cmpstring"], unfollowed := true, recurses := true, apart := false }
def EventItemSaid : Prop := eventItemRow.holds Try.pinned (OpenSpec.ofChange eventItemSpec)

/-- ITS FALSE NEIGHBOUR: 'it returns false'. Refute it at one input. -/
def eventItemWrong : ChangeSpec := { name := "eventItem", fn := fun _ => fun
  | [d1, d2, d3] => { results := [.lit (.bool false)], args := [d1, d2, d3] }
  | _ => none }
def EventItemWrongFalsely : Prop := eventItemRow.holds Try.pinned (OpenSpec.ofChange eventItemWrong)

/-- 'heavykeyslaw04.EventKeys': WHATEVER THE INPUT: true; the input reads as it did. -/
def eventKeysSpec : ChangeSpec := { name := "eventKeys", fn := fun _ => fun
  | [d] => { results := [.lit (.bool true)], args := [d] }
  | _ => none }
def eventKeysRow : OpenClaim := { program := "ythomfpfjcniknaa", sum := "d8b73b209cee9c405ed1f42a433c5c77cadb1a63123c782dfaae888ffffd5719", func := "heavykeys/heavykeyslaw04.EventKeys", spec := "eventKeys", inPlace := ["internal/bytealg.abigen_runtime_cmpstring"], unfollowed := true, recurses := true, apart := false }
def EventKeysSaid : Prop := eventKeysRow.holds Try.pinned (OpenSpec.ofChange eventKeysSpec)

/-- ITS FALSE NEIGHBOUR: 'it returns false'. Refute it at one input. -/
def eventKeysWrong : ChangeSpec := { name := "eventKeys", fn := fun _ => fun
  | [d] => { results := [.lit (.bool false)], args := [d] }
  | _ => none }
def EventKeysWrongFalsely : Prop := eventKeysRow.holds Try.pinned (OpenSpec.ofChange eventKeysWrong)

/- THE SECOND FORM. 'bulk': how many values and letters a reading holds, each counted each time it is reached (what is shared counts as often as it is met; a slice's spare places count too). A statement '..UptoSaid' is the law's where the arguments, and the package variables that the reading takes, are together of bulk at most 1048576: NARROWER than '..Said'. Prove '..Said' where nothing that the law and all that it calls make is longer than what came in: it says more and counts as full. Else prove '..UptoSaid'. A law counts once. -/
mutual
def uptoBulk {H : Type} : DataW H → Nat
  | .lit (.string bytes) => bytes.length + 1
  | .lit _ => 1
  | .nil => 1
  | .ptr d => uptoBulk d + 1
  | .slice elems spare => uptoBulkAll elems + uptoBulkAll spare + 1
  | .agg parts => uptoBulkAll parts + 1
  | .iface _ d => uptoBulk d + 1
  | .map entries => uptoBulkEntries entries + 1
  | .held _ => 1
def uptoBulkAll {H : Type} : List (DataW H) → Nat
  | [] => 0
  | d :: r => uptoBulk d + uptoBulkAll r
def uptoBulkEntries {H : Type} : List (Lit × DataW H) → Nat
  | [] => 0
  | x :: r => uptoBulkEntry x + uptoBulkEntries r
def uptoBulkEntry {H : Type} : Lit × DataW H → Nat
  | (.string bytes, d) => bytes.length + uptoBulk d + 1
  | (_, d) => uptoBulk d + 1
 end
def uptoSmall : (H : Type) → List (DataW H) → Bool := fun _ ds => decide (uptoBulkAll ds ≤ 1048576)
def OpenSpec.upto (s : _root_.Go.ChangeSpec) : _root_.Go.OpenSpec := { _root_.Go.OpenSpec.ofChange s with cond := some uptoSmall }

/-- 'heavykeyslaw04.EventEncode', WHERE WHAT IT READS IS OF BULK AT MOST 1048576: true; the input reads as it did. -/
def eventEncodeUptoRow : OpenClaim := { program := "ythomfpfjcniknaa", sum := "d8b73b209cee9c405ed1f42a433c5c77cadb1a63123c782dfaae888ffffd5719", func := "heavykeys/heavykeyslaw04.EventEncode", spec := "eventEncode", apart := false, narrowed := true }
def EventEncodeUptoSaid : Prop := eventEncodeUptoRow.holds Try.pinned (OpenSpec.upto eventEncodeSpec)

/-- 'heavykeyslaw04.EventVerdict', WHERE WHAT IT READS IS OF BULK AT MOST 1048576: true; the input reads as it did. -/
def eventVerdictUptoRow : OpenClaim := { program := "ythomfpfjcniknaa", sum := "d8b73b209cee9c405ed1f42a433c5c77cadb1a63123c782dfaae888ffffd5719", func := "heavykeys/heavykeyslaw04.EventVerdict", spec := "eventVerdict", apart := false, narrowed := true }
def EventVerdictUptoSaid : Prop := eventVerdictUptoRow.holds Try.pinned (OpenSpec.upto eventVerdictSpec)

/-- 'heavykeyslaw04.EventDecode', WHERE WHAT IT READS IS OF BULK AT MOST 1048576: true; the input reads as it did. -/
def eventDecodeUptoRow : OpenClaim := { program := "ythomfpfjcniknaa", sum := "d8b73b209cee9c405ed1f42a433c5c77cadb1a63123c782dfaae888ffffd5719", func := "heavykeys/heavykeyslaw04.EventDecode", spec := "eventDecode", unfollowed := true, recurses := true, apart := false, narrowed := true }
def EventDecodeUptoSaid : Prop := eventDecodeUptoRow.holds Try.pinned (OpenSpec.upto eventDecodeSpec)

/-- 'heavykeyslaw04.EventBack', WHERE WHAT IT READS IS OF BULK AT MOST 1048576: true; the input reads as it did. -/
def eventBackUptoRow : OpenClaim := { program := "ythomfpfjcniknaa", sum := "d8b73b209cee9c405ed1f42a433c5c77cadb1a63123c782dfaae888ffffd5719", func := "heavykeys/heavykeyslaw04.EventBack", spec := "eventBack", unfollowed := true, recurses := true, apart := false, narrowed := true }
def EventBackUptoSaid : Prop := eventBackUptoRow.holds Try.pinned (OpenSpec.upto eventBackSpec)

/-- 'heavykeyslaw03.TagsValid', WHERE WHAT IT READS IS OF BULK AT MOST 1048576: true; the input reads as it did. -/
def tagsValidUptoRow : OpenClaim := { program := "ythomfpfjcniknaa", sum := "d8b73b209cee9c405ed1f42a433c5c77cadb1a63123c782dfaae888ffffd5719", func := "heavykeys/heavykeyslaw03.TagsValid", spec := "tagsValid", inPlace := ["internal/bytealg.abigen_runtime_cmpstring"], unfollowed := true, recurses := true, apart := false, narrowed := true }
def TagsValidUptoSaid : Prop := tagsValidUptoRow.holds Try.pinned (OpenSpec.upto tagsValidSpec)

/-- 'heavykeyslaw03.TagsKey', WHERE WHAT IT READS IS OF BULK AT MOST 1048576: true; the input reads as it did. -/
def tagsKeyUptoRow : OpenClaim := { program := "ythomfpfjcniknaa", sum := "d8b73b209cee9c405ed1f42a433c5c77cadb1a63123c782dfaae888ffffd5719", func := "heavykeys/heavykeyslaw03.TagsKey", spec := "tagsKey", inPlace := ["internal/bytealg.abigen_runtime_cmpstring"], unfollowed := true, recurses := true, apart := false, narrowed := true }
def TagsKeyUptoSaid : Prop := tagsKeyUptoRow.holds Try.pinned (OpenSpec.upto tagsKeySpec)

/-- 'heavykeyslaw03.TagsOrder', WHERE WHAT IT READS IS OF BULK AT MOST 1048576: true; the input reads as it did. -/
def tagsOrderUptoRow : OpenClaim := { program := "ythomfpfjcniknaa", sum := "d8b73b209cee9c405ed1f42a433c5c77cadb1a63123c782dfaae888ffffd5719", func := "heavykeys/heavykeyslaw03.TagsOrder", spec := "tagsOrder", inPlace := ["internal/bytealg.abigen_runtime_cmpstring"], unfollowed := true, recurses := true, apart := false, narrowed := true }
def TagsOrderUptoSaid : Prop := tagsOrderUptoRow.holds Try.pinned (OpenSpec.upto tagsOrderSpec)

/-- 'heavykeyslaw03.TagsDiffer', WHERE WHAT IT READS IS OF BULK AT MOST 1048576: true; the input reads as it did. -/
def tagsDifferUptoRow : OpenClaim := { program := "ythomfpfjcniknaa", sum := "d8b73b209cee9c405ed1f42a433c5c77cadb1a63123c782dfaae888ffffd5719", func := "heavykeys/heavykeyslaw03.TagsDiffer", spec := "tagsDiffer", inPlace := ["internal/bytealg.abigen_runtime_cmpstring"], unfollowed := true, recurses := true, apart := false, narrowed := true }
def TagsDifferUptoSaid : Prop := tagsDifferUptoRow.holds Try.pinned (OpenSpec.upto tagsDifferSpec)

/-- 'heavykeyslaw03.TagsSplit', WHERE WHAT IT READS IS OF BULK AT MOST 1048576: true; the input reads as it did. -/
def tagsSplitUptoRow : OpenClaim := { program := "ythomfpfjcniknaa", sum := "d8b73b209cee9c405ed1f42a433c5c77cadb1a63123c782dfaae888ffffd5719", func := "heavykeys/heavykeyslaw03.TagsSplit", spec := "tagsSplit", inPlace := ["internal/bytealg.abigen_runtime_cmpstring"], unfollowed := true, recurses := true, apart := false, narrowed := true }
def TagsSplitUptoSaid : Prop := tagsSplitUptoRow.holds Try.pinned (OpenSpec.upto tagsSplitSpec)

/-- 'heavykeyslaw03.TagsBack', WHERE WHAT IT READS IS OF BULK AT MOST 1048576: true; the input reads as it did. -/
def tagsBackUptoRow : OpenClaim := { program := "ythomfpfjcniknaa", sum := "d8b73b209cee9c405ed1f42a433c5c77cadb1a63123c782dfaae888ffffd5719", func := "heavykeys/heavykeyslaw03.TagsBack", spec := "tagsBack", inPlace := ["internal/bytealg.abigen_runtime_cmpstring"], unfollowed := true, recurses := true, apart := false, narrowed := true }
def TagsBackUptoSaid : Prop := tagsBackUptoRow.holds Try.pinned (OpenSpec.upto tagsBackSpec)

/-- 'heavykeyslaw04.EventItem', WHERE WHAT IT READS IS OF BULK AT MOST 1048576: true; the input reads as it did. -/
def eventItemUptoRow : OpenClaim := { program := "ythomfpfjcniknaa", sum := "d8b73b209cee9c405ed1f42a433c5c77cadb1a63123c782dfaae888ffffd5719", func := "heavykeys/heavykeyslaw04.EventItem", spec := "eventItem", inPlace := ["internal/bytealg.abigen_runtime_cmpstring"], unfollowed := true, recurses := true, apart := false, narrowed := true }
def EventItemUptoSaid : Prop := eventItemUptoRow.holds Try.pinned (OpenSpec.upto eventItemSpec)

/-- 'heavykeyslaw04.EventKeys', WHERE WHAT IT READS IS OF BULK AT MOST 1048576: true; the input reads as it did. -/
def eventKeysUptoRow : OpenClaim := { program := "ythomfpfjcniknaa", sum := "d8b73b209cee9c405ed1f42a433c5c77cadb1a63123c782dfaae888ffffd5719", func := "heavykeys/heavykeyslaw04.EventKeys", spec := "eventKeys", inPlace := ["internal/bytealg.abigen_runtime_cmpstring"], unfollowed := true, recurses := true, apart := false, narrowed := true }
def EventKeysUptoSaid : Prop := eventKeysUptoRow.holds Try.pinned (OpenSpec.upto eventKeysSpec)

end Rows
end Go.Proofs.Ythomfpfjcniknaa
