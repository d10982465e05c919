/- Tables: the example of the chapter. -/
import Derived.Test.YtkoklfagmbaapaaI7
namespace Go.Proofs.Ytkoklfagmbaapaa
open Go.RowKit

def sv (l : List ByteArray) : List Value := l.map Value.string
theorem sv_get {l : List ByteArray} {i : Nat} {s : ByteArray} (h : l[i]? = some s) : (sv l)[i * 1]? = some (.string s) := by simp [sv, h]
theorem TbR.nd {α : Type} {K : VI α} {b n : Nat} {T : List Nat} {seed : Int} {M : List (ByteArray × α)} {r : Res} (h : TbR K b n T seed M r) : (keys M).Nodup := by
  obtain ⟨N, cs, hC, hI, hM, hle, hsm⟩ := h
  exact (keys_perm hM).nodup_iff.1 hI.nd
theorem TbR.len {α : Type} {K : VI α} {b n : Nat} {T : List Nat} {seed : Int} {M : List (ByteArray × α)} {r : Res} (h : TbR K b n T seed M r) : M.length ≤ n := by
  obtain ⟨N, cs, hC, hI, hM, hle, hsm⟩ := h
  rw [← hM.length_eq]; exact hle
theorem small_of {s : ByteArray} (h : s.size ≤ 100) : small s := by unfold small; omega
end Go.Proofs.Ytkoklfagmbaapaa
