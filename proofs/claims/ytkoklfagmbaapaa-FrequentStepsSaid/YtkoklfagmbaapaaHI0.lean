/- What comes in, by type: numbers, lists of numbers, texts. -/
import Derived.Test.YtkoklfagmbaapaaK6
import Derived.Test.YtkoklfagmbaapaaIA
import Derived.Test.YtkoklfagmbaapaaRows
namespace Go.Proofs.Ytkoklfagmbaapaa
open Go.RowKit

theorem Try.own : ownKnob Try.prog.godebug = none := by kernel_rfl
theorem Try.laidOut : laidOutB Try.prog = true := by kernel_rfl

section
variable {H : Type} {enc : TypeId × Value → H} {w : World}

theorem i64_wf {n : Int} (h : (Lit.int .i64 n).wf = true) : -9223372036854775808 ≤ n ∧ n ≤ 9223372036854775807 := by
  simpa [Lit.wf, IntKind.min, IntKind.max, IntKind.signed, IntKind.bits] using h
theorem u64_wf {n : Int} (h : (Lit.int .u64 n).wf = true) : ∃ k : Nat, n = k ∧ k < 18446744073709551616 := by
  simp [Lit.wf, IntKind.min, IntKind.max, IntKind.signed, IntKind.bits] at h
  exact ⟨n.toNat, by omega, by omega⟩
theorem u32_wf {n : Int} (h : (Lit.int .u32 n).wf = true) : ∃ k : Nat, n = k ∧ k < 4294967296 := by
  simp [Lit.wf, IntKind.min, IntKind.max, IntKind.signed, IntKind.bits] at h
  exact ⟨n.toNat, by omega, by omega⟩
theorem u16_wf {n : Int} (h : (Lit.int .u16 n).wf = true) : ∃ k : Nat, n = k ∧ k < 65536 := by
  simp [Lit.wf, IntKind.min, IntKind.max, IntKind.signed, IntKind.bits] at h
  exact ⟨n.toNat, by omega, by omega⟩
theorem u8_wf {n : Int} (h : (Lit.int .u8 n).wf = true) : ∃ k : Nat, n = k ∧ k < 256 := by
  simp [Lit.wf, IntKind.min, IntKind.max, IntKind.signed, IntKind.bits] at h
  exact ⟨n.toNat, by omega, by omega⟩
theorem par_iv {v : Value} (h : Par enc Try.prog w 22 v) : ∃ A c zs, v = .slice A (zs : List Int).length c ∧ Rd w Nil 1 (.slice A zs.length c) zs.length (iv zs) ∧ zs.length * 8 ≤ 140737488351232 ∧ ∀ z ∈ zs, -9223372036854775808 ≤ z ∧ z ≤ 9223372036854775807 := by
  obtain ⟨A, c, zs, h1, h2, h3, _, h4⟩ := par_ints (bytes := 8) Try.underlying22 Try.underlying3 (by kernel_rfl) (by kernel_rfl) h
  exact ⟨A, c, zs, h1, h2, h3, fun z hz => i64_wf (h4 z hz)⟩
theorem par_sv {v : Value} (h : Par enc Try.prog w 30 v) : ∃ A c l, v = .slice A (l : List ByteArray).length c ∧ Rd w Nil 1 (.slice A l.length c) l.length (sv l) ∧ l.length * 16 ≤ 140737488351232 ∧ ∀ s ∈ l, s.size ≤ 140737488351232 :=
  par_strings Try.underlying30 Try.underlying9 (by kernel_rfl) (by kernel_rfl) h
theorem par_uv {v : Value} (h : Par enc Try.prog w 64 v) : ∃ A c T, v = .slice A (T : List Nat).length c ∧ Rd w Nil 1 (.slice A T.length c) T.length (u64v T) ∧ T.length * 8 ≤ 140737488351232 := by
  obtain ⟨A, c, zs, h1, h2, h3, _, h4⟩ := par_ints (bytes := 8) Try.underlying64 Try.underlying33 (by kernel_rfl) (by kernel_rfl) h
  have e : (zs.map Int.toNat).map (fun c : Nat => Value.int .u64 (c : Int)) = zs.map (Value.int .u64) := by
    rw [List.map_map]
    refine List.map_congr_left fun z hz => ?_
    obtain ⟨k, rfl, _⟩ := u64_wf (h4 z hz)
    rfl
  have hl : (zs.map Int.toNat).length = zs.length := List.length_map ..
  refine ⟨A, c, zs.map Int.toNat, by rw [hl]; exact h1, ?_, by rw [hl]; exact h3⟩
  rw [hl, u64v, e]
  exact h2
end
end Go.Proofs.Ytkoklfagmbaapaa
