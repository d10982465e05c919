/- What comes in, by type. -/
import Derived.Test.YthbjjfpikfmmnaaK6
import Derived.Test.YthbjjfpikfmmnaaD1
import Derived.Test.YthbjjfpikfmmnaaRows
namespace Go.Proofs.Ythbjjfpikfmmnaa
open Go.RowKit

theorem Try.own : ownKnob Try.prog.godebug = none := by kernel_rfl
theorem Try.laidOut : laidOutB Try.prog = true := by kernel_rfl

section
variable {H : Type} {enc : TypeId × Value → H} {w : World}

theorem i64_wf {n : Int} (h : (Lit.int .i64 n).wf = true) : -9223372036854775808 ≤ n ∧ n ≤ 9223372036854775807 := by
  simpa [Lit.wf, IntKind.min, IntKind.max, IntKind.signed, IntKind.bits] using h
theorem u64_wf {n : Int} (h : (Lit.int .u64 n).wf = true) : ∃ k : Nat, n = k ∧ k < 18446744073709551616 := by
  simp [Lit.wf, IntKind.min, IntKind.max, IntKind.signed, IntKind.bits] at h
  exact ⟨n.toNat, by omega, by omega⟩
theorem u16_wf {n : Int} (h : (Lit.int .u16 n).wf = true) : ∃ k : Nat, n = k ∧ k < 65536 := by
  simp [Lit.wf, IntKind.min, IntKind.max, IntKind.signed, IntKind.bits] at h
  exact ⟨n.toNat, by omega, by omega⟩
theorem u8_wf {n : Int} (h : (Lit.int .u8 n).wf = true) : ∃ k : Nat, n = k ∧ k < 256 := by
  simp [Lit.wf, IntKind.min, IntKind.max, IntKind.signed, IntKind.bits] at h
  exact ⟨n.toNat, by omega, by omega⟩

theorem arg_tags {cs : List Value} (h : Arg enc Try.prog w 37 cs) : ∃ A c l, cs = [.slice A (l : List Tg).length c] ∧ Rd w Nil 2 (.slice A l.length c) l.length (tcells l) ∧ l.length * 32 ≤ 140737488351232 ∧
    ∀ s ∈ l, s.1.size ≤ 140737488351232 ∧ s.2.size ≤ 140737488351232 :=
  arg_pairs Try.underlying37 Try.underlying52 (by kernel_rfl) (by kernel_rfl) Try.underlying9 Try.underlying9 rfl rfl (by kernel_rfl) (by kernel_rfl) h
theorem par_tags {v : Value} (h : Par enc Try.prog w 37 v) : ∃ A c l, v = .slice A (l : List Tg).length c ∧ Rd w Nil 2 (.slice A l.length c) l.length (tcells l) ∧ l.length * 32 ≤ 140737488351232 ∧
    ∀ s ∈ l, s.1.size ≤ 140737488351232 ∧ s.2.size ≤ 140737488351232 :=
  par_pairs Try.underlying37 Try.underlying52 (by kernel_rfl) (by kernel_rfl) Try.underlying9 Try.underlying9 rfl rfl (by kernel_rfl) (by kernel_rfl) h
set_option maxRecDepth 100000 in
theorem par_event {v : Value} (h : Par enc Try.prog w 40 v) : ∃ A c l t wt, v = .agg #[.slice A (l : List Tg).length c, .int .i64 t, .int .u64 ((wt : Nat) : Int)] ∧ Rd w Nil 2 (.slice A l.length c) l.length (tcells l) ∧ l.length * 32 ≤ 140737488351232 ∧
    (∀ s ∈ l, s.1.size ≤ 140737488351232 ∧ s.2.size ≤ 140737488351232) ∧ (-9223372036854775808 ≤ t ∧ t ≤ 9223372036854775807) ∧ wt < 18446744073709551616 := by
  obtain ⟨⟨cs⟩, rfl, hs, hf⟩ := par_struct Try.underlying40 h
  match cs, hs.trans (show Try.prog.cellsOf 40 = 3 by kernel_rfl) with
  | [v0, v1, v2], _ =>
    have k1 : Try.prog.cellsOf 3 = 1 := by kernel_rfl
    have k0 : Try.prog.cellsOf 37 = 1 := by kernel_rfl
    have k2 : Try.prog.cellsOf 38 = 1 := by kernel_rfl
    have g0 : Arg enc Try.prog w 37 (([v0, v1, v2].drop 0).take (Try.prog.cellsOf 37)) := hf 0 _ rfl
    have g1 : Arg enc Try.prog w 3 (([v0, v1, v2].drop 1).take (Try.prog.cellsOf 3)) := hf 1 _ rfl
    have g2 : Arg enc Try.prog w 38 (([v0, v1, v2].drop 2).take (Try.prog.cellsOf 38)) := hf 2 _ rfl
    rw [k0] at g0; rw [k1] at g1; rw [k2] at g2
    obtain ⟨A, c, l, e0, h0, h1, h2⟩ := arg_tags g0
    obtain ⟨t, e1, h3⟩ := arg_int Try.underlying3 g1
    obtain ⟨z, e2, h4⟩ := arg_int Try.underlying38 g2
    obtain ⟨wt, rfl, h5⟩ := u64_wf h4
    simp at e0 e1 e2
    subst e0; subst e1; subst e2
    exact ⟨A, c, l, t, wt, rfl, h0, h1, h2, i64_wf h3, h5⟩
theorem par_iv {v : Value} (h : Par enc Try.prog w 23 v) : ∃ A c zs, v = .slice A (zs : List Int).length c ∧ Rd w Nil 1 (.slice A zs.length c) zs.length (zs.map (Value.int .i64)) ∧ zs.length * 8 ≤ 140737488351232 := by
  obtain ⟨A, c, zs, h1, h2, h3, _⟩ := par_ints (bytes := 8) Try.underlying23 Try.underlying3 (by kernel_rfl) (by kernel_rfl) h
  exact ⟨A, c, zs, h1, h2, h3⟩
theorem par_bv {v : Value} (h : Par enc Try.prog w 22 v) : ∃ A c l, v = .slice A (l : List Nat).length c ∧ Rd w Nil 1 (.slice A l.length c) l.length (bv l) ∧ l.length ≤ 140737488351232 ∧ ∀ b ∈ l, b < 256 := by
  obtain ⟨A, c, zs, h1, h2, h3, _, h4⟩ := par_ints (bytes := 1) Try.underlying22 Try.underlying5 (by kernel_rfl) (by kernel_rfl) h
  obtain ⟨l, rfl, hl, hb⟩ := u8_nats zs h4
  refine ⟨A, c, l, by rw [h1, hl], ?_, by omega, hb⟩
  rw [← hl] at h2
  simpa [bv, List.map_map, Function.comp_def] using h2
end
end Go.Proofs.Ythbjjfpikfmmnaa
