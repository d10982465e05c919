/- The law SavingSteps returns true whatever comes in, and leaves what came in as it was: the given statement SavingStepsSaid. It has no conditions. -/
import Derived.Test.YtbcfdgnpdaaleaaGreatVT1x
import Derived.Test.YtbcfdgnpdaaleaaGreatMA11
namespace Go.Proofs.YtbcfdgnpdaaleaaGreat
open Go.RowKit Go.WideShapes Go.ChangeShapes

section
variable {H : Type} {enc : TypeId × Value → H} {w : World}
set_option maxRecDepth 100000 in
theorem par_entry {v : Value} (h : Par enc Tryz.prog w 25 v) : ∃ (k : ByteArray) (o s : Nat), v = .agg #[.string k, .int .u64 (o : Int), .int .u64 (s : Int)] ∧ k.size ≤ 140737488351232 ∧ o < 18446744073709551616 ∧ s < 18446744073709551616 := by
  have h0 := par_struct Tryz.underlying25 h
  obtain ⟨⟨cs⟩, rfl, hs, hf⟩ := h0
  match cs, hs.trans (show Tryz.prog.cellsOf 25 = 3 by kernel_rfl) with
  | [v0, v1, v2], _ =>
    have k0 : Tryz.prog.cellsOf 9 = 1 := by kernel_rfl
    have k2 : Tryz.prog.cellsOf 23 = 1 := by kernel_rfl
    have g0 : Arg enc Tryz.prog w 9 (([v0, v1, v2].drop 0).take (Tryz.prog.cellsOf 9)) := hf 0 _ rfl
    have g1 : Arg enc Tryz.prog w 23 (([v0, v1, v2].drop 1).take (Tryz.prog.cellsOf 23)) := hf 1 _ rfl
    have g2 : Arg enc Tryz.prog w 23 (([v0, v1, v2].drop 2).take (Tryz.prog.cellsOf 23)) := hf 2 _ rfl
    rw [k0] at g0; rw [k2] at g1; rw [k2] at g2
    obtain ⟨k, e0, h0⟩ := arg_string Tryz.underlying9 g0
    obtain ⟨y, e1, h3⟩ := arg_int Tryz.underlying23 g1
    obtain ⟨z, e2, h4⟩ := arg_int Tryz.underlying23 g2
    obtain ⟨o, rfl, h5⟩ := u64_wf h3
    obtain ⟨s, rfl, h6⟩ := u64_wf h4
    simp at e0 e1 e2
    subst e0; subst e1; subst e2
    exact ⟨k, o, s, rfl, h0, h5, h6⟩
end

set_option maxRecDepth 100000 in
theorem savingSteps_lifted (os : Os) (started : os.Started) (H : Type) (enc : TypeId × Value → H) :
    ReturnsInHanded {} Tryz.checked os 3 .any (Rows.savingStepsSpec.pre6 enc Tryz.prog Tryz.f3 Rows.savingStepsRow.domain false)
      (Rows.savingStepsSpec.post enc Tryz.prog Tryz.f3 false true false false) := by
  refine lifted_true (C := Tryz.checked) (tb := 4) Tryz.own started (by kernel_rfl) Tryz.func3
    (ChangeSpec.witness6 (enc := enc) (C := Tryz.checked) false ⟨#[], #[.int .u8 0, .slice none 0 0, .slice none 0 0, .int .u64 0, .agg #[.string ByteArray.empty, .int .u64 0, .int .u64 0]], []⟩ 8 (by kernel_rfl) (by kernel_rfl) (by kernel_rfl) (by kernel_rfl))
    rfl (fun ds hd => ?_) Tryz.laidOut (by kernel_rfl) (by kernel_rfl) Tryz.underlying4 (fun W args h => ?_)
  · have : ds.length = 5 := hd.trans (by kernel_rfl)
    match ds, this with
    | [_, _, _, _, _], _ => rfl
  · have h' : Pars enc Tryz.prog W Tryz.f3.params.toList args := h
    rw [Tryz.params3] at h'
    clear h
    obtain ⟨v0, _, rfl, h0, h'⟩ := pars_cons h'
    obtain ⟨v1, _, rfl, h1, h'⟩ := pars_cons h'
    obtain ⟨v2, _, rfl, h2, h'⟩ := pars_cons h'
    obtain ⟨v3, _, rfl, h3, h'⟩ := pars_cons h'
    obtain ⟨v4, _, rfl, h4, h'⟩ := pars_cons h'
    obtain rfl := pars_nil h'
    obtain ⟨n, rfl, hn⟩ := par_int Tryz.underlying5 h0
    obtain ⟨z, rfl, hz⟩ := u8_wf hn
    obtain ⟨A1, c1, L1, rfl, hx1, hn1, _⟩ := par_iv h1
    obtain ⟨A2, c2, L2, rfl, hx2, hn2, _⟩ := par_iv h2
    obtain ⟨n3, rfl, hn3⟩ := par_int Tryz.underlying23 h3
    obtain ⟨raw, rfl, hraw⟩ := u64_wf hn3
    obtain ⟨xk, xo, xs, rfl, hxk, hxo, hxs⟩ := par_entry h4
    exact savingSteps_spec z A1 c1 L1 A2 c2 L2 raw xk xo xs W hz hraw (by unfold small; omega) hxo hxs hx1 (by omega) hx2 (by omega)
theorem savingSteps_holds : Rows.SavingStepsSaid :=
  OpenClaim.holds_of_wide 3 Tryz.f3 rfl rfl rfl rfl rfl rfl rfl ⟨rfl, rfl, rfl, rfl, rfl⟩ rfl rfl rfl rfl rfl (by kernel_rfl) Tryz.func3 (by kernel_rfl)
    (of_decide_eq_true (by kernel_rfl)) (by unfold Func.isWrapper; first | (rw [if_pos (by decide +kernel)]; kernel_rfl) | (rw [if_neg (by decide +kernel)]; exact ⟨rfl, rfl⟩))
    (fun os started H enc _ => savingSteps_lifted os started H enc)
#print axioms savingSteps_holds
end Go.Proofs.YtbcfdgnpdaaleaaGreat
