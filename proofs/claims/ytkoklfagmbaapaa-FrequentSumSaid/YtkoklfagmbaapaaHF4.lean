/- The law FrequentSum returns true whatever comes in, and leaves what came in as it was: the given statement FrequentSumSaid. It has no conditions. -/
import Derived.Test.YtkoklfagmbaapaaQS1
import Derived.Test.YtkoklfagmbaapaaHI0
namespace Go.Proofs.Ytkoklfagmbaapaa
open Go.RowKit Go.WideShapes Go.ChangeShapes

set_option maxRecDepth 100000 in
theorem frequentSum_lifted (os : Os) (started : os.Started) (H : Type) (enc : TypeId × Value → H) :
    ReturnsInHanded {} Try.checked os 7 .any (Rows.frequentSumSpec.pre6 enc Try.prog Try.f7 Rows.frequentSumRow.domain false)
      (Rows.frequentSumSpec.post enc Try.prog Try.f7 false true false false) := by
  refine lifted_true (C := Try.checked) (tb := 4) Try.own started (by kernel_rfl) Try.func7
    (ChangeSpec.witness6 (enc := enc) (C := Try.checked) false ⟨#[], #[.int .u8 0, .slice none 0 0, .slice none 0 0], []⟩ 8 (by kernel_rfl) (by kernel_rfl) (by kernel_rfl) (by kernel_rfl))
    rfl (fun ds hd => ?_) Try.laidOut (by kernel_rfl) (by kernel_rfl) Try.underlying4 (fun W args h => ?_)
  · have : ds.length = 3 := hd.trans (by kernel_rfl)
    match ds, this with
    | [_, _, _], _ => rfl
  · have h' : Pars enc Try.prog W Try.f7.params.toList args := h
    rw [Try.params7] at h'
    clear h
    obtain ⟨v0, _, rfl, h0, h'⟩ := pars_cons h'
    obtain ⟨v1, _, rfl, h1, h'⟩ := pars_cons h'
    obtain ⟨v2, _, rfl, h2, h'⟩ := pars_cons h'
    obtain rfl := pars_nil h'
    obtain ⟨n, rfl, hn⟩ := par_int Try.underlying5 h0
    obtain ⟨z, rfl, hz⟩ := u8_wf hn
    obtain ⟨A1, c1, L1, rfl, hx1, hn1, _⟩ := par_iv h1
    obtain ⟨A2, c2, L2, rfl, hx2, hn2, _⟩ := par_iv h2
    exact frequentSum_spec z A1 c1 L1 A2 c2 L2 W hz hx1 (by omega) hx2 (by omega)
theorem frequentSum_holds : Rows.FrequentSumSaid :=
  OpenClaim.holds_of_wide 7 Try.f7 rfl rfl rfl rfl rfl rfl rfl ⟨rfl, rfl, rfl, rfl, rfl⟩ rfl rfl rfl rfl rfl (by kernel_rfl) Try.func7 (by kernel_rfl)
    (of_decide_eq_true (by kernel_rfl)) (by unfold Func.isWrapper; first | (rw [if_pos (by decide +kernel)]; kernel_rfl) | (rw [if_neg (by decide +kernel)]; exact ⟨rfl, rfl⟩))
    (fun os started H enc _ => frequentSum_lifted os started H enc)
#print axioms frequentSum_holds
end Go.Proofs.Ytkoklfagmbaapaa
