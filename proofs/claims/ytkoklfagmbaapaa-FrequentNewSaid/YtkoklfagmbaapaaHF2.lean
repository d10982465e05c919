/- The law FrequentNew returns true whatever comes in, and leaves what came in as it was: the given statement FrequentNewSaid. It has no conditions. -/
import Derived.Test.YtkoklfagmbaapaaQN1
import Derived.Test.YtkoklfagmbaapaaHI0
namespace Go.Proofs.Ytkoklfagmbaapaa
open Go.RowKit Go.WideShapes Go.ChangeShapes

set_option maxRecDepth 100000 in
theorem frequentNew_lifted (os : Os) (started : os.Started) (H : Type) (enc : TypeId × Value → H) :
    ReturnsInHanded {} Try.checked os 5 .any (Rows.frequentNewSpec.pre6 enc Try.prog Try.f5 Rows.frequentNewRow.domain false)
      (Rows.frequentNewSpec.post enc Try.prog Try.f5 false true false false) := by
  refine lifted_true (C := Try.checked) (tb := 4) Try.own started (by kernel_rfl) Try.func5
    (ChangeSpec.witness6 (enc := enc) (C := Try.checked) false ⟨#[], #[.int .i64 0], []⟩ 8 (by kernel_rfl) (by kernel_rfl) (by kernel_rfl) (by kernel_rfl))
    rfl (fun ds hd => ?_) Try.laidOut (by kernel_rfl) (by kernel_rfl) Try.underlying4 (fun W args h => ?_)
  · have : ds.length = 1 := hd.trans (by kernel_rfl)
    match ds, this with
    | [_], _ => rfl
  · have h' : Pars enc Try.prog W Try.f5.params.toList args := h
    rw [Try.params5] at h'
    clear h
    obtain ⟨v0, _, rfl, h0, h'⟩ := pars_cons h'
    obtain rfl := pars_nil h'
    obtain ⟨n, rfl, _⟩ := par_int Try.underlying3 h0
    exact frequentNew_spec n W
theorem frequentNew_holds : Rows.FrequentNewSaid :=
  OpenClaim.holds_of_wide 5 Try.f5 rfl rfl rfl rfl rfl rfl rfl ⟨rfl, rfl, rfl, rfl, rfl⟩ rfl rfl rfl rfl rfl (by kernel_rfl) Try.func5 (by kernel_rfl)
    (of_decide_eq_true (by kernel_rfl)) (by unfold Func.isWrapper; first | (rw [if_pos (by decide +kernel)]; kernel_rfl) | (rw [if_neg (by decide +kernel)]; exact ⟨rfl, rfl⟩))
    (fun os started H enc _ => frequentNew_lifted os started H enc)
#print axioms frequentNew_holds
end Go.Proofs.Ytkoklfagmbaapaa
