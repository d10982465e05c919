/- The law ChainTexts returns true whatever comes in, and leaves what came in as it was: the given statement ChainTextsSaid. It has no conditions. -/
import Derived.Test.YtkabdnijhjccoaaCE1
import Derived.Test.YtkabdnijhjccoaaHB0
namespace Go.Proofs.Ytkabdnijhjccoaa
open Go.RowKit Go.WideShapes Go.ChangeShapes

set_option maxRecDepth 100000 in
theorem chainTexts_lifted (os : Os) (started : os.Started) (H : Type) (enc : TypeId × Value → H) :
    ReturnsInHanded {} Try.checked os 3 .any (Rows.chainTextsSpec.pre6 enc Try.prog Try.f3 Rows.chainTextsRow.domain false)
      (Rows.chainTextsSpec.post enc Try.prog Try.f3 false true false false) := by
  refine lifted_true (C := Try.checked) (tb := 4) Try.own started (by kernel_rfl) Try.func3
    (ChangeSpec.witness6 (enc := enc) (C := Try.checked) false ⟨#[], #[.slice none 0 0], []⟩ 8 (by kernel_rfl) (by kernel_rfl) (by kernel_rfl) (by kernel_rfl))
    rfl (fun ds hd => ?_) Try.laidOut (by kernel_rfl) (by kernel_rfl) Try.underlying4 (fun W args h => ?_)
  · have : ds.length = 1 := hd.trans (by kernel_rfl)
    match ds, this with
    | [_], _ => rfl
  · have h' : Pars enc Try.prog W Try.f3.params.toList args := h
    rw [Try.params3] at h'
    clear h
    obtain ⟨v0, _, rfl, h0, h'⟩ := pars_cons h'
    obtain rfl := pars_nil h'
    obtain ⟨A, c, l, rfl, hx, hxn, _⟩ := par_sv h0
    exact chainTexts_spec A c l W hx (by omega)
theorem chainTexts_holds : Rows.ChainTextsSaid :=
  OpenClaim.holds_of_wide 3 Try.f3 rfl rfl rfl rfl rfl rfl rfl ⟨rfl, rfl, rfl, rfl, rfl⟩ rfl rfl rfl rfl rfl (by kernel_rfl) Try.func3 (by kernel_rfl)
    (of_decide_eq_true (by kernel_rfl)) (by unfold Func.isWrapper; first | (rw [if_pos (by decide +kernel)]; kernel_rfl) | (rw [if_neg (by decide +kernel)]; exact ⟨rfl, rfl⟩))
    (fun os started H enc _ => chainTexts_lifted os started H enc)
#print axioms chainTexts_holds
end Go.Proofs.Ytkabdnijhjccoaa
