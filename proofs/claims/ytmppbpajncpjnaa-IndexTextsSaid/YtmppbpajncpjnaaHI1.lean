/- The law IndexTexts returns true whatever comes in, and leaves what came in as it was: the given statement IndexTextsSaid. It has no conditions. -/
import Derived.Test.YtmppbpajncpjnaaIT1
import Derived.Test.YtmppbpajncpjnaaHI0
namespace Go.Proofs.Ytmppbpajncpjnaa
open Go.RowKit Go.WideShapes Go.ChangeShapes

set_option maxRecDepth 100000 in
theorem indexTexts_lifted (os : Os) (started : os.Started) (H : Type) (enc : TypeId × Value → H) :
    ReturnsInHanded {} Try.checked os 3 .any (Rows.indexTextsSpec.pre6 enc Try.prog Try.f3 Rows.indexTextsRow.domain false)
      (Rows.indexTextsSpec.post enc Try.prog Try.f3 false true false false) := by
  refine lifted_true (C := Try.checked) (tb := 4) Try.own started (by kernel_rfl) Try.func3
    (ChangeSpec.witness6 (enc := enc) (C := Try.checked) false ⟨#[], #[.slice none 0 0, .slice none 0 0], []⟩ 8 (by kernel_rfl) (by kernel_rfl) (by kernel_rfl) (by kernel_rfl))
    rfl (fun ds hd => ?_) Try.laidOut (by kernel_rfl) (by kernel_rfl) Try.underlying4 (fun W args h => ?_)
  · have : ds.length = 2 := hd.trans (by kernel_rfl)
    match ds, this with
    | [_, _], _ => rfl
  · have h' : Pars enc Try.prog W Try.f3.params.toList args := h
    rw [Try.params3] at h'
    clear h
    obtain ⟨v0, _, rfl, h0, h'⟩ := pars_cons h'
    obtain ⟨v1, _, rfl, h1, h'⟩ := pars_cons h'
    obtain rfl := pars_nil h'
    obtain ⟨A1, c1, ks, rfl, hx1, hn1, hs1⟩ := par_sv h0
    obtain ⟨A2, c2, L, rfl, hx2, hn2, _⟩ := par_iv h1
    exact indexTexts_spec A1 c1 ks A2 c2 L W hx1 (by omega) hs1 hx2 (by omega)
theorem indexTexts_holds : Rows.IndexTextsSaid :=
  OpenClaim.holds_of_wide 3 Try.f3 rfl rfl rfl rfl rfl rfl rfl ⟨rfl, rfl, rfl, rfl, rfl⟩ rfl rfl rfl rfl rfl (by kernel_rfl) Try.func3 (by kernel_rfl)
    (of_decide_eq_true (by kernel_rfl)) (by unfold Func.isWrapper; first | (rw [if_pos (by decide +kernel)]; kernel_rfl) | (rw [if_neg (by decide +kernel)]; exact ⟨rfl, rfl⟩))
    (fun os started H enc _ => indexTexts_lifted os started H enc)
#print axioms indexTexts_holds
end Go.Proofs.Ytmppbpajncpjnaa
