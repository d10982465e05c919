/- The law IndexCollides returns true whatever comes in, and leaves what came in as it was: the given statement IndexCollidesSaid. It has no conditions. -/
import Derived.Test.YtmppbpajncpjnaaIC1
import Derived.Test.YtmppbpajncpjnaaHI0
namespace Go.Proofs.Ytmppbpajncpjnaa
open Go.RowKit Go.WideShapes Go.ChangeShapes

set_option maxRecDepth 100000 in
theorem indexCollides_lifted (os : Os) (started : os.Started) (H : Type) (enc : TypeId × Value → H) :
    ReturnsInHanded {} Try.checked os 4 .any (Rows.indexCollidesSpec.pre6 enc Try.prog Try.f4 Rows.indexCollidesRow.domain false)
      (Rows.indexCollidesSpec.post enc Try.prog Try.f4 false true false false) := by
  refine lifted_true (C := Try.checked) (tb := 4) Try.own started (by kernel_rfl) Try.func4
    (ChangeSpec.witness6 (enc := enc) (C := Try.checked) false ⟨#[], #[.slice none 0 0, .slice none 0 0], []⟩ 8 (by kernel_rfl) (by kernel_rfl) (by kernel_rfl) (by kernel_rfl))
    rfl (fun ds hd => ?_) Try.laidOut (by kernel_rfl) (by kernel_rfl) Try.underlying4 (fun W args h => ?_)
  · have : ds.length = 2 := hd.trans (by kernel_rfl)
    match ds, this with
    | [_, _], _ => rfl
  · have h' : Pars enc Try.prog W Try.f4.params.toList args := h
    rw [Try.params4] at h'
    clear h
    obtain ⟨v0, _, rfl, h0, h'⟩ := pars_cons h'
    obtain ⟨v1, _, rfl, h1, h'⟩ := pars_cons h'
    obtain rfl := pars_nil h'
    obtain ⟨A1, c1, L1, rfl, hx1, hn1, _⟩ := par_iv h0
    obtain ⟨A2, c2, L2, rfl, hx2, hn2, _⟩ := par_iv h1
    exact indexCollides_spec A1 c1 L1 A2 c2 L2 W hx1 (by omega) hx2 (by omega)
theorem indexCollides_holds : Rows.IndexCollidesSaid :=
  OpenClaim.holds_of_wide 4 Try.f4 rfl rfl rfl rfl rfl rfl rfl ⟨rfl, rfl, rfl, rfl, rfl⟩ rfl rfl rfl rfl rfl (by kernel_rfl) Try.func4 (by kernel_rfl)
    (of_decide_eq_true (by kernel_rfl)) (by unfold Func.isWrapper; first | (rw [if_pos (by decide +kernel)]; kernel_rfl) | (rw [if_neg (by decide +kernel)]; exact ⟨rfl, rfl⟩))
    (fun os started H enc _ => indexCollides_lifted os started H enc)
#print axioms indexCollides_holds
end Go.Proofs.Ytmppbpajncpjnaa
