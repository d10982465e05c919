/- The law EventKeys returns true whatever comes in, and leaves what came in as it was: the given statement EventKeysSaid. It has no conditions. -/
import Derived.Test.YthomfpfjcniknaaE9
import Derived.Test.YthomfpfjcniknaaH0
namespace Go.Proofs.Ythomfpfjcniknaa
open Go.RowKit Go.WideShapes Go.ChangeShapes

set_option maxRecDepth 100000 in
theorem eventKeys_lifted (os : Os) (started : os.Started) (H : Type) (enc : TypeId × Value → H) :
    ReturnsInHanded {} Try.checked os 14 .any (Rows.eventKeysSpec.pre6 enc Try.prog Try.f14 Rows.eventKeysRow.domain false)
      (Rows.eventKeysSpec.post enc Try.prog Try.f14 false true false false) := by
  refine lifted_true (C := Try.checked) (tb := 4) Try.own started (by kernel_rfl) Try.func14
    (ChangeSpec.witness6 (enc := enc) (C := Try.checked) false ⟨#[], #[.slice none 0 0], []⟩ 8 (by kernel_rfl) (by kernel_rfl) (by kernel_rfl) (by kernel_rfl))
    rfl (fun ds hd => ?_) Try.laidOut (by kernel_rfl) (by kernel_rfl) Try.underlying4 (fun W args h => ?_)
  · have : ds.length = 1 := hd.trans (by kernel_rfl)
    match ds, this with
    | [_], _ => rfl
  · have h' : Pars enc Try.prog W Try.f14.params.toList args := h
    rw [Try.params14] at h'
    clear h
    obtain ⟨v0, _, rfl, h0, h'⟩ := pars_cons h'
    obtain rfl := pars_nil h'
    obtain ⟨A1, c1, L, rfl, hd, hdn⟩ := par_iv h0
    exact eventKeys_spec A1 _ c1 L W hd (by omega)
theorem eventKeys_holds : Rows.EventKeysSaid :=
  OpenClaim.holds_of_wide 14 Try.f14 rfl rfl rfl rfl rfl rfl rfl ⟨rfl, rfl, rfl, rfl, rfl⟩ rfl rfl rfl rfl rfl (by kernel_rfl) Try.func14 (by kernel_rfl)
    (of_decide_eq_true (by kernel_rfl)) (by unfold Func.isWrapper; first | (rw [if_pos (by decide +kernel)]; kernel_rfl) | (rw [if_neg (by decide +kernel)]; exact ⟨rfl, rfl⟩))
    (fun os started H enc _ => eventKeys_lifted os started H enc)
#print axioms eventKeys_holds
end Go.Proofs.Ythomfpfjcniknaa
