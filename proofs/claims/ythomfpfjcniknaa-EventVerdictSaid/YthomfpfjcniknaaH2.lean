/- The law EventVerdict returns true whatever comes in, and leaves what came in as it was: the given statement EventVerdictSaid. It has no conditions. -/
import Derived.Test.YthomfpfjcniknaaE2
import Derived.Test.YthomfpfjcniknaaH0
namespace Go.Proofs.Ythomfpfjcniknaa
open Go.RowKit Go.WideShapes Go.ChangeShapes

set_option maxRecDepth 100000 in
theorem eventVerdict_lifted (os : Os) (started : os.Started) (H : Type) (enc : TypeId × Value → H) :
    ReturnsInHanded {} Try.checked os 4 .any (Rows.eventVerdictSpec.pre6 enc Try.prog Try.f4 Rows.eventVerdictRow.domain false)
      (Rows.eventVerdictSpec.post enc Try.prog Try.f4 false true false false) := by
  refine lifted_true (C := Try.checked) (tb := 4) Try.own started (by kernel_rfl) Try.func4
    (ChangeSpec.witness6 (enc := enc) (C := Try.checked) false ⟨#[], #[.int .i64 0], []⟩ 8 (by kernel_rfl) (by kernel_rfl) (by kernel_rfl) (by kernel_rfl))
    rfl (fun ds hd => ?_) Try.laidOut (by kernel_rfl) (by kernel_rfl) Try.underlying4 (fun W args h => ?_)
  · have : ds.length = 1 := hd.trans (by kernel_rfl)
    match ds, this with
    | [_], _ => rfl
  · have h' : Pars enc Try.prog W Try.f4.params.toList args := h
    rw [Try.params4] at h'
    clear h
    obtain ⟨v0, _, rfl, h0, h'⟩ := pars_cons h'
    obtain rfl := pars_nil h'
    obtain ⟨e, rfl, _⟩ := par_int Try.underlying3 h0
    exact eventVerdict_spec e W
theorem eventVerdict_holds : Rows.EventVerdictSaid :=
  OpenClaim.holds_of_wide 4 Try.f4 rfl rfl rfl rfl rfl rfl rfl ⟨rfl, rfl, rfl, rfl, rfl⟩ rfl rfl rfl rfl rfl (by kernel_rfl) Try.func4 (by kernel_rfl)
    (of_decide_eq_true (by kernel_rfl)) (by unfold Func.isWrapper; first | (rw [if_pos (by decide +kernel)]; kernel_rfl) | (rw [if_neg (by decide +kernel)]; exact ⟨rfl, rfl⟩))
    (fun os started H enc _ => eventVerdict_lifted os started H enc)
#print axioms eventVerdict_holds
end Go.Proofs.Ythomfpfjcniknaa
