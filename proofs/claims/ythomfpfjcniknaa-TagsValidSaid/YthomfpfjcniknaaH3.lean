/- The law TagsValid returns true whatever comes in, and leaves what came in as it was: the given statement TagsValidSaid. It has no conditions. -/
import Derived.Test.YthomfpfjcniknaaE3
import Derived.Test.YthomfpfjcniknaaH0
namespace Go.Proofs.Ythomfpfjcniknaa
open Go.RowKit Go.WideShapes Go.ChangeShapes

set_option maxRecDepth 100000 in
theorem tagsValid_lifted (os : Os) (started : os.Started) (H : Type) (enc : TypeId × Value → H) :
    ReturnsInHanded {} Try.checked os 7 .any (Rows.tagsValidSpec.pre6 enc Try.prog Try.f7 Rows.tagsValidRow.domain false)
      (Rows.tagsValidSpec.post enc Try.prog Try.f7 false true false false) := by
  refine lifted_true (C := Try.checked) (tb := 4) Try.own started (by kernel_rfl) Try.func7
    (ChangeSpec.witness6 (enc := enc) (C := Try.checked) false ⟨#[], #[.string ByteArray.empty, .string ByteArray.empty, .int .u8 0], []⟩ 8 (by kernel_rfl) (by kernel_rfl) (by kernel_rfl) (by kernel_rfl))
    rfl (fun ds hd => ?_) Try.laidOut (by kernel_rfl) (by kernel_rfl) Try.underlying4 (fun W args h => ?_)
  · have : ds.length = 3 := hd.trans (by kernel_rfl)
    match ds, this with
    | [_, _, _], _ => rfl
  · have h' : Pars enc Try.prog W Try.f7.params.toList args := h
    rw [Try.params7] at h'
    clear h
    obtain ⟨v0, _, rfl, h0, h'⟩ := pars_cons h'
    obtain ⟨v1, _, rfl, h1, h'⟩ := pars_cons h'
    obtain ⟨v2, _, rfl, h2, h'⟩ := pars_cons h'
    obtain rfl := pars_nil h'
    obtain ⟨nm, rfl, hn⟩ := par_string Try.underlying9 h0
    obtain ⟨vl, rfl, hv⟩ := par_string Try.underlying9 h1
    obtain ⟨z, rfl, hz⟩ := par_int Try.underlying5 h2
    obtain ⟨k, rfl, hk⟩ := u8_wf hz
    exact tagsValid_spec nm vl k W (by omega) (by omega) hk
theorem tagsValid_holds : Rows.TagsValidSaid :=
  OpenClaim.holds_of_wide 7 Try.f7 rfl rfl rfl rfl rfl rfl rfl ⟨rfl, rfl, rfl, rfl, rfl⟩ rfl rfl rfl rfl rfl (by kernel_rfl) Try.func7 (by kernel_rfl)
    (of_decide_eq_true (by kernel_rfl)) (by unfold Func.isWrapper; first | (rw [if_pos (by decide +kernel)]; kernel_rfl) | (rw [if_neg (by decide +kernel)]; exact ⟨rfl, rfl⟩))
    (fun os started H enc _ => tagsValid_lifted os started H enc)
#print axioms tagsValid_holds
end Go.Proofs.Ythomfpfjcniknaa
