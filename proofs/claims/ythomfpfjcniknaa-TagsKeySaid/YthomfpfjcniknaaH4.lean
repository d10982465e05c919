/- The law TagsKey returns true whatever comes in, and leaves what came in as it was: the given statement TagsKeySaid. It has no conditions. -/
import Derived.Test.YthomfpfjcniknaaE4
import Derived.Test.YthomfpfjcniknaaH0
namespace Go.Proofs.Ythomfpfjcniknaa
open Go.RowKit Go.WideShapes Go.ChangeShapes

set_option maxRecDepth 100000 in
theorem tagsKey_lifted (os : Os) (started : os.Started) (H : Type) (enc : TypeId × Value → H) :
    ReturnsInHanded {} Try.checked os 8 .any (Rows.tagsKeySpec.pre6 enc Try.prog Try.f8 Rows.tagsKeyRow.domain false)
      (Rows.tagsKeySpec.post enc Try.prog Try.f8 false true false false) := by
  refine lifted_true (C := Try.checked) (tb := 4) Try.own started (by kernel_rfl) Try.func8
    (ChangeSpec.witness6 (enc := enc) (C := Try.checked) false ⟨#[], #[.slice none 0 0, .slice none 0 0, .int .i64 0, .string ByteArray.empty, .string ByteArray.empty], []⟩ 8 (by kernel_rfl) (by kernel_rfl) (by kernel_rfl) (by kernel_rfl))
    rfl (fun ds hd => ?_) Try.laidOut (by kernel_rfl) (by kernel_rfl) Try.underlying4 (fun W args h => ?_)
  · have : ds.length = 5 := hd.trans (by kernel_rfl)
    match ds, this with
    | [_, _, _, _, _], _ => rfl
  · have h' : Pars enc Try.prog W Try.f8.params.toList args := h
    rw [Try.params8] at h'
    clear h
    obtain ⟨v0, _, rfl, h0, h'⟩ := pars_cons h'
    obtain ⟨v1, _, rfl, h1, h'⟩ := pars_cons h'
    obtain ⟨v2, _, rfl, h2, h'⟩ := pars_cons h'
    obtain ⟨v3, _, rfl, h3, h'⟩ := pars_cons h'
    obtain ⟨v4, _, rfl, h4, h'⟩ := pars_cons h'
    obtain rfl := pars_nil h'
    obtain ⟨A, c, l, rfl, hx, hxn, _⟩ := par_tags h0
    obtain ⟨A1, c1, L, rfl, hd, hdn⟩ := par_iv h1
    obtain ⟨z, rfl, _⟩ := par_int Try.underlying3 h2
    obtain ⟨nm, rfl, hn⟩ := par_string Try.underlying9 h3
    obtain ⟨vl, rfl, hv⟩ := par_string Try.underlying9 h4
    exact tagsKey_spec A c l A1 c1 L z nm vl W hx (by omega) hd (by omega) (by omega) (by omega)
theorem tagsKey_holds : Rows.TagsKeySaid :=
  OpenClaim.holds_of_wide 8 Try.f8 rfl rfl rfl rfl rfl rfl rfl ⟨rfl, rfl, rfl, rfl, rfl⟩ rfl rfl rfl rfl rfl (by kernel_rfl) Try.func8 (by kernel_rfl)
    (of_decide_eq_true (by kernel_rfl)) (by unfold Func.isWrapper; first | (rw [if_pos (by decide +kernel)]; kernel_rfl) | (rw [if_neg (by decide +kernel)]; exact ⟨rfl, rfl⟩))
    (fun os started H enc _ => tagsKey_lifted os started H enc)
#print axioms tagsKey_holds
end Go.Proofs.Ythomfpfjcniknaa
