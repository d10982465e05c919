/- The law FrameBody returns true whatever comes in, and leaves what came in as it was: the given statement FrameBodySaid. It has no conditions. -/
import Derived.Test.YthbjjfpikfmmnaaF12
import Derived.Test.YthbjjfpikfmmnaaH0
namespace Go.Proofs.Ythbjjfpikfmmnaa
open Go.RowKit Go.WideShapes Go.ChangeShapes

set_option maxRecDepth 100000 in
theorem frameBody_lifted (os : Os) (started : os.Started) (H : Type) (enc : TypeId × Value → H) :
    ReturnsInHanded {} Try.checked os 6 .any (Rows.frameBodySpec.pre6 enc Try.prog Try.f6 Rows.frameBodyRow.domain false)
      (Rows.frameBodySpec.post enc Try.prog Try.f6 false true false false) := by
  refine lifted_true (C := Try.checked) (tb := 4) Try.own started (by kernel_rfl) Try.func6
    (ChangeSpec.witness6 (enc := enc) (C := Try.checked) false ⟨#[], #[.slice none 0 0, .int .u8 0, .bool false], []⟩ 8 (by kernel_rfl) (by kernel_rfl) (by kernel_rfl) (by kernel_rfl))
    rfl (fun ds hd => ?_) Try.laidOut (by kernel_rfl) (by kernel_rfl) Try.underlying4 (fun W args h => ?_)
  · have : ds.length = 3 := hd.trans (by kernel_rfl)
    match ds, this with
    | [_, _, _], _ => rfl
  · have h' : Pars enc Try.prog W Try.f6.params.toList args := h
    rw [Try.params6] at h'
    clear h
    obtain ⟨v0, _, rfl, h0, h'⟩ := pars_cons h'
    obtain ⟨v1, _, rfl, h1, h'⟩ := pars_cons h'
    obtain ⟨v2, _, rfl, h2, h'⟩ := pars_cons h'
    obtain rfl := pars_nil h'
    obtain ⟨A, c, L, rfl, hd, hdn⟩ := par_iv h0
    obtain ⟨z, rfl, hz⟩ := par_int Try.underlying5 h1
    obtain ⟨k, rfl, hk⟩ := u8_wf hz
    obtain ⟨lg, rfl⟩ := par_bool Try.underlying4 h2
    exact frameBody_spec A c L k lg W hd (by omega) hk
theorem frameBody_holds : Rows.FrameBodySaid :=
  OpenClaim.holds_of_wide 6 Try.f6 rfl rfl rfl rfl rfl rfl rfl ⟨rfl, rfl, rfl, rfl, rfl⟩ rfl rfl rfl rfl rfl (by kernel_rfl) Try.func6 (by kernel_rfl)
    (of_decide_eq_true (by kernel_rfl)) (by unfold Func.isWrapper; first | (rw [if_pos (by decide +kernel)]; kernel_rfl) | (rw [if_neg (by decide +kernel)]; exact ⟨rfl, rfl⟩))
    (fun os started H enc _ => frameBody_lifted os started H enc)
#print axioms frameBody_holds
end Go.Proofs.Ythbjjfpikfmmnaa
