/- The law FrameEach returns true whatever comes in, and leaves what came in as it was: the given statement FrameEachSaid. It has no conditions. -/
import Derived.Test.YthbjjfpikfmmnaaF9
import Derived.Test.YthbjjfpikfmmnaaH0
namespace Go.Proofs.Ythbjjfpikfmmnaa
open Go.RowKit Go.WideShapes Go.ChangeShapes

set_option maxRecDepth 100000 in
theorem frameEach_lifted (os : Os) (started : os.Started) (H : Type) (enc : TypeId × Value → H) :
    ReturnsInHanded {} Try.checked os 4 .any (Rows.frameEachSpec.pre6 enc Try.prog Try.f4 Rows.frameEachRow.domain false)
      (Rows.frameEachSpec.post enc Try.prog Try.f4 false true false false) := by
  refine lifted_true (C := Try.checked) (tb := 4) Try.own started (by kernel_rfl) Try.func4
    (ChangeSpec.witness6 (enc := enc) (C := Try.checked) false ⟨#[], #[.slice none 0 0], []⟩ 8 (by kernel_rfl) (by kernel_rfl) (by kernel_rfl) (by kernel_rfl))
    rfl (fun ds hd => ?_) Try.laidOut (by kernel_rfl) (by kernel_rfl) Try.underlying4 (fun W args h => ?_)
  · have : ds.length = 1 := hd.trans (by kernel_rfl)
    match ds, this with
    | [_], _ => rfl
  · have h' : Pars enc Try.prog W Try.f4.params.toList args := h
    rw [Try.params4] at h'
    clear h
    obtain ⟨v0, _, rfl, h0, h'⟩ := pars_cons h'
    obtain rfl := pars_nil h'
    obtain ⟨A, c, L, rfl, hd, hdn⟩ := par_iv h0
    exact frameEach_spec A c L W hd (by omega)
theorem frameEach_holds : Rows.FrameEachSaid :=
  OpenClaim.holds_of_wide 4 Try.f4 rfl rfl rfl rfl rfl rfl rfl ⟨rfl, rfl, rfl, rfl, rfl⟩ rfl rfl rfl rfl rfl (by kernel_rfl) Try.func4 (by kernel_rfl)
    (of_decide_eq_true (by kernel_rfl)) (by unfold Func.isWrapper; first | (rw [if_pos (by decide +kernel)]; kernel_rfl) | (rw [if_neg (by decide +kernel)]; exact ⟨rfl, rfl⟩))
    (fun os started H enc _ => frameEach_lifted os started H enc)
#print axioms frameEach_holds
end Go.Proofs.Ythbjjfpikfmmnaa
