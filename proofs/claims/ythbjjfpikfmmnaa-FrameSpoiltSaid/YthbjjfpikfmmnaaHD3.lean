/- The law FrameSpoilt returns true whatever comes in, and leaves what came in as it was: the given statement FrameSpoiltSaid. It has no conditions. -/
import Derived.Test.YthbjjfpikfmmnaaF11
import Derived.Test.YthbjjfpikfmmnaaH0
namespace Go.Proofs.Ythbjjfpikfmmnaa
open Go.RowKit Go.WideShapes Go.ChangeShapes

set_option maxRecDepth 100000 in
theorem frameSpoilt_lifted (os : Os) (started : os.Started) (H : Type) (enc : TypeId × Value → H) :
    ReturnsInHanded {} Try.checked os 5 .any (Rows.frameSpoiltSpec.pre6 enc Try.prog Try.f5 Rows.frameSpoiltRow.domain false)
      (Rows.frameSpoiltSpec.post enc Try.prog Try.f5 false true false false) := by
  refine lifted_true (C := Try.checked) (tb := 4) Try.own started (by kernel_rfl) Try.func5
    (ChangeSpec.witness6 (enc := enc) (C := Try.checked) false ⟨#[], #[.slice none 0 0, .int .u16 0], []⟩ 8 (by kernel_rfl) (by kernel_rfl) (by kernel_rfl) (by kernel_rfl))
    rfl (fun ds hd => ?_) Try.laidOut (by kernel_rfl) (by kernel_rfl) Try.underlying4 (fun W args h => ?_)
  · have : ds.length = 2 := hd.trans (by kernel_rfl)
    match ds, this with
    | [_, _], _ => rfl
  · have h' : Pars enc Try.prog W Try.f5.params.toList args := h
    rw [Try.params5] at h'
    clear h
    obtain ⟨v0, _, rfl, h0, h'⟩ := pars_cons h'
    obtain ⟨v1, _, rfl, h1, h'⟩ := pars_cons h'
    obtain rfl := pars_nil h'
    obtain ⟨A, c, L, rfl, hd, hdn⟩ := par_iv h0
    obtain ⟨z, rfl, hz⟩ := par_int Try.underlying49 h1
    obtain ⟨k, rfl, hk⟩ := u16_wf hz
    exact frameSpoilt_spec A c L k W hd (by omega) hk
theorem frameSpoilt_holds : Rows.FrameSpoiltSaid :=
  OpenClaim.holds_of_wide 5 Try.f5 rfl rfl rfl rfl rfl rfl rfl ⟨rfl, rfl, rfl, rfl, rfl⟩ rfl rfl rfl rfl rfl (by kernel_rfl) Try.func5 (by kernel_rfl)
    (of_decide_eq_true (by kernel_rfl)) (by unfold Func.isWrapper; first | (rw [if_pos (by decide +kernel)]; kernel_rfl) | (rw [if_neg (by decide +kernel)]; exact ⟨rfl, rfl⟩))
    (fun os started H enc _ => frameSpoilt_lifted os started H enc)
#print axioms frameSpoilt_holds
end Go.Proofs.Ythbjjfpikfmmnaa
