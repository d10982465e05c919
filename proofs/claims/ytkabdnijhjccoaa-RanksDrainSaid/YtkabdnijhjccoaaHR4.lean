/- The law RanksDrain returns true whatever comes in, and leaves what came in as it was: the given statement RanksDrainSaid. It has no conditions. -/
import Derived.Test.YtkabdnijhjccoaaRD1
import Derived.Test.YtkabdnijhjccoaaHB0
namespace Go.Proofs.Ytkabdnijhjccoaa
open Go.RowKit Go.WideShapes Go.ChangeShapes

set_option maxRecDepth 100000 in
theorem ranksDrain_lifted (os : Os) (started : os.Started) (H : Type) (enc : TypeId × Value → H) :
    ReturnsInHanded {} Try.checked os 9 .any (Rows.ranksDrainSpec.pre6 enc Try.prog Try.f9 Rows.ranksDrainRow.domain false)
      (Rows.ranksDrainSpec.post enc Try.prog Try.f9 false true false false) := by
  refine lifted_true (C := Try.checked) (tb := 4) Try.own started (by kernel_rfl) Try.func9
    (ChangeSpec.witness6 (enc := enc) (C := Try.checked) false ⟨#[], #[.slice none 0 0], []⟩ 8 (by kernel_rfl) (by kernel_rfl) (by kernel_rfl) (by kernel_rfl))
    rfl (fun ds hd => ?_) Try.laidOut (by kernel_rfl) (by kernel_rfl) Try.underlying4 (fun W args h => ?_)
  · have : ds.length = 1 := hd.trans (by kernel_rfl)
    match ds, this with
    | [_], _ => rfl
  · have h' : Pars enc Try.prog W Try.f9.params.toList args := h
    rw [Try.params9] at h'
    clear h
    obtain ⟨v0, _, rfl, h0, h'⟩ := pars_cons h'
    obtain rfl := pars_nil h'
    obtain ⟨A, ca, L, rfl, hx, hxn, _, hL⟩ := par_ints (bytes := 2) Try.underlying69 Try.underlying58 (by kernel_rfl) (by kernel_rfl) h0
    exact ranksDrain_spec A ca L W hx (by omega) (fun z hz => by obtain ⟨y, rfl, hy⟩ := u16_wf (hL z hz); omega)
theorem ranksDrain_holds : Rows.RanksDrainSaid :=
  OpenClaim.holds_of_wide 9 Try.f9 rfl rfl rfl rfl rfl rfl rfl ⟨rfl, rfl, rfl, rfl, rfl⟩ rfl rfl rfl rfl rfl (by kernel_rfl) Try.func9 (by kernel_rfl)
    (of_decide_eq_true (by kernel_rfl)) (by unfold Func.isWrapper; first | (rw [if_pos (by decide +kernel)]; kernel_rfl) | (rw [if_neg (by decide +kernel)]; exact ⟨rfl, rfl⟩))
    (fun os started H enc _ => ranksDrain_lifted os started H enc)
#print axioms ranksDrain_holds
end Go.Proofs.Ytkabdnijhjccoaa
