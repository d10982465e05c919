/- The law RanksSteps returns true whatever comes in, and leaves what came in as it was: the given statement RanksStepsSaid. It has no conditions. -/
import Derived.Test.YtkabdnijhjccoaaRT1
import Derived.Test.YtkabdnijhjccoaaHB0
namespace Go.Proofs.Ytkabdnijhjccoaa
open Go.RowKit Go.WideShapes Go.ChangeShapes

set_option maxRecDepth 100000 in
theorem ranksSteps_lifted (os : Os) (started : os.Started) (H : Type) (enc : TypeId × Value → H) :
    ReturnsInHanded {} Try.checked os 11 .any (Rows.ranksStepsSpec.pre6 enc Try.prog Try.f11 Rows.ranksStepsRow.domain false)
      (Rows.ranksStepsSpec.post enc Try.prog Try.f11 false true false false) := by
  refine lifted_true (C := Try.checked) (tb := 4) Try.own started (by kernel_rfl) Try.func11
    (ChangeSpec.witness6 (enc := enc) (C := Try.checked) false ⟨#[], #[.int .u8 0, .slice none 0 0, .int .u64 0, .int .i64 0], []⟩ 8 (by kernel_rfl) (by kernel_rfl) (by kernel_rfl) (by kernel_rfl))
    rfl (fun ds hd => ?_) Try.laidOut (by kernel_rfl) (by kernel_rfl) Try.underlying4 (fun W args h => ?_)
  · have : ds.length = 4 := hd.trans (by kernel_rfl)
    match ds, this with
    | [_, _, _, _], _ => rfl
  · have h' : Pars enc Try.prog W Try.f11.params.toList args := h
    rw [Try.params11] at h'
    clear h
    obtain ⟨v0, _, rfl, h0, h'⟩ := pars_cons h'
    obtain ⟨v1, _, rfl, h1, h'⟩ := pars_cons h'
    obtain ⟨v2, _, rfl, h2, h'⟩ := pars_cons h'
    obtain ⟨v3, _, rfl, h3, h'⟩ := pars_cons h'
    obtain rfl := pars_nil h'
    obtain ⟨n, rfl, hn⟩ := par_int Try.underlying5 h0
    obtain ⟨z, rfl, hz⟩ := u8_wf hn
    obtain ⟨A, c, L, rfl, hx, hxn, _⟩ := par_iv h1
    obtain ⟨r0, rfl, hr0⟩ := par_int Try.underlying63 h2
    obtain ⟨raw, rfl, hraw⟩ := u64_wf hr0
    obtain ⟨any, rfl, _⟩ := par_int Try.underlying3 h3
    exact ranksSteps_spec z A c L raw any W hz hx (by omega) hraw
theorem ranksSteps_holds : Rows.RanksStepsSaid :=
  OpenClaim.holds_of_wide 11 Try.f11 rfl rfl rfl rfl rfl rfl rfl ⟨rfl, rfl, rfl, rfl, rfl⟩ rfl rfl rfl rfl rfl (by kernel_rfl) Try.func11 (by kernel_rfl)
    (of_decide_eq_true (by kernel_rfl)) (by unfold Func.isWrapper; first | (rw [if_pos (by decide +kernel)]; kernel_rfl) | (rw [if_neg (by decide +kernel)]; exact ⟨rfl, rfl⟩))
    (fun os started H enc _ => ranksSteps_lifted os started H enc)
#print axioms ranksSteps_holds
end Go.Proofs.Ytkabdnijhjccoaa
