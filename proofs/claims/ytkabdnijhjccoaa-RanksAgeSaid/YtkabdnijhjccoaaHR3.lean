/- The law RanksAge returns true whatever comes in, and leaves what came in as it was: the given statement RanksAgeSaid. It has no conditions. -/
import Derived.Test.YtkabdnijhjccoaaRA1
import Derived.Test.YtkabdnijhjccoaaHB0
namespace Go.Proofs.Ytkabdnijhjccoaa
open Go.RowKit Go.WideShapes Go.ChangeShapes

set_option maxRecDepth 100000 in
theorem ranksAge_lifted (os : Os) (started : os.Started) (H : Type) (enc : TypeId × Value → H) :
    ReturnsInHanded {} Try.checked os 7 .any (Rows.ranksAgeSpec.pre6 enc Try.prog Try.f7 Rows.ranksAgeRow.domain false)
      (Rows.ranksAgeSpec.post enc Try.prog Try.f7 false true false false) := by
  refine lifted_true (C := Try.checked) (tb := 4) Try.own started (by kernel_rfl) Try.func7
    (ChangeSpec.witness6 (enc := enc) (C := Try.checked) false ⟨#[], #[.slice none 0 0, .int .u32 0, .int .u16 0], []⟩ 8 (by kernel_rfl) (by kernel_rfl) (by kernel_rfl) (by kernel_rfl))
    rfl (fun ds hd => ?_) Try.laidOut (by kernel_rfl) (by kernel_rfl) Try.underlying4 (fun W args h => ?_)
  · have : ds.length = 3 := hd.trans (by kernel_rfl)
    match ds, this with
    | [_, _, _], _ => rfl
  · have h' : Pars enc Try.prog W Try.f7.params.toList args := h
    rw [Try.params7] at h'
    clear h
    obtain ⟨v0, _, rfl, h0, h'⟩ := pars_cons h'
    obtain ⟨v1, _, rfl, h1, h'⟩ := pars_cons h'
    obtain ⟨v2, _, rfl, h2, h'⟩ := pars_cons h'
    obtain rfl := pars_nil h'
    obtain ⟨A, ca, L, rfl, hx, hxn, _, hL⟩ := par_ints (bytes := 1) Try.underlying56 Try.underlying5 (by kernel_rfl) (by kernel_rfl) h0
    obtain ⟨c0, rfl, hc0⟩ := par_int Try.underlying57 h1
    obtain ⟨c, rfl, hc⟩ := u32_wf hc0
    obtain ⟨k0, rfl, hk0⟩ := par_int Try.underlying58 h2
    obtain ⟨k, rfl, hk⟩ := u16_wf hk0
    exact ranksAge_spec A ca L c k W hx (by omega) (fun z hz => by obtain ⟨y, rfl, hy⟩ := u8_wf (hL z hz); omega) hc hk
theorem ranksAge_holds : Rows.RanksAgeSaid :=
  OpenClaim.holds_of_wide 7 Try.f7 rfl rfl rfl rfl rfl rfl rfl ⟨rfl, rfl, rfl, rfl, rfl⟩ rfl rfl rfl rfl rfl (by kernel_rfl) Try.func7 (by kernel_rfl)
    (of_decide_eq_true (by kernel_rfl)) (by unfold Func.isWrapper; first | (rw [if_pos (by decide +kernel)]; kernel_rfl) | (rw [if_neg (by decide +kernel)]; exact ⟨rfl, rfl⟩))
    (fun os started H enc _ => ranksAge_lifted os started H enc)
#print axioms ranksAge_holds
end Go.Proofs.Ytkabdnijhjccoaa
