/- The row of EventEncode. -/
import Derived.Test.YthomfpfjcniknaaE1
import Derived.Test.YthomfpfjcniknaaH0
namespace Go.Proofs.Ythomfpfjcniknaa
open Go.RowKit Go.WideShapes Go.ChangeShapes

theorem eventEncode_lifted (os : Os) (started : os.Started) (H : Type) (enc : TypeId × Value → H) :
    ReturnsInHanded {} Try.checked os 3 .any (Rows.eventEncodeSpec.pre6 enc Try.prog Try.f3 Rows.eventEncodeRow.domain false)
      (Rows.eventEncodeSpec.post enc Try.prog Try.f3 false true false false) := by
  refine lifted_true (C := Try.checked) (tb := 4) Try.own started (by kernel_rfl) Try.func3
    (ChangeSpec.witness6 (enc := enc) (C := Try.checked) false ⟨#[], #[.agg #[.slice none 0 0, .int .i64 0, .int .u64 0], .slice none 0 0, .int .i64 0, .int .u16 0], []⟩ 8 (by kernel_rfl) (by kernel_rfl) (by kernel_rfl) (by kernel_rfl))
    rfl (fun ds hd => ?_) Try.laidOut (by kernel_rfl) (by kernel_rfl) Try.underlying4 (fun W args h => ?_)
  · have : ds.length = 4 := hd.trans (by kernel_rfl)
    match ds, this with
    | [_, _, _, _], _ => rfl
  · have h' : Pars enc Try.prog W Try.f3.params.toList args := h
    rw [Try.params3] at h'
    obtain ⟨v0, _, rfl, h0, h'⟩ := pars_cons h'
    obtain ⟨v1, _, rfl, h1, h'⟩ := pars_cons h'
    obtain ⟨v2, _, rfl, h2, h'⟩ := pars_cons h'
    obtain ⟨v3, _, rfl, h3, h'⟩ := pars_cons h'
    obtain rfl := pars_nil h'
    obtain ⟨A, c, l, t, wt, rfl, hx, hxn, _, ht, hwt⟩ := par_event h0
    obtain ⟨A1, c1, L, rfl, hd, hdn⟩ := par_iv h1
    obtain ⟨time, rfl, ht2⟩ := par_int Try.underlying3 h2
    obtain ⟨z, rfl, ht3⟩ := par_int Try.underlying27 h3
    obtain ⟨k, rfl, hk⟩ := u16_wf ht3
    exact eventEncode_spec _ l t wt A1 _ c1 L time k W hx (by omega) ht hwt hd (by omega) (i64_wf ht2) hk

theorem eventEncode_holds : Rows.EventEncodeSaid :=
  OpenClaim.holds_of_wide 3 Try.f3 rfl rfl rfl rfl rfl rfl rfl ⟨rfl, rfl, rfl, rfl, rfl⟩ rfl rfl rfl rfl rfl (by kernel_rfl) Try.func3 (by kernel_rfl)
    (of_decide_eq_true (by kernel_rfl)) (by unfold Func.isWrapper; first | (rw [if_pos (by decide +kernel)]; kernel_rfl) | (rw [if_neg (by decide +kernel)]; exact ⟨rfl, rfl⟩))
    (fun os started H enc _ => eventEncode_lifted os started H enc)
#print axioms eventEncode_holds
end Go.Proofs.Ythomfpfjcniknaa
