/- The law EventBack returns true whatever comes in, and leaves what came in as it was: the given statement EventBackSaid. It has no conditions. -/
import Derived.Test.YthomfpfjcniknaaE11
import Derived.Test.YthomfpfjcniknaaH0
namespace Go.Proofs.Ythomfpfjcniknaa
open Go.RowKit Go.WideShapes Go.ChangeShapes

set_option maxRecDepth 100000 in
theorem eventBack_lifted (os : Os) (started : os.Started) (H : Type) (enc : TypeId × Value → H) :
    ReturnsInHanded {} Try.checked os 6 .any (Rows.eventBackSpec.pre6 enc Try.prog Try.f6 Rows.eventBackRow.domain false)
      (Rows.eventBackSpec.post enc Try.prog Try.f6 false true false false) := by
  refine lifted_true (C := Try.checked) (tb := 4) Try.own started (by kernel_rfl) Try.func6
    (ChangeSpec.witness6 (enc := enc) (C := Try.checked) false ⟨#[], #[.agg #[.slice none 0 0, .int .i64 0, .int .u64 0], .slice none 0 0, .slice none 0 0], []⟩ 8 (by kernel_rfl) (by kernel_rfl) (by kernel_rfl) (by kernel_rfl))
    rfl (fun ds hd => ?_) Try.laidOut (by kernel_rfl) (by kernel_rfl) Try.underlying4 (fun W args h => ?_)
  · have : ds.length = 3 := hd.trans (by kernel_rfl)
    match ds, this with
    | [_, _, _], _ => rfl
  · have h' : Pars enc Try.prog W Try.f6.params.toList args := h
    rw [Try.params6] at h'
    clear h
    obtain ⟨v0, _, rfl, h0, h'⟩ := pars_cons h'
    obtain ⟨v1, _, rfl, h1, h'⟩ := pars_cons h'
    obtain ⟨v2, _, rfl, h2, h'⟩ := pars_cons h'
    obtain rfl := pars_nil h'
    obtain ⟨A, c, l, t, wt, rfl, hx, hxn, _, ht, hwt⟩ := par_event h0
    obtain ⟨A1, c1, L, rfl, hd, hdn⟩ := par_iv h1
    obtain ⟨A2, c2, after, rfl, ha, han, hab⟩ := par_bv h2
    exact eventBack_spec _ l t wt A1 c1 L A2 c2 after W hx (by omega) ht hwt hd (by omega) ha han hab
theorem eventBack_holds : Rows.EventBackSaid :=
  OpenClaim.holds_of_wide 6 Try.f6 rfl rfl rfl rfl rfl rfl rfl ⟨rfl, rfl, rfl, rfl, rfl⟩ rfl rfl rfl rfl rfl (by kernel_rfl) Try.func6 (by kernel_rfl)
    (of_decide_eq_true (by kernel_rfl)) (by unfold Func.isWrapper; first | (rw [if_pos (by decide +kernel)]; kernel_rfl) | (rw [if_neg (by decide +kernel)]; exact ⟨rfl, rfl⟩))
    (fun os started H enc _ => eventBack_lifted os started H enc)
#print axioms eventBack_holds
end Go.Proofs.Ythomfpfjcniknaa
