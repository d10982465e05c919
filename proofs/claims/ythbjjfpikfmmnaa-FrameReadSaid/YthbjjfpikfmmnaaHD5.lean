/- The law FrameRead returns true whatever comes in, and leaves what came in as it was: the given statement FrameReadSaid. It has no conditions. -/
import Derived.Test.YthbjjfpikfmmnaaF13
import Derived.Test.YthbjjfpikfmmnaaH0
namespace Go.Proofs.Ythbjjfpikfmmnaa
open Go.RowKit Go.WideShapes Go.ChangeShapes

set_option maxRecDepth 100000 in
theorem frameRead_lifted (os : Os) (started : os.Started) (H : Type) (enc : TypeId × Value → H) :
    ReturnsInHanded {} Try.checked os 3 .any (Rows.frameReadSpec.pre6 enc Try.prog Try.f3 Rows.frameReadRow.domain false)
      (Rows.frameReadSpec.post enc Try.prog Try.f3 false true false false) := by
  refine lifted_true (C := Try.checked) (tb := 4) Try.own started (by kernel_rfl) Try.func3
    (ChangeSpec.witness6 (enc := enc) (C := Try.checked) false ⟨#[], #[.slice none 0 0, .slice none 0 0, .int .i64 0, .int .u8 0, .int .i64 0], []⟩ 8 (by kernel_rfl) (by kernel_rfl) (by kernel_rfl) (by kernel_rfl))
    rfl (fun ds hd => ?_) Try.laidOut (by kernel_rfl) (by kernel_rfl) Try.underlying4 (fun W args h => ?_)
  · have : ds.length = 5 := hd.trans (by kernel_rfl)
    match ds, this with
    | [_, _, _, _, _], _ => rfl
  · have h' : Pars enc Try.prog W Try.f3.params.toList args := h
    rw [Try.params3] at h'
    clear h
    obtain ⟨v0, _, rfl, h0, h'⟩ := pars_cons h'
    obtain ⟨v1, _, rfl, h1, h'⟩ := pars_cons h'
    obtain ⟨v2, _, rfl, h2, h'⟩ := pars_cons h'
    obtain ⟨v3, _, rfl, h3, h'⟩ := pars_cons h'
    obtain ⟨v4, _, rfl, h4, h'⟩ := pars_cons h'
    obtain rfl := pars_nil h'
    obtain ⟨A, c, raw, rfl, hx, hxn, hxb⟩ := par_bv h0
    obtain ⟨A1, c1, L, rfl, hd, hdn⟩ := par_iv h1
    obtain ⟨at_, rfl, ht2⟩ := par_int Try.underlying3 h2
    obtain ⟨z, rfl, ht3⟩ := par_int Try.underlying5 h3
    obtain ⟨k, rfl, hk⟩ := u8_wf ht3
    obtain ⟨most, rfl, ht4⟩ := par_int Try.underlying3 h4
    exact frameRead_spec A c raw A1 c1 L at_ k most W hx (by omega) hxb hd (by omega) hk
theorem frameRead_holds : Rows.FrameReadSaid :=
  OpenClaim.holds_of_wide 3 Try.f3 rfl rfl rfl rfl rfl rfl rfl ⟨rfl, rfl, rfl, rfl, rfl⟩ rfl rfl rfl rfl rfl (by kernel_rfl) Try.func3 (by kernel_rfl)
    (of_decide_eq_true (by kernel_rfl)) (by unfold Func.isWrapper; first | (rw [if_pos (by decide +kernel)]; kernel_rfl) | (rw [if_neg (by decide +kernel)]; exact ⟨rfl, rfl⟩))
    (fun os started H enc _ => frameRead_lifted os started H enc)
#print axioms frameRead_holds
end Go.Proofs.Ythbjjfpikfmmnaa
