/- The law TableBounds returns true whatever comes in, and leaves what came in as it was: the given statement TableBoundsSaid. It has no conditions. -/
import Derived.Test.YtmagdjlcckgkpaaGreatWBx
import Derived.Test.YtmagdjlcckgkpaaGreatMB11
namespace Go.Proofs.YtmagdjlcckgkpaaGreat
open Go.RowKit Go.WideShapes Go.ChangeShapes

set_option maxRecDepth 100000 in
theorem tableBounds_lifted (os : Os) (started : os.Started) (H : Type) (enc : TypeId × Value → H) :
    ReturnsInHanded {} Tryz.checked os 3 .any (Rows.tableBoundsSpec.pre6 enc Tryz.prog Tryz.f3 Rows.tableBoundsRow.domain false)
      (Rows.tableBoundsSpec.post enc Tryz.prog Tryz.f3 false true false false) := by
  refine lifted_true (C := Tryz.checked) (tb := 4) Tryz.own started (by kernel_rfl) Tryz.func3
    (ChangeSpec.witness6 (enc := enc) (C := Tryz.checked) false ⟨#[], #[.bool false, .int .u8 0, .slice none 0 0, .slice none 0 0], []⟩ 8 (by kernel_rfl) (by kernel_rfl) (by kernel_rfl) (by kernel_rfl))
    rfl (fun ds hd => ?_) Tryz.laidOut (by kernel_rfl) (by kernel_rfl) Tryz.underlying4 (fun W args h => ?_)
  · have : ds.length = 4 := hd.trans (by kernel_rfl)
    match ds, this with
    | [_, _, _, _], _ => rfl
  · have h' : Pars enc Tryz.prog W Tryz.f3.params.toList args := h
    rw [Tryz.params3] at h'
    clear h
    obtain ⟨v0, _, rfl, h0, h'⟩ := pars_cons h'
    obtain ⟨v1, _, rfl, h1, h'⟩ := pars_cons h'
    obtain ⟨v2, _, rfl, h2, h'⟩ := pars_cons h'
    obtain ⟨v3, _, rfl, h3, h'⟩ := pars_cons h'
    obtain rfl := pars_nil h'
    obtain ⟨sv, rfl⟩ := par_bool Tryz.underlying4 h0
    obtain ⟨n, rfl, hn⟩ := par_int Tryz.underlying5 h1
    obtain ⟨z, rfl, hz⟩ := u8_wf hn
    obtain ⟨A1, c1, L1, rfl, hx1, hn1, _⟩ := par_iv h2
    obtain ⟨A2, c2, L2, rfl, hx2, hn2, _, hL⟩ := par_ints (bytes := 2) Tryz.underlying23 Tryz.underlying34 (by kernel_rfl) (by kernel_rfl) h3
    exact tableBounds_spec sv z A1 c1 L1 A2 c2 L2 W hz hx1 (by omega) hx2 (by omega) (fun x hx => by obtain ⟨y, rfl, hy⟩ := u16_wf (hL x hx); omega)
theorem tableBounds_holds : Rows.TableBoundsSaid :=
  OpenClaim.holds_of_wide 3 Tryz.f3 rfl rfl rfl rfl rfl rfl rfl ⟨rfl, rfl, rfl, rfl, rfl⟩ rfl rfl rfl rfl rfl (by kernel_rfl) Tryz.func3 (by kernel_rfl)
    (of_decide_eq_true (by kernel_rfl)) (by unfold Func.isWrapper; first | (rw [if_pos (by decide +kernel)]; kernel_rfl) | (rw [if_neg (by decide +kernel)]; exact ⟨rfl, rfl⟩))
    (fun os started H enc _ => tableBounds_lifted os started H enc)
#print axioms tableBounds_holds
end Go.Proofs.YtmagdjlcckgkpaaGreat
