/- The law RanksSorted returns true whatever comes in, and leaves what came in as it was: the given statement RanksSortedSaid. It has no conditions. -/
import Derived.Test.YtkabdnijhjccoaaRS1
import Derived.Test.YtkabdnijhjccoaaHB0
namespace Go.Proofs.Ytkabdnijhjccoaa
open Go.RowKit Go.WideShapes Go.ChangeShapes

set_option maxRecDepth 100000 in
theorem ranksSorted_lifted (os : Os) (started : os.Started) (H : Type) (enc : TypeId × Value → H) :
    ReturnsInHanded {} Try.checked os 8 .any (Rows.ranksSortedSpec.pre6 enc Try.prog Try.f8 Rows.ranksSortedRow.domain false)
      (Rows.ranksSortedSpec.post enc Try.prog Try.f8 false true false false) := by
  refine lifted_true (C := Try.checked) (tb := 4) Try.own started (by kernel_rfl) Try.func8
    (ChangeSpec.witness6 (enc := enc) (C := Try.checked) false ⟨#[], #[.int .u8 0, .slice none 0 0], []⟩ 8 (by kernel_rfl) (by kernel_rfl) (by kernel_rfl) (by kernel_rfl))
    rfl (fun ds hd => ?_) Try.laidOut (by kernel_rfl) (by kernel_rfl) Try.underlying4 (fun W args h => ?_)
  · have : ds.length = 2 := hd.trans (by kernel_rfl)
    match ds, this with
    | [_, _], _ => rfl
  · have h' : Pars enc Try.prog W Try.f8.params.toList args := h
    rw [Try.params8] at h'
    clear h
    obtain ⟨v0, _, rfl, h0, h'⟩ := pars_cons h'
    obtain ⟨v1, _, rfl, h1, h'⟩ := pars_cons h'
    obtain rfl := pars_nil h'
    obtain ⟨n, rfl, hn⟩ := par_int Try.underlying5 h0
    obtain ⟨z, rfl, hz⟩ := u8_wf hn
    obtain ⟨A, c, L, rfl, hx, hxn, _⟩ := par_iv h1
    exact ranksSorted_spec z A c L W hz hx (by omega)
theorem ranksSorted_holds : Rows.RanksSortedSaid :=
  OpenClaim.holds_of_wide 8 Try.f8 rfl rfl rfl rfl rfl rfl rfl ⟨rfl, rfl, rfl, rfl, rfl⟩ rfl rfl rfl rfl rfl (by kernel_rfl) Try.func8 (by kernel_rfl)
    (of_decide_eq_true (by kernel_rfl)) (by unfold Func.isWrapper; first | (rw [if_pos (by decide +kernel)]; kernel_rfl) | (rw [if_neg (by decide +kernel)]; exact ⟨rfl, rfl⟩))
    (fun os started H enc _ => ranksSorted_lifted os started H enc)
#print axioms ranksSorted_holds
end Go.Proofs.Ytkabdnijhjccoaa
