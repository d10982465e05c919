/- The law TableNew returns true whatever comes in, and leaves what came in as it was: the given statement TableNewSaid. It has no conditions. -/
import Derived.Test.YtmagdjlcckgkpaaGreatWNx
import Derived.Test.YtmagdjlcckgkpaaGreatMB11
namespace Go.Proofs.YtmagdjlcckgkpaaGreat
open Go.RowKit Go.WideShapes Go.ChangeShapes

set_option maxRecDepth 100000 in
theorem tableNew_lifted (os : Os) (started : os.Started) (H : Type) (enc : TypeId × Value → H) :
    ReturnsInHanded {} Tryz.checked os 6 .any (Rows.tableNewSpec.pre6 enc Tryz.prog Tryz.f6 Rows.tableNewRow.domain false)
      (Rows.tableNewSpec.post enc Tryz.prog Tryz.f6 false true false false) := by
  refine lifted_true (C := Tryz.checked) (tb := 4) Tryz.own started (by kernel_rfl) Tryz.func6
    (ChangeSpec.witness6 (enc := enc) (C := Tryz.checked) false ⟨#[], #[.int .i64 0, .int .i64 0, .int .u64 0], []⟩ 8 (by kernel_rfl) (by kernel_rfl) (by kernel_rfl) (by kernel_rfl))
    rfl (fun ds hd => ?_) Tryz.laidOut (by kernel_rfl) (by kernel_rfl) Tryz.underlying4 (fun W args h => ?_)
  · have : ds.length = 3 := hd.trans (by kernel_rfl)
    match ds, this with
    | [_, _, _], _ => rfl
  · have h' : Pars enc Tryz.prog W Tryz.f6.params.toList args := h
    rw [Tryz.params6] at h'
    clear h
    obtain ⟨v0, _, rfl, h0, h'⟩ := pars_cons h'
    obtain ⟨v1, _, rfl, h1, h'⟩ := pars_cons h'
    obtain ⟨v2, _, rfl, h2, h'⟩ := pars_cons h'
    obtain rfl := pars_nil h'
    obtain ⟨mode, rfl, _⟩ := par_int Tryz.underlying3 h0
    obtain ⟨n, rfl, _⟩ := par_int Tryz.underlying3 h1
    obtain ⟨x, rfl, hx⟩ := par_int Tryz.underlying33 h2
    obtain ⟨total, rfl, ht⟩ := u64_wf hx
    exact tableNew_spec mode n total W ht
theorem tableNew_holds : Rows.TableNewSaid :=
  OpenClaim.holds_of_wide 6 Tryz.f6 rfl rfl rfl rfl rfl rfl rfl ⟨rfl, rfl, rfl, rfl, rfl⟩ rfl rfl rfl rfl rfl (by kernel_rfl) Tryz.func6 (by kernel_rfl)
    (of_decide_eq_true (by kernel_rfl)) (by unfold Func.isWrapper; first | (rw [if_pos (by decide +kernel)]; kernel_rfl) | (rw [if_neg (by decide +kernel)]; exact ⟨rfl, rfl⟩))
    (fun os started H enc _ => tableNew_lifted os started H enc)
#print axioms tableNew_holds
end Go.Proofs.YtmagdjlcckgkpaaGreat
