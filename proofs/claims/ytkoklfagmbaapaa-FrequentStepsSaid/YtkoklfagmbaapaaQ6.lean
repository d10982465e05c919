/- Tables by the method of Misra and Gries: nil tables. -/
import Derived.Test.YtkoklfagmbaapaaQ5
namespace Go.Proofs.Ytkoklfagmbaapaa
open Go.RowKit

theorem fradd_nil (k : ByteArray) (v : Int) (w : World) : Spec Try.prog 11 [.pointer .none, .string k, .int .u64 v] w Nil fun r H => r = .int .i64 8 ∧ H = [] := by
  refine enter (n := 91) Try.func11 rfl rfl [(0, _), (1, _), (2, _)] rfl ⟨rfl, rfl, rfl, trivial⟩ (Holds.start _ _) ?_
  refine w_seq ?_
  refine w_reg ?_
  refine wl_f (f_assign rfl) ?_
  refine wl_end [(0, _), (1, _), (2, _)] ⟨rfl, rfl, rfl, trivial⟩ ?_
  refine w_seq ?_
  refine w_block ?_
  refine w_seq ?_
  refine w_reg ?_
  refine wl_f (f_move rfl) ?_
  refine wl_f (f_eqlnil rfl rfl Try.underlying24) ?_
  refine wl_f (f_assign rfl) ?_
  refine wl_end [(12, _)] ⟨rfl, trivial⟩ ?_
  refine w_ift rfl ?_
  refine w_seq ?_
  refine w_reg ?_
  refine wl_f (f_assign rfl) ?_
  refine wl_end [(6, _)] ⟨rfl, trivial⟩ ?_
  refine w_ret ?_
  exact ⟨_, _, fun a ha hh => results_tmps Try.results11 rfl a ha _, List.Sublist.refl _, rfl, rfl⟩
end Go.Proofs.Ytkoklfagmbaapaa
