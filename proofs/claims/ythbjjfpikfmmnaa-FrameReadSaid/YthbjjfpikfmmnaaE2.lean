/- The law EventVerdict: the call returns true. -/
import Derived.Test.YthbjjfpikfmmnaaD4
namespace Go.Proofs.Ythbjjfpikfmmnaa
open Go.RowKit

def verd (e : Int) : Int := if e = 0 then 0 else if e = 4 then 2 else 1
theorem verdict_spec (e : Int) (w : World) : Spec Try.prog 17 [.int .i64 e] w Nil fun r H => r = .int .i64 (verd e) ∧ H = [] := by
  refine enter (n := 8) Try.func17 rfl rfl [(0, _)] rfl ⟨rfl, trivial⟩ (Holds.start _ _) ?_
  refine w_seq ?_
  refine w_reg ?_
  refine wl_f (f_assign rfl) ?_
  refine wl_end [(0, _)] ⟨rfl, trivial⟩ ?_
  refine w_seq ?_
  refine w_seq ?_
  refine w_reg ?_
  refine wl_f (f_move rfl) ?_
  refine wl_end [(3, _)] ⟨rfl, trivial⟩ ?_
  refine w_block ?_
  refine w_seq ?_
  refine w_reg ?_
  refine wl_f (f_eql rfl rfl) ?_
  refine wl_f (f_assign rfl) ?_
  refine wl_end [(3, _), (4, _)] ⟨rfl, rfl, trivial⟩ ?_
  refine w_ifd rfl (fun hc1 => ?_) (fun hc1 => ?_)
  · skip
    refine w_seq ?_
    refine w_reg ?_
    refine wl_f (f_assign rfl) ?_
    refine wl_end [(2, _)] ⟨rfl, trivial⟩ ?_
    refine w_ret ?_
    refine ⟨_, _, fun a ha hh => results_tmps Try.results17 rfl a ha _, List.Sublist.refl _, ?_⟩
    have h : e = 0 := by simpa using hc1
    exact ⟨by simp [verd, h, tup], rfl⟩
  · skip
    refine w_seq ?_
    refine w_reg ?_
    refine wl_f (f_eql rfl rfl) ?_
    refine wl_f (f_assign rfl) ?_
    refine wl_end [(6, _)] ⟨rfl, trivial⟩ ?_
    refine w_ifd rfl (fun hc2 => ?_) (fun hc2 => ?_)
    · skip
      refine w_seq ?_
      refine w_reg ?_
      refine wl_f (f_assign rfl) ?_
      refine wl_end [(2, _)] ⟨rfl, trivial⟩ ?_
      refine w_ret ?_
      refine ⟨_, _, fun a ha hh => results_tmps Try.results17 rfl a ha _, List.Sublist.refl _, ?_⟩
      have h : ¬ e = 0 := by simpa using hc1
      have h' : e = 4 := by simpa using hc2
      exact ⟨by simp [verd, h', tup], rfl⟩
    · skip
      refine w_skip ?_
      refine w_seq ?_
      refine w_reg ?_
      refine wl_f (f_assign rfl) ?_
      refine wl_end [(2, _)] ⟨rfl, trivial⟩ ?_
      refine w_ret ?_
      refine ⟨_, _, fun a ha hh => results_tmps Try.results17 rfl a ha _, List.Sublist.refl _, ?_⟩
      have h : ¬ e = 0 := by simpa using hc1
      have h' : ¬ e = 4 := by simpa using hc2
      exact ⟨by simp [verd, h, h', tup], rfl⟩
theorem rverdict_spec (e : Int) (w : World) : Spec Try.prog 31 [.int .i64 e] w Nil fun r H => r = .int .i64 (verd e) ∧ H = [] := by
  refine enter (n := 8) Try.func31 rfl rfl [(0, _)] rfl ⟨rfl, trivial⟩ (Holds.start _ _) ?_
  refine w_seq ?_
  refine w_reg ?_
  refine wl_f (f_assign rfl) ?_
  refine wl_end [(0, _)] ⟨rfl, trivial⟩ ?_
  refine w_seq ?_
  refine w_seq ?_
  refine w_reg ?_
  refine wl_f (f_move rfl) ?_
  refine wl_end [(3, _)] ⟨rfl, trivial⟩ ?_
  refine w_block ?_
  refine w_seq ?_
  refine w_reg ?_
  refine wl_f (f_eql rfl rfl) ?_
  refine wl_f (f_assign rfl) ?_
  refine wl_end [(3, _), (4, _)] ⟨rfl, rfl, trivial⟩ ?_
  refine w_ifd rfl (fun hc1 => ?_) (fun hc1 => ?_)
  · skip
    refine w_seq ?_
    refine w_reg ?_
    refine wl_f (f_assign rfl) ?_
    refine wl_end [(2, _)] ⟨rfl, trivial⟩ ?_
    refine w_ret ?_
    refine ⟨_, _, fun a ha hh => results_tmps Try.results31 rfl a ha _, List.Sublist.refl _, ?_⟩
    have h : e = 0 := by simpa using hc1
    exact ⟨by simp [verd, h, tup], rfl⟩
  · skip
    refine w_seq ?_
    refine w_reg ?_
    refine wl_f (f_eql rfl rfl) ?_
    refine wl_f (f_assign rfl) ?_
    refine wl_end [(6, _)] ⟨rfl, trivial⟩ ?_
    refine w_ifd rfl (fun hc2 => ?_) (fun hc2 => ?_)
    · skip
      refine w_seq ?_
      refine w_reg ?_
      refine wl_f (f_assign rfl) ?_
      refine wl_end [(2, _)] ⟨rfl, trivial⟩ ?_
      refine w_ret ?_
      refine ⟨_, _, fun a ha hh => results_tmps Try.results31 rfl a ha _, List.Sublist.refl _, ?_⟩
      have h : ¬ e = 0 := by simpa using hc1
      have h' : e = 4 := by simpa using hc2
      exact ⟨by simp [verd, h', tup], rfl⟩
    · skip
      refine w_skip ?_
      refine w_seq ?_
      refine w_reg ?_
      refine wl_f (f_assign rfl) ?_
      refine wl_end [(2, _)] ⟨rfl, trivial⟩ ?_
      refine w_ret ?_
      refine ⟨_, _, fun a ha hh => results_tmps Try.results31 rfl a ha _, List.Sublist.refl _, ?_⟩
      have h : ¬ e = 0 := by simpa using hc1
      have h' : ¬ e = 4 := by simpa using hc2
      exact ⟨by simp [verd, h, h', tup], rfl⟩
end Go.Proofs.Ythbjjfpikfmmnaa
