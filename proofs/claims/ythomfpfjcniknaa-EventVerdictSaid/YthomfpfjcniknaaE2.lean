/- The law EventVerdict: the call returns true. -/
import Derived.Test.YthomfpfjcniknaaD4
namespace Go.Proofs.Ythomfpfjcniknaa
open Go.RowKit

def verd (e : Int) : Int := if e = 0 then 0 else if e = 4 then 2 else 1
theorem verdict_spec (e : Int) (w : World) : Spec Try.prog 22 [.int .i64 e] w Nil fun r H => r = .int .i64 (verd e) ∧ H = [] := by
  refine enter (n := 8) Try.func22 rfl rfl [(0, _)] rfl ⟨rfl, trivial⟩ (Holds.start _ _) ?_
  refine w_seq ?_
  refine w_reg ?_
  refine wl_f (f_assign rfl) ?_
  refine wl_end [(0, _)] ⟨rfl, trivial⟩ ?_
  refine w_seq ?_
  refine w_seq ?_
  refine w_reg ?_
  refine wl_f (f_move rfl) ?_
  refine wl_end [(3, _)] ⟨rfl, trivial⟩ ?_
  refine w_block ?_
  refine w_seq ?_
  refine w_reg ?_
  refine wl_f (f_eql rfl rfl) ?_
  refine wl_f (f_assign rfl) ?_
  refine wl_end [(3, _), (4, _)] ⟨rfl, rfl, trivial⟩ ?_
  refine w_ifd rfl (fun hc1 => ?_) (fun hc1 => ?_)
  · skip
    refine w_seq ?_
    refine w_reg ?_
    refine wl_f (f_assign rfl) ?_
    refine wl_end [(2, _)] ⟨rfl, trivial⟩ ?_
    refine w_ret ?_
    refine ⟨_, _, fun a ha hh => results_tmps Try.results22 rfl a ha _, List.Sublist.refl _, ?_⟩
    have h : e = 0 := by simpa using hc1
    exact ⟨by simp [verd, h, tup], rfl⟩
  · skip
    refine w_seq ?_
    refine w_reg ?_
    refine wl_f (f_eql rfl rfl) ?_
    refine wl_f (f_assign rfl) ?_
    refine wl_end [(6, _)] ⟨rfl, trivial⟩ ?_
    refine w_ifd rfl (fun hc2 => ?_) (fun hc2 => ?_)
    · skip
      refine w_seq ?_
      refine w_reg ?_
      refine wl_f (f_assign rfl) ?_
      refine wl_end [(2, _)] ⟨rfl, trivial⟩ ?_
      refine w_ret ?_
      refine ⟨_, _, fun a ha hh => results_tmps Try.results22 rfl a ha _, List.Sublist.refl _, ?_⟩
      have h : ¬ e = 0 := by simpa using hc1
      have h' : e = 4 := by simpa using hc2
      exact ⟨by simp [verd, h', tup], rfl⟩
    · skip
      refine w_skip ?_
      refine w_seq ?_
      refine w_reg ?_
      refine wl_f (f_assign rfl) ?_
      refine wl_end [(2, _)] ⟨rfl, trivial⟩ ?_
      refine w_ret ?_
      refine ⟨_, _, fun a ha hh => results_tmps Try.results22 rfl a ha _, List.Sublist.refl _, ?_⟩
      have h : ¬ e = 0 := by simpa using hc1
      have h' : ¬ e = 4 := by simpa using hc2
      exact ⟨by simp [verd, h, h', tup], rfl⟩
theorem rverdict_spec (e : Int) (w : World) : Spec Try.prog 23 [.int .i64 e] w Nil fun r H => r = .int .i64 (verd e) ∧ H = [] := by
  refine enter (n := 8) Try.func23 rfl rfl [(0, _)] rfl ⟨rfl, trivial⟩ (Holds.start _ _) ?_
  refine w_seq ?_
  refine w_reg ?_
  refine wl_f (f_assign rfl) ?_
  refine wl_end [(0, _)] ⟨rfl, trivial⟩ ?_
  refine w_seq ?_
  refine w_seq ?_
  refine w_reg ?_
  refine wl_f (f_move rfl) ?_
  refine wl_end [(3, _)] ⟨rfl, trivial⟩ ?_
  refine w_block ?_
  refine w_seq ?_
  refine w_reg ?_
  refine wl_f (f_eql rfl rfl) ?_
  refine wl_f (f_assign rfl) ?_
  refine wl_end [(3, _), (4, _)] ⟨rfl, rfl, trivial⟩ ?_
  refine w_ifd rfl (fun hc1 => ?_) (fun hc1 => ?_)
  · skip
    refine w_seq ?_
    refine w_reg ?_
    refine wl_f (f_assign rfl) ?_
    refine wl_end [(2, _)] ⟨rfl, trivial⟩ ?_
    refine w_ret ?_
    refine ⟨_, _, fun a ha hh => results_tmps Try.results23 rfl a ha _, List.Sublist.refl _, ?_⟩
    have h : e = 0 := by simpa using hc1
    exact ⟨by simp [verd, h, tup], rfl⟩
  · skip
    refine w_seq ?_
    refine w_reg ?_
    refine wl_f (f_eql rfl rfl) ?_
    refine wl_f (f_assign rfl) ?_
    refine wl_end [(6, _)] ⟨rfl, trivial⟩ ?_
    refine w_ifd rfl (fun hc2 => ?_) (fun hc2 => ?_)
    · skip
      refine w_seq ?_
      refine w_reg ?_
      refine wl_f (f_assign rfl) ?_
      refine wl_end [(2, _)] ⟨rfl, trivial⟩ ?_
      refine w_ret ?_
      refine ⟨_, _, fun a ha hh => results_tmps Try.results23 rfl a ha _, List.Sublist.refl _, ?_⟩
      have h : ¬ e = 0 := by simpa using hc1
      have h' : e = 4 := by simpa using hc2
      exact ⟨by simp [verd, h', tup], rfl⟩
    · skip
      refine w_skip ?_
      refine w_seq ?_
      refine w_reg ?_
      refine wl_f (f_assign rfl) ?_
      refine wl_end [(2, _)] ⟨rfl, trivial⟩ ?_
      refine w_ret ?_
      refine ⟨_, _, fun a ha hh => results_tmps Try.results23 rfl a ha _, List.Sublist.refl _, ?_⟩
      have h : ¬ e = 0 := by simpa using hc1
      have h' : ¬ e = 4 := by simpa using hc2
      exact ⟨by simp [verd, h, h', tup], rfl⟩
theorem eventVerdict_spec (e : Int) (w : World) : Spec Try.prog 4 [.int .i64 e] w Nil fun r _ => r = .bool true := by
  refine enter (n := 24) Try.func4 rfl rfl [(0, _)] rfl ⟨rfl, trivial⟩ (Holds.start _ _) ?_
  refine w_seq ?_
  refine w_reg ?_
  refine wl_f (f_assign rfl) ?_
  refine wl_end [(0, _)] ⟨rfl, trivial⟩ ?_
  refine w_seq ?_
  refine w_reg ?_
  refine wl_f (f_move rfl) ?_
  refine wl_e (e_call0 rfl Try.func22 (by kernel_rfl) (fun w hh => verdict_spec e w)) ?_
  rintro _ _ w1 ⟨_, rfl, rfl, rfl⟩
  refine wl_f (f_move rfl) ?_
  refine wl_e (e_call0 rfl Try.func23 (by kernel_rfl) (fun w hh => rverdict_spec e w)) ?_
  rintro _ _ w2 ⟨_, rfl, rfl, rfl⟩
  refine wl_f (f_eql rfl rfl) ?_
  refine wl_f (f_move rfl) ?_
  refine wl_and (j := 5) (c := decide (verd (bits .and .i64 e 15) = verd (bits .and .i64 e 15))) 7 [] trivial rfl rfl rfl rfl rfl (fun hg1_13 => ?_) (fun w1_13 => ?_)
  · skip
    refine wl_gf rfl rfl (f_move rfl) ?_
    refine wl_gf rfl rfl (f_and rfl rfl rfl) ?_
    refine wl_ge rfl rfl (e_call0 rfl Try.func22 (by kernel_rfl) (fun w hh => verdict_spec _ w)) ?_
    rintro _ _ w3 ⟨_, rfl, rfl, rfl⟩
    refine wl_gf rfl rfl (f_move rfl) ?_
    refine wl_gf rfl rfl (f_and rfl rfl rfl) ?_
    refine wl_ge rfl rfl (e_call0 rfl Try.func23 (by kernel_rfl) (fun w hh => rverdict_spec _ w)) ?_
    rintro _ _ w4 ⟨_, rfl, rfl, rfl⟩
    refine wl_gf rfl rfl (f_eql rfl rfl) ?_
    exact wl_pend rfl rfl trivial (List.Sublist.refl _)
  refine wl_f (f_move rfl) ?_
  refine wl_and (j := 14) (c := decide (verd 0 = 0)) 2 [] trivial rfl rfl rfl rfl rfl (fun hg1_17 => ?_) (fun w1_17 => ?_)
  · skip
    refine wl_ge rfl rfl (e_call0 rfl Try.func22 (by kernel_rfl) (fun w hh => verdict_spec _ w)) ?_
    rintro _ _ w5 ⟨_, rfl, rfl, rfl⟩
    refine wl_gf rfl rfl (f_eql rfl rfl) ?_
    exact wl_pend rfl rfl trivial (List.Sublist.refl _)
  refine wl_f (f_move rfl) ?_
  refine wl_and (j := 18) (c := true) 1 [] trivial rfl rfl rfl rfl rfl (fun hg1_20 => ?_) (fun w1_20 => ?_)
  · skip
    refine wl_ge rfl rfl (e_call0 rfl Try.func16 (by kernel_rfl) (fun w hh => awake_spec w)) ?_
    rintro _ _ w6 ⟨_, rfl, rfl, rfl⟩
    exact wl_pend rfl rfl trivial (List.Sublist.refl _)
  refine wl_f (f_assign rfl) ?_
  refine wl_end [(2, _)] ⟨rfl, trivial⟩ ?_
  refine w_ret ?_
  refine ⟨_, _, fun a ha hh => results_tmps Try.results4 rfl a ha _, List.Sublist.refl _, ?_⟩
  simp [verd, tup]
end Go.Proofs.Ythomfpfjcniknaa
