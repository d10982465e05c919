/- Comparing two events. -/
import Derived.Test.YthomfpfjcniknaaD22
namespace Go.Proofs.Ythomfpfjcniknaa
open Go.RowKit

set_option maxHeartbeats 1000000 in
theorem sameEvent_spec (v1 v2 : Value) (xs ys : List Tg) (t1 t2 u1 u2 : Int) (w : World) (h1 : Rd w Nil 2 v1 xs.length (tcells xs)) (h2 : Rd w Nil 2 v2 ys.length (tcells ys)) (hx : xs.length ≤ 140737488355328) (hy : ys.length ≤ 140737488355328) :
    Spec Try.prog 26 [.agg #[v1, .int .i64 t1, .int .u64 u1], .agg #[v2, .int .i64 t2, .int .u64 u2]] w Nil fun r H => r = .bool (decide (xs = ys) && decide (t1 = t2) && decide (u1 = u2)) ∧ H = [] := by
  obtain ⟨A1, c1, rfl, -, hc1', g1⟩ := id h1
  obtain ⟨A2, c2, rfl, -, hc2', g2⟩ := id h2
  refine enter (n := 24) Try.func26 rfl rfl [(0, _), (1, _)] rfl ⟨rfl, rfl, trivial⟩ (Holds.start _ _) ?_
  refine w_seq ?_
  refine w_reg ?_
  refine wl_e (e_box (cs := [_, _, _]) rfl rfl) ?_
  rintro _ _ w0_0 ⟨b0_0, rfl, rfl⟩
  refine wl_e (e_box (cs := [_, _, _]) rfl rfl) ?_
  rintro _ _ w0_1 ⟨b0_1, rfl, rfl⟩
  refine wl_f (f_assign rfl) ?_
  refine wl_end [(2, _), (3, _)] ⟨rfl, rfl, trivial⟩ ?_
  refine w_seq ?_
  refine w_reg ?_
  refine wl_f (f_fieldAddr 0 rfl Try.underlying25 rfl rfl (by kernel_rfl)) ?_
  (first | refine wl_f (f_loadb 0 rfl Try.underlying22 rfl rfl rfl) ?_ | refine wl_f (f_loadb 1 rfl Try.underlying22 rfl rfl rfl) ?_ | refine wl_f (f_loadb 2 rfl Try.underlying22 rfl rfl rfl) ?_ | refine wl_f (f_loadb 3 rfl Try.underlying22 rfl rfl rfl) ?_ | refine wl_f (f_loadb 4 rfl Try.underlying22 rfl rfl rfl) ?_ | refine wl_f (f_loadb 5 rfl Try.underlying22 rfl rfl rfl) ?_ | refine wl_f (f_loadb 6 rfl Try.underlying22 rfl rfl rfl) ?_)
  refine wl_f (f_fieldAddr 0 rfl Try.underlying25 rfl rfl (by kernel_rfl)) ?_
  (first | refine wl_f (f_loadb 0 rfl Try.underlying22 rfl rfl rfl) ?_ | refine wl_f (f_loadb 1 rfl Try.underlying22 rfl rfl rfl) ?_ | refine wl_f (f_loadb 2 rfl Try.underlying22 rfl rfl rfl) ?_ | refine wl_f (f_loadb 3 rfl Try.underlying22 rfl rfl rfl) ?_ | refine wl_f (f_loadb 4 rfl Try.underlying22 rfl rfl rfl) ?_ | refine wl_f (f_loadb 5 rfl Try.underlying22 rfl rfl rfl) ?_ | refine wl_f (f_loadb 6 rfl Try.underlying22 rfl rfl rfl) ?_)
  refine wl_e (e_call0 rfl Try.func36 (by kernel_rfl) (fun w hh => sameTags_spec _ _ xs ys w (h1.old0 hh) (h2.old0 hh) hx hy)) ?_
  rintro _ _ w1 ⟨_, rfl, rfl, rfl⟩
  refine wl_f (f_move rfl) ?_
  refine wl_and (j := 5) (c := decide (t1 = t2)) 5 [(2, _), (3, _)] ⟨rfl, rfl, trivial⟩ rfl rfl rfl rfl rfl (fun hg1_11 => ?_) (fun w1_11 => ?_)
  · skip
    refine wl_gf rfl rfl (f_fieldAddr 1 rfl Try.underlying25 rfl rfl (by kernel_rfl)) ?_
    (first | refine wl_gf rfl rfl (f_loadb 0 rfl Try.underlying3 rfl rfl rfl) ?_ | refine wl_gf rfl rfl (f_loadb 1 rfl Try.underlying3 rfl rfl rfl) ?_ | refine wl_gf rfl rfl (f_loadb 2 rfl Try.underlying3 rfl rfl rfl) ?_ | refine wl_gf rfl rfl (f_loadb 3 rfl Try.underlying3 rfl rfl rfl) ?_ | refine wl_gf rfl rfl (f_loadb 4 rfl Try.underlying3 rfl rfl rfl) ?_ | refine wl_gf rfl rfl (f_loadb 5 rfl Try.underlying3 rfl rfl rfl) ?_ | refine wl_gf rfl rfl (f_loadb 6 rfl Try.underlying3 rfl rfl rfl) ?_)
    refine wl_gf rfl rfl (f_fieldAddr 1 rfl Try.underlying25 rfl rfl (by kernel_rfl)) ?_
    (first | refine wl_gf rfl rfl (f_loadb 0 rfl Try.underlying3 rfl rfl rfl) ?_ | refine wl_gf rfl rfl (f_loadb 1 rfl Try.underlying3 rfl rfl rfl) ?_ | refine wl_gf rfl rfl (f_loadb 2 rfl Try.underlying3 rfl rfl rfl) ?_ | refine wl_gf rfl rfl (f_loadb 3 rfl Try.underlying3 rfl rfl rfl) ?_ | refine wl_gf rfl rfl (f_loadb 4 rfl Try.underlying3 rfl rfl rfl) ?_ | refine wl_gf rfl rfl (f_loadb 5 rfl Try.underlying3 rfl rfl rfl) ?_ | refine wl_gf rfl rfl (f_loadb 6 rfl Try.underlying3 rfl rfl rfl) ?_)
    refine wl_gf rfl rfl (f_eql rfl rfl) ?_
    exact wl_pend rfl rfl ⟨rfl, rfl, trivial⟩ (List.Sublist.refl _)
  refine wl_f (f_move rfl) ?_
  refine wl_and (j := 12) (c := decide (u1 = u2)) 5 [] trivial rfl rfl rfl rfl rfl (fun hg1_18 => ?_) (fun w1_18 => ?_)
  · skip
    refine wl_gf rfl rfl (f_fieldAddr 2 rfl Try.underlying25 rfl rfl (by kernel_rfl)) ?_
    (first | refine wl_gf rfl rfl (f_loadb 0 rfl Try.underlying23 rfl rfl rfl) ?_ | refine wl_gf rfl rfl (f_loadb 1 rfl Try.underlying23 rfl rfl rfl) ?_ | refine wl_gf rfl rfl (f_loadb 2 rfl Try.underlying23 rfl rfl rfl) ?_ | refine wl_gf rfl rfl (f_loadb 3 rfl Try.underlying23 rfl rfl rfl) ?_ | refine wl_gf rfl rfl (f_loadb 4 rfl Try.underlying23 rfl rfl rfl) ?_ | refine wl_gf rfl rfl (f_loadb 5 rfl Try.underlying23 rfl rfl rfl) ?_ | refine wl_gf rfl rfl (f_loadb 6 rfl Try.underlying23 rfl rfl rfl) ?_)
    refine wl_gf rfl rfl (f_fieldAddr 2 rfl Try.underlying25 rfl rfl (by kernel_rfl)) ?_
    (first | refine wl_gf rfl rfl (f_loadb 0 rfl Try.underlying23 rfl rfl rfl) ?_ | refine wl_gf rfl rfl (f_loadb 1 rfl Try.underlying23 rfl rfl rfl) ?_ | refine wl_gf rfl rfl (f_loadb 2 rfl Try.underlying23 rfl rfl rfl) ?_ | refine wl_gf rfl rfl (f_loadb 3 rfl Try.underlying23 rfl rfl rfl) ?_ | refine wl_gf rfl rfl (f_loadb 4 rfl Try.underlying23 rfl rfl rfl) ?_ | refine wl_gf rfl rfl (f_loadb 5 rfl Try.underlying23 rfl rfl rfl) ?_ | refine wl_gf rfl rfl (f_loadb 6 rfl Try.underlying23 rfl rfl rfl) ?_)
    refine wl_gf rfl rfl (f_eql rfl rfl) ?_
    exact wl_pend rfl rfl trivial (List.Sublist.refl _)
  refine wl_f (f_assign rfl) ?_
  refine wl_end [(4, _)] ⟨rfl, trivial⟩ ?_
  refine w_drop [] (List.nil_sublist _) ?_
  refine w_ret ?_
  refine ⟨_, _, fun a ha hh => results_tmps Try.results26 rfl a ha _, List.Sublist.refl _, ?_⟩
  exact ⟨rfl, rfl⟩
end Go.Proofs.Ythomfpfjcniknaa
