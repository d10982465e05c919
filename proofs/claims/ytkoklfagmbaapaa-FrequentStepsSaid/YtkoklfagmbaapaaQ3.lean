/- Tables by the method of Misra and Gries: making one, the numbers, nil tables. -/
import Derived.Test.YtkoklfagmbaapaaQ2
namespace Go.Proofs.Ytkoklfagmbaapaa
open Go.RowKit

/-- A table of tracked keys. -/
def FrR (t m : Nat) (M : UM) (ded total : Nat) (r : Res) : Prop := 1 ≤ m ∧ m ≤ 64 ∧ ∃ bX rX T, r = bun [ftab t bX m ded total, rX] ∧ TbR xU64 bX m T 0 M rX
theorem build_ftab (m : Int) (bX : Nat) (w : World) : (Instr.build 66 [(0, .int .i64 m), (1, .pointer (some ⟨bX, 0, .none⟩))].toArray).run Try.prog w =
    .ok (.agg [.int .i64 m, .pointer (some ⟨bX, 0, .none⟩), .int .u64 0, .int .u64 0].toArray) w := by kernel_rfl
theorem frnew_bad (n : Int) (w : World) (hn : n < 1 ∨ 64 < n) : Spec Try.prog 8 [.int .i64 n] w Nil fun r H => r = .tuple #[.pointer .none, .int .i64 1] ∧ H = [] := by
  refine enter (n := 25) Try.func8 rfl rfl [(0, _)] rfl ⟨rfl, trivial⟩ (Holds.start _ _) ?_
  refine w_seq ?_
  refine w_reg ?_
  refine wl_f (f_assign rfl) ?_
  refine wl_f (f_assign rfl) ?_
  refine wl_end [(0, _)] ⟨rfl, trivial⟩ ?_
  refine w_seq ?_
  refine w_seq ?_
  refine w_reg ?_
  refine wl_f (f_move rfl) ?_
  refine wl_f (f_lss rfl rfl) ?_
  refine wl_f (f_move rfl) ?_
  refine wl_or (j := 2) (c := decide (64 < n)) 2 [(0, _)] ⟨rfl, trivial⟩ rfl rfl rfl rfl rfl (fun hg1_5 => ?_) (fun w1_5 => ?_)
  · skip
    refine wl_gf rfl rfl (f_move rfl) ?_
    refine wl_gf rfl rfl (f_gtr rfl rfl) ?_
    exact wl_pend rfl rfl ⟨rfl, trivial⟩ (List.Sublist.refl _)
  refine wl_end [(0, _), (11, _)] ⟨rfl, rfl, trivial⟩ ?_
  refine w_ifb rfl (fun _ => ?_) (fun h => absurd (by simpa [Bool.or_eq_true] using hn) h)
  refine w_seq ?_
  refine w_reg ?_
  refine wl_f (f_assign rfl) ?_
  refine wl_f (f_assign rfl) ?_
  refine wl_end [(2, _), (3, _)] ⟨rfl, rfl, trivial⟩ ?_
  refine w_ret ?_
  refine ⟨_, _, fun a ha hh => results_tmps Try.results8 rfl a ha _, List.Sublist.refl _, ?_⟩
  exact ⟨rfl, rfl⟩
theorem fruntracked_nil (w : World) : Spec Try.prog 13 [.pointer .none] w Nil fun r H => r = .int .u64 0 ∧ H = [] := by
  refine enter (n := 9) Try.func13 rfl rfl [(0, _)] rfl ⟨rfl, trivial⟩ (Holds.start _ _) ?_
  refine w_seq ?_
  refine w_reg ?_
  refine wl_f (f_assign rfl) ?_
  refine wl_end [(0, _)] ⟨rfl, trivial⟩ ?_
  refine w_seq ?_
  refine w_seq ?_
  refine w_reg ?_
  refine wl_f (f_move rfl) ?_
  refine wl_f (f_eqlnil rfl rfl Try.underlying24) ?_
  refine wl_end [(0, _), (4, _)] ⟨rfl, rfl, trivial⟩ ?_
  refine w_ift rfl ?_
  refine w_seq ?_
  refine w_reg ?_
  refine wl_f (f_assign rfl) ?_
  refine wl_end [(2, _)] ⟨rfl, trivial⟩ ?_
  refine w_ret ?_
  refine ⟨_, _, fun a ha hh => results_tmps Try.results13 rfl a ha _, List.Sublist.refl _, ?_⟩
  exact ⟨rfl, rfl⟩
theorem fruntracked_spec (t m : Nat) (M : UM) (ded total : Nat) (r : Res) (w : World) (hr : FrR t m M ded total r) (hs : Holds w r.foot [r] w) :
    Spec Try.prog 13 [.pointer (some ⟨t, 0, .none⟩)] w r.foot fun v H => v = .int .u64 (ded : Int) ∧ H = [r] := by
  obtain ⟨hm1, hm2, bX, rX, T, rfl, hX⟩ := hr
  refine enter (n := 9) Try.func13 rfl rfl [(0, _)] rfl ⟨rfl, trivial⟩ hs ?_
  refine w_seq ?_
  refine w_reg ?_
  refine wl_f (f_assign rfl) ?_
  refine wl_end [(0, _)] ⟨rfl, trivial⟩ ?_
  refine w_seq ?_
  refine w_seq ?_
  refine w_reg ?_
  refine wl_f (f_move rfl) ?_
  refine wl_f (f_eqlnil rfl rfl Try.underlying24) ?_
  refine wl_end [(0, _), (4, _)] ⟨rfl, rfl, trivial⟩ ?_
  refine w_iff rfl ?_
  refine w_skip ?_
  refine w_seq ?_
  refine w_reg ?_
  refine wl_f (f_move rfl) ?_
  refine wl_f (f_nilCheck rfl) ?_
  refine wl_f (f_fieldAddr 2 rfl Try.underlying66 rfl rfl (by kernel_rfl)) ?_
  refine wl_f (f_loadB 0 0 rfl rfl rfl Try.underlying33 rfl rfl) ?_
  refine wl_f (f_assign rfl) ?_
  refine wl_end [(2, _)] ⟨rfl, trivial⟩ ?_
  refine w_ret ?_
  refine ⟨_, _, fun a ha hh => results_tmps Try.results13 rfl a ha _, List.Sublist.refl _, ?_⟩
  exact ⟨rfl, rfl⟩
theorem frtotal_nil (w : World) : Spec Try.prog 15 [.pointer .none] w Nil fun r H => r = .int .u64 0 ∧ H = [] := by
  refine enter (n := 9) Try.func15 rfl rfl [(0, _)] rfl ⟨rfl, trivial⟩ (Holds.start _ _) ?_
  refine w_seq ?_
  refine w_reg ?_
  refine wl_f (f_assign rfl) ?_
  refine wl_end [(0, _)] ⟨rfl, trivial⟩ ?_
  refine w_seq ?_
  refine w_seq ?_
  refine w_reg ?_
  refine wl_f (f_move rfl) ?_
  refine wl_f (f_eqlnil rfl rfl Try.underlying24) ?_
  refine wl_end [(0, _), (4, _)] ⟨rfl, rfl, trivial⟩ ?_
  refine w_ift rfl ?_
  refine w_seq ?_
  refine w_reg ?_
  refine wl_f (f_assign rfl) ?_
  refine wl_end [(2, _)] ⟨rfl, trivial⟩ ?_
  refine w_ret ?_
  refine ⟨_, _, fun a ha hh => results_tmps Try.results15 rfl a ha _, List.Sublist.refl _, ?_⟩
  exact ⟨rfl, rfl⟩
theorem frtotal_spec (t m : Nat) (M : UM) (ded total : Nat) (r : Res) (w : World) (hr : FrR t m M ded total r) (hs : Holds w r.foot [r] w) :
    Spec Try.prog 15 [.pointer (some ⟨t, 0, .none⟩)] w r.foot fun v H => v = .int .u64 (total : Int) ∧ H = [r] := by
  obtain ⟨hm1, hm2, bX, rX, T, rfl, hX⟩ := hr
  refine enter (n := 9) Try.func15 rfl rfl [(0, _)] rfl ⟨rfl, trivial⟩ hs ?_
  refine w_seq ?_
  refine w_reg ?_
  refine wl_f (f_assign rfl) ?_
  refine wl_end [(0, _)] ⟨rfl, trivial⟩ ?_
  refine w_seq ?_
  refine w_seq ?_
  refine w_reg ?_
  refine wl_f (f_move rfl) ?_
  refine wl_f (f_eqlnil rfl rfl Try.underlying24) ?_
  refine wl_end [(0, _), (4, _)] ⟨rfl, rfl, trivial⟩ ?_
  refine w_iff rfl ?_
  refine w_skip ?_
  refine w_seq ?_
  refine w_reg ?_
  refine wl_f (f_move rfl) ?_
  refine wl_f (f_nilCheck rfl) ?_
  refine wl_f (f_fieldAddr 3 rfl Try.underlying66 rfl rfl (by kernel_rfl)) ?_
  refine wl_f (f_loadB 0 0 rfl rfl rfl Try.underlying33 rfl rfl) ?_
  refine wl_f (f_assign rfl) ?_
  refine wl_end [(2, _)] ⟨rfl, trivial⟩ ?_
  refine w_ret ?_
  refine ⟨_, _, fun a ha hh => results_tmps Try.results15 rfl a ha _, List.Sublist.refl _, ?_⟩
  exact ⟨rfl, rfl⟩
set_option maxHeartbeats 1000000 in
theorem frnew_ok (m : Nat) (w : World) (h1 : 1 ≤ m) (h2 : m ≤ 64) : Spec Try.prog 8 [.int .i64 m] w Nil fun r H => ∃ t r', r = .tuple #[.pointer (some ⟨t, 0, .none⟩), .int .i64 0] ∧ H = [r'] ∧ FrR t m [] 0 0 r' := by
  refine enter (n := 25) Try.func8 rfl rfl [(0, _)] rfl ⟨rfl, trivial⟩ (Holds.start _ _) ?_
  refine w_seq ?_
  refine w_reg ?_
  refine wl_f (f_assign rfl) ?_
  refine wl_f (f_assign rfl) ?_
  refine wl_end [(0, _)] ⟨rfl, trivial⟩ ?_
  refine w_seq ?_
  refine w_seq ?_
  refine w_reg ?_
  refine wl_f (f_move rfl) ?_
  refine wl_f (f_lss rfl rfl) ?_
  refine wl_f (f_move rfl) ?_
  refine wl_or (j := 2) (c := decide (64 < (m : Int))) 2 [(0, _)] ⟨rfl, trivial⟩ rfl rfl rfl rfl rfl (fun hg1_5 => ?_) (fun w1_5 => ?_)
  · skip
    refine wl_gf rfl rfl (f_move rfl) ?_
    refine wl_gf rfl rfl (f_gtr rfl rfl) ?_
    exact wl_pend rfl rfl ⟨rfl, trivial⟩ (List.Sublist.refl _)
  refine wl_end [(0, _), (11, _)] ⟨rfl, rfl, trivial⟩ ?_
  refine w_ifb rfl (fun h => absurd h (by simp; omega)) (fun _ => ?_)
  refine w_skip ?_
  refine w_seq ?_
  refine w_reg ?_
  refine wl_f (f_move rfl) ?_
  refine wl_e (e_make (l := 16) (cs := u64v (List.replicate 16 0)) rfl rfl t64 (by omega) (by omega) (made1 16).symm) ?_
  rintro _ _ w3_1 ⟨b3_1, rfl, rfl⟩
  refine wl_e (e_call0 rfl Try.func31 (by kernel_rfl) (fun w hh => uxnew_ok m (List.replicate 16 0) _ 0 w (by omega) (by omega) List.length_replicate (Rd.held0 hh (i := 0) rfl))) ?_
  rintro _ _ w2 ⟨_, rfl, bX, rX, rfl, rfl, hX⟩
  refine wl_f (f_move rfl) ?_
  refine wl_f (f_extract rfl rfl) ?_
  refine wl_f (f_extract rfl rfl) ?_
  refine wl_f (f_assign rfl) ?_
  refine wl_f (f_assign rfl) ?_
  refine wl_end [(0, _), (4, _), (5, _)] ⟨rfl, rfl, rfl, trivial⟩ ?_
  refine w_seq ?_
  refine w_seq ?_
  refine w_reg ?_
  refine wl_f (f_move rfl) ?_
  refine wl_f (f_neq rfl rfl) ?_
  refine wl_end [(0, _), (4, _), (5, _), (19, _)] ⟨rfl, rfl, rfl, rfl, trivial⟩ ?_
  refine w_ifb rfl (fun h => absurd h (by simp)) (fun _ => ?_)
  refine w_skip ?_
  refine w_seq ?_
  refine w_reg ?_
  refine wl_f (f_move rfl) ?_
  refine wl_f (f_move rfl) ?_
  refine wl_f (f_build rfl (fun w => build_ftab _ _ w)) ?_
  refine wl_e (e_box (cs := [_, _, _, _]) rfl rfl) ?_
  rintro _ _ w3 ⟨t, rfl, rfl⟩
  refine wl_f (f_assign rfl) ?_
  refine wl_f (f_assign rfl) ?_
  refine wl_end [(2, _), (3, _)] ⟨rfl, rfl, trivial⟩ ?_
  refine w_pick [0, 0] rfl ?_
  refine w_bun (H := []) [_, _] ?_
  refine w_ret ?_
  refine ⟨_, _, fun a ha hh => results_tmps Try.results8 rfl a ha _, List.Sublist.refl _, ?_⟩
  exact ⟨t, _, rfl, rfl, h1, h2, bX, rX, _, rfl, hX⟩
theorem frlen_nil (w : World) : Spec Try.prog 20 [.pointer .none] w Nil fun r H => r = .int .i64 0 ∧ H = [] := by
  refine enter (n := 10) Try.func20 rfl rfl [(0, _)] rfl ⟨rfl, trivial⟩ (Holds.start _ _) ?_
  refine w_seq ?_
  refine w_reg ?_
  refine wl_f (f_assign rfl) ?_
  refine wl_end [(0, _)] ⟨rfl, trivial⟩ ?_
  refine w_seq ?_
  refine w_seq ?_
  refine w_reg ?_
  refine wl_f (f_move rfl) ?_
  refine wl_f (f_eqlnil rfl rfl Try.underlying24) ?_
  refine wl_end [(0, _), (4, _)] ⟨rfl, rfl, trivial⟩ ?_
  refine w_ift rfl ?_
  refine w_seq ?_
  refine w_reg ?_
  refine wl_f (f_assign rfl) ?_
  refine wl_end [(2, _)] ⟨rfl, trivial⟩ ?_
  refine w_ret ?_
  refine ⟨_, _, fun a ha hh => results_tmps Try.results20 rfl a ha _, List.Sublist.refl _, ?_⟩
  exact ⟨rfl, rfl⟩
theorem frlen_spec (t m : Nat) (M : UM) (ded total : Nat) (r : Res) (w : World) (hr : FrR t m M ded total r) (hs : Holds w r.foot [r] w) :
    Spec Try.prog 20 [.pointer (some ⟨t, 0, .none⟩)] w r.foot fun v H => v = .int .i64 (M.length : Int) ∧ H = [r] := by
  obtain ⟨hm1, hm2, bX, rX, T, rfl, hX⟩ := hr
  refine enter (n := 10) Try.func20 rfl rfl [(0, _)] rfl ⟨rfl, trivial⟩ hs ?_
  refine w_seq ?_
  refine w_reg ?_
  refine wl_f (f_assign rfl) ?_
  refine wl_end [(0, _)] ⟨rfl, trivial⟩ ?_
  refine w_seq ?_
  refine w_seq ?_
  refine w_reg ?_
  refine wl_f (f_move rfl) ?_
  refine wl_f (f_eqlnil rfl rfl Try.underlying24) ?_
  refine wl_end [(0, _), (4, _)] ⟨rfl, rfl, trivial⟩ ?_
  refine w_iff rfl ?_
  refine w_skip ?_
  refine w_seq ?_
  refine w_unb (H := []) [_, _] ?_
  refine w_reg ?_
  refine wl_f (f_move rfl) ?_
  refine wl_f (f_nilCheck rfl) ?_
  refine wl_f (f_fieldAddr 1 rfl Try.underlying66 rfl rfl (by kernel_rfl)) ?_
  refine wl_f (f_loadb 0 rfl Try.underlying61 rfl rfl rfl) ?_
  refine wl_e (e_call1 rX [_] rfl Try.func35 (by kernel_rfl) (pk1 1 rfl) (fun w hh hs' => uxlen_spec bX m T 0 M rX w hX hs')) ?_
  rintro _ _ w3 ⟨_, rfl, rfl, rfl⟩
  refine wl_f (f_assign rfl) ?_
  refine wl_end [(2, _)] ⟨rfl, trivial⟩ ?_
  refine w_pick [1, 0] rfl ?_
  refine w_bun (H := []) [_, _] ?_
  refine w_ret ?_
  refine ⟨_, _, fun a ha hh => results_tmps Try.results20 rfl a ha _, List.Sublist.refl _, ?_⟩
  exact ⟨rfl, rfl⟩
end Go.Proofs.Ytkoklfagmbaapaa
