/- The law RanksNew: the call returns true. -/
import Derived.Test.YtkabdnijhjccoaaRR1
import Derived.Test.YtkabdnijhjccoaaCB
namespace Go.Proofs.Ytkabdnijhjccoaa
open Go.RowKit

set_option maxHeartbeats 2000000 in
theorem ranksNew_spec (n : Int) (w : World) : Spec Try.prog 10 [.int .i64 n] w Nil fun r _ => r = .bool true := by
  refine enter (n := 109) Try.func10 rfl rfl [(0, _)] rfl ⟨rfl, trivial⟩ (Holds.start _ _) ?_
  refine w_seq ?_
  refine w_reg ?_
  refine wl_f (f_assign rfl) ?_
  refine wl_end [(0, _)] ⟨rfl, trivial⟩ ?_
  refine w_seq ?_
  refine w_seq ?_
  refine w_reg ?_
  refine wl_f (f_move rfl) ?_
  refine wl_f (f_move rfl) ?_
  refine wl_f (f_and rfl rfl rfl) ?_
  refine wl_e (e_litrow (e := 3) (sz := 1) rfl (fun w => lit_i3 _ _ _ w) rfl (by decide)) ?_
  rintro _ _ w1_3 ⟨b1_3, rfl, rfl⟩
  refine wl_f (f_len rfl Try.underlying33) ?_
  refine wl_f (f_move rfl) ?_
  refine wl_end [(20, _), (21, _), (22, _)] ⟨rfl, rfl, rfl, trivial⟩ ?_
  refine w_block ?_
  generalize bits .and .i64 n 255 = z
  generalize hks : ([n, z, 8193] : List Int) = ks
  have hkl : ks.length = 3 := by rw [← hks]; rfl
  refine w_loop (fun k m H w' => ∃ i : Nat, m = [(20, .slice (some ⟨b1_3, 0, .none⟩) 3 3), (21, .int .i64 3), (22, .int .i64 i)] ∧ H = [row (.slice (some ⟨b1_3, 0, .none⟩) 3 3) 3 1 3 (iv ks)] ∧ k + i = 3) 3 ⟨0, rfl, rfl, rfl⟩ ?_
  rintro k _ _ w1 ⟨i, rfl, rfl, hk⟩
  refine w_seq ?_
  refine w_reg ?_
  refine wl_f (f_lss rfl rfl) ?_
  refine wl_end [(20, _), (21, _), (22, _), (23, _)] ⟨rfl, rfl, rfl, rfl, trivial⟩ ?_
  refine w_seq ?_
  refine w_ifd rfl (fun hc1 => ?_) (fun hc1 => ?_)
  · skip
    obtain ⟨x, hx⟩ : ∃ x, ks[i]? = some x := ⟨ks[i]'(by omega), List.getElem?_eq_getElem (by omega)⟩
    refine w_skip ?_
    refine w_seq ?_
    refine w_block ?_
    refine w_seq ?_
    refine w_reg ?_
    refine wl_f (f_indexAddr 1 rfl rfl Try.underlying33 (by kernel_rfl) rfl (by omega)) ?_
    refine wl_f (f_loadr (v := .int .i64 x) 0 rfl Try.underlying3 rfl rfl (map_get (Value.int .i64) hx)) ?_
    refine wl_f (f_assign rfl) ?_
    refine wl_end [(4, _), (20, _), (21, _), (22, _)] ⟨rfl, rfl, rfl, rfl, trivial⟩ ?_
    refine w_seq ?_
    refine w_reg ?_
    refine wl_f (f_move rfl) ?_
    refine wl_e (e_call0 rfl Try.func45 (by kernel_rfl) (fun w hh => rknew_form x w)) ?_
    rintro _ _ w2 ⟨H1, rfl, p, rfl, hp⟩
    refine wl_drop _ (List.sublist_append_right _ _) ?_
    generalize hx1 : (if x < 1 ∨ 8192 < x then (1 : Int) else 0) = e0
    refine wl_f (f_move rfl) ?_
    refine wl_f (f_extract rfl rfl) ?_
    refine wl_f (f_extract rfl rfl) ?_
    refine wl_f (f_assign rfl) ?_
    refine wl_f (f_assign rfl) ?_
    refine wl_end [(4, _), (5, _), (6, _), (20, _), (21, _), (22, _)] ⟨rfl, rfl, rfl, rfl, rfl, rfl, trivial⟩ ?_
    refine w_seq ?_
    refine w_reg ?_
    refine wl_f (f_move rfl) ?_
    refine wl_e (e_call0 rfl Try.func54 (by kernel_rfl) (fun w hh => rfnew_form x w)) ?_
    rintro _ _ w3 ⟨H2, rfl, p2, rfl⟩
    refine wl_drop _ (List.sublist_append_right _ _) ?_
    rw [hx1]
    refine wl_f (f_move rfl) ?_
    refine wl_f (f_extract rfl rfl) ?_
    refine wl_f (f_extract rfl rfl) ?_
    refine wl_f (f_assign rfl) ?_
    refine wl_f (f_assign rfl) ?_
    refine wl_end [(5, _), (6, _), (8, _), (20, _), (21, _), (22, _)] ⟨rfl, rfl, rfl, rfl, rfl, rfl, trivial⟩ ?_
    refine w_seq ?_
    refine w_reg ?_
    refine wl_f (f_move rfl) ?_
    refine wl_f (f_move rfl) ?_
    refine wl_f (f_neq rfl rfl) ?_
    refine wl_f (f_move rfl) ?_
    refine wl_or (j := 3) (c := (p.isNone != decide (e0 ≠ 0))) 5 [(20, _), (21, _), (22, _)] ⟨rfl, rfl, rfl, trivial⟩ rfl rfl rfl rfl rfl (fun hg6_9 => ?_) (fun w6_9 => ?_)
    · skip
      refine wl_gf rfl rfl (f_move rfl) ?_
      refine wl_gf rfl rfl (f_eqlnil rfl rfl Try.underlying59) ?_
      refine wl_gf rfl rfl (f_move rfl) ?_
      refine wl_gf rfl rfl (f_neq rfl rfl) ?_
      refine wl_gf rfl rfl (f_neqb rfl rfl Try.underlying4) ?_
      exact wl_pend rfl rfl ⟨rfl, rfl, rfl, trivial⟩ (List.Sublist.refl _)
    refine wl_end [(20, _), (21, _), (22, _), (45, _)] ⟨rfl, rfl, rfl, rfl, trivial⟩ ?_
    refine w_ifb rfl (fun h => absurd h (by
      rw [hp]
      by_cases h' : x < 1 ∨ 8192 < x
      · rw [if_pos h'] at hx1; subst hx1; simp [h']
      · rw [if_neg h'] at hx1; subst hx1; simp [h'])) (fun _ => ?_)
    refine w_skip ?_
    refine w_reg ?_
    refine wl_f (f_add rfl rfl (by omega)) ?_
    refine wl_f (f_move rfl) ?_
    refine wl_end [(20, _), (21, _), (22, _)] ⟨rfl, rfl, rfl, trivial⟩ ?_
    exact ⟨k - 1, by omega, i + 1, rfl, rfl, by omega⟩
  · skip
    refine w_drop [] (List.nil_sublist _) ?_
    refine w_exit0 ?_
    refine w_seq ?_
    refine w_reg ?_
    refine wl_f (f_assign rfl) ?_
    refine wl_end [(9, _)] ⟨rfl, trivial⟩ ?_
    refine w_seq ?_
    refine w_reg ?_
    refine wl_f (f_move rfl) ?_
    refine wl_e (e_call0 rfl Try.func53 (by kernel_rfl) (fun w hh => rkremove_nil _ w)) ?_
    rintro _ _ w4 ⟨_, rfl, rfl, rfl⟩
    refine wl_f (f_move rfl) ?_
    refine wl_f (f_extract rfl rfl) ?_
    refine wl_f (f_extract rfl rfl) ?_
    refine wl_f (f_assign rfl) ?_
    refine wl_f (f_assign rfl) ?_
    refine wl_end [(9, _), (11, _)] ⟨rfl, rfl, trivial⟩ ?_
    refine w_seq ?_
    refine w_reg ?_
    refine wl_f (f_move rfl) ?_
    refine wl_e (e_call0 rfl Try.func50 (by kernel_rfl) (fun w hh => rkcount_nil _ w)) ?_
    rintro _ _ w5 ⟨_, rfl, rfl, rfl⟩
    refine wl_f (f_move rfl) ?_
    refine wl_f (f_extract rfl rfl) ?_
    refine wl_f (f_extract rfl rfl) ?_
    refine wl_f (f_assign rfl) ?_
    refine wl_f (f_assign rfl) ?_
    refine wl_end [(9, _), (11, _), (12, _), (13, _)] ⟨rfl, rfl, rfl, rfl, trivial⟩ ?_
    refine w_seq ?_
    refine w_reg ?_
    refine wl_f (f_move rfl) ?_
    refine wl_e (e_call0 rfl Try.func51 (by kernel_rfl) (fun w hh => rkleast_nil w)) ?_
    rintro _ _ w6 ⟨_, rfl, rfl, rfl⟩
    refine wl_f (f_move rfl) ?_
    refine wl_f (f_extract rfl rfl) ?_
    refine wl_f (f_extract rfl rfl) ?_
    refine wl_f (f_extract rfl rfl) ?_
    refine wl_f (f_assign rfl) ?_
    refine wl_f (f_assign rfl) ?_
    refine wl_f (f_assign rfl) ?_
    refine wl_end [(9, _), (11, _), (12, _), (13, _), (14, _), (15, _), (16, _)] ⟨rfl, rfl, rfl, rfl, rfl, rfl, rfl, trivial⟩ ?_
    refine w_seq ?_
    refine w_reg ?_
    refine wl_f (f_move rfl) ?_
    refine wl_e (e_call0 rfl Try.func46 (by kernel_rfl) (fun w hh => rkinsert_nil _ _ w)) ?_
    rintro _ _ w7 ⟨_, rfl, rfl, rfl⟩
    refine wl_f (f_eql rfl rfl) ?_
    refine wl_f (f_move rfl) ?_
    refine wl_and (j := 3) (c := true) 3 [(9, _), (11, _), (12, _), (13, _), (14, _), (15, _), (16, _)] ⟨rfl, rfl, rfl, rfl, rfl, rfl, rfl, trivial⟩ rfl rfl rfl rfl rfl (fun hg13_7 => ?_) (fun w13_7 => ?_)
    · skip
      refine wl_gf rfl rfl (f_move rfl) ?_
      refine wl_ge rfl rfl (e_call0 rfl Try.func47 (by kernel_rfl) (fun w hh => rkraise_nil _ _ w)) ?_
      rintro _ _ w8 ⟨_, rfl, rfl, rfl⟩
      refine wl_gf rfl rfl (f_eql rfl rfl) ?_
      exact wl_pend rfl rfl ⟨rfl, rfl, rfl, rfl, rfl, rfl, rfl, trivial⟩ (List.Sublist.refl _)
    refine wl_f (f_move rfl) ?_
    refine wl_and (j := 8) (c := true) 2 [(9, _), (12, _), (13, _), (14, _), (15, _), (16, _)] ⟨rfl, rfl, rfl, rfl, rfl, rfl, trivial⟩ rfl rfl rfl rfl rfl (fun hg13_11 => ?_) (fun w13_11 => ?_)
    · skip
      refine wl_gf rfl rfl (f_move rfl) ?_
      refine wl_gf rfl rfl (f_eql rfl rfl) ?_
      exact wl_pend rfl rfl ⟨rfl, rfl, rfl, rfl, rfl, rfl, trivial⟩ (List.Sublist.refl _)
    refine wl_f (f_move rfl) ?_
    refine wl_and (j := 12) (c := true) 2 [(9, _), (13, _), (14, _), (15, _), (16, _)] ⟨rfl, rfl, rfl, rfl, rfl, trivial⟩ rfl rfl rfl rfl rfl (fun hg13_15 => ?_) (fun w13_15 => ?_)
    · skip
      refine wl_gf rfl rfl (f_move rfl) ?_
      refine wl_gf rfl rfl (f_eql rfl rfl) ?_
      exact wl_pend rfl rfl ⟨rfl, rfl, rfl, rfl, rfl, trivial⟩ (List.Sublist.refl _)
    refine wl_f (f_move rfl) ?_
    refine wl_and (j := 16) (c := true) 2 [(9, _), (14, _), (15, _), (16, _)] ⟨rfl, rfl, rfl, rfl, trivial⟩ rfl rfl rfl rfl rfl (fun hg13_19 => ?_) (fun w13_19 => ?_)
    · skip
      refine wl_gf rfl rfl (f_move rfl) ?_
      refine wl_gf rfl rfl (f_not rfl rfl) ?_
      exact wl_pend rfl rfl ⟨rfl, rfl, rfl, rfl, trivial⟩ (List.Sublist.refl _)
    refine wl_f (f_move rfl) ?_
    refine wl_and (j := 20) (c := true) 2 [(9, _), (15, _), (16, _)] ⟨rfl, rfl, rfl, trivial⟩ rfl rfl rfl rfl rfl (fun hg13_23 => ?_) (fun w13_23 => ?_)
    · skip
      refine wl_gf rfl rfl (f_move rfl) ?_
      refine wl_gf rfl rfl (f_eql rfl rfl) ?_
      exact wl_pend rfl rfl ⟨rfl, rfl, rfl, trivial⟩ (List.Sublist.refl _)
    refine wl_f (f_move rfl) ?_
    refine wl_and (j := 24) (c := true) 2 [(9, _), (16, _)] ⟨rfl, rfl, trivial⟩ rfl rfl rfl rfl rfl (fun hg13_27 => ?_) (fun w13_27 => ?_)
    · skip
      refine wl_gf rfl rfl (f_move rfl) ?_
      refine wl_gf rfl rfl (f_eql rfl rfl) ?_
      exact wl_pend rfl rfl ⟨rfl, rfl, trivial⟩ (List.Sublist.refl _)
    refine wl_f (f_move rfl) ?_
    refine wl_and (j := 28) (c := true) 2 [(9, _)] ⟨rfl, trivial⟩ rfl rfl rfl rfl rfl (fun hg13_31 => ?_) (fun w13_31 => ?_)
    · skip
      refine wl_gf rfl rfl (f_move rfl) ?_
      refine wl_gf rfl rfl (f_not rfl rfl) ?_
      exact wl_pend rfl rfl ⟨rfl, trivial⟩ (List.Sublist.refl _)
    refine wl_f (f_move rfl) ?_
    refine wl_and (j := 32) (c := true) 3 [(9, _)] ⟨rfl, trivial⟩ rfl rfl rfl rfl rfl (fun hg13_36 => ?_) (fun w13_36 => ?_)
    · skip
      refine wl_gf rfl rfl (f_move rfl) ?_
      refine wl_ge rfl rfl (e_call0 rfl Try.func52 (by kernel_rfl) (fun w hh => rklen_nil w)) ?_
      rintro _ _ w9 ⟨_, rfl, rfl, rfl⟩
      refine wl_gf rfl rfl (f_eql rfl rfl) ?_
      exact wl_pend rfl rfl ⟨rfl, trivial⟩ (List.Sublist.refl _)
    refine wl_f (f_move rfl) ?_
    refine wl_and (j := 37) (c := true) 4 [] trivial rfl rfl rfl rfl rfl (fun hg13_42 => ?_) (fun w13_42 => ?_)
    · skip
      refine wl_gf rfl rfl (f_move rfl) ?_
      refine wl_ge rfl rfl (e_call0 rfl Try.func48 (by kernel_rfl) (fun w hh => rkorder_nil w)) ?_
      rintro _ _ w10 ⟨_, rfl, rfl, rfl⟩
      refine wl_gf rfl rfl (f_len rfl Try.underlying33) ?_
      refine wl_gf rfl rfl (f_eql rfl rfl) ?_
      exact wl_pend rfl rfl trivial (List.Sublist.refl _)
    refine wl_f (f_move rfl) ?_
    refine wl_and (j := 43) (c := true) 1 [] trivial rfl rfl rfl rfl rfl (fun hg13_45 => ?_) (fun w13_45 => ?_)
    · skip
      refine wl_ge rfl rfl (e_call0 rfl Try.func49 (by kernel_rfl) (fun w hh => awake12_spec w)) ?_
      rintro _ _ w15 ⟨_, rfl, rfl⟩
      exact wl_pend rfl rfl trivial (List.sublist_append_right _ _)
    refine wl_f (f_assign rfl) ?_
    refine wl_end [(2, _)] ⟨rfl, trivial⟩ ?_
    refine w_ret ?_
    refine ⟨_, _, fun a ha hh => results_tmps Try.results10 rfl a ha _, List.Sublist.refl _, ?_⟩
    rfl
end Go.Proofs.Ytkabdnijhjccoaa
