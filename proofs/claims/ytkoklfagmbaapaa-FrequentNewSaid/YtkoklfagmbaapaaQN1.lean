/- The law FrequentNew: the call returns true. -/
import Derived.Test.YtkoklfagmbaapaaQ12
namespace Go.Proofs.Ytkoklfagmbaapaa
open Go.RowKit

theorem lit_i3 (a b c : Int) (w : World) : (Instr.buildSlice 22 3 [(0, .int .i64 a), (1, .int .i64 b), (2, .int .i64 c)].toArray).run Try.prog w =
    .ok (.slice (some ⟨w.heap.size, 0, .none⟩) 3 3) (w.alloc (.cells (iv [a, b, c]).toArray 3)) := by kernel_rfl
theorem frnew_form (n : Int) (w : World) : Spec Try.prog 8 [.int .i64 n] w Nil fun r H => ∃ (p : Option Addr), r = .tuple [.pointer p, .int .i64 (if n < 1 ∨ 64 < n then 1 else 0)].toArray ∧ p.isNone = decide (n < 1 ∨ 64 < n) := by
  by_cases h : n < 1 ∨ 64 < n
  · exact (frnew_bad n w h).mono fun v H hv => ⟨.none, by rw [hv.1, if_pos h], (decide_eq_true h).symm⟩
  · obtain ⟨k, rfl⟩ : ∃ k : Nat, n = k := ⟨n.toNat, by omega⟩
    exact (frnew_ok k w (by omega) (by omega)).mono fun v H hv => by
      obtain ⟨b, r', rfl, _⟩ := hv
      exact ⟨some ⟨b, 0, .none⟩, by rw [if_neg h], (decide_eq_false h).symm⟩
theorem build_entryk (k : ByteArray) (w : World) : (Instr.build 36 [(0, .string k)].toArray).run Try.prog w = .ok (.agg [.string k, .int .u64 0, .int .u64 0].toArray) w := by kernel_rfl
theorem build_rtab (n : Int) (w : World) : (Instr.build 58 [(0, .int .i64 2), (1, .int .i64 n)].toArray).run Try.prog w = .ok (.agg [.int .i64 2, .int .i64 n, .slice .none 0 0, .int .u64 0, .int .u64 0].toArray) w := by kernel_rfl
theorem rsnew_form (n : Int) (w : World) : Spec Try.prog 17 [.int .i64 2, .int .i64 n] w Nil fun r H => ∃ (p : Option Addr), r = .tuple [.pointer p, .int .i64 (if n < 1 ∨ 64 < n then 1 else 0)].toArray := by
  refine enter (n := 22) Try.func17 rfl rfl [(0, _), (1, _)] rfl ⟨rfl, rfl, trivial⟩ (Holds.start _ _) ?_
  refine w_seq ?_
  refine w_reg ?_
  refine wl_f (f_assign rfl) ?_
  refine wl_f (f_assign rfl) ?_
  refine wl_end [(0, _), (1, _)] ⟨rfl, rfl, trivial⟩ ?_
  refine w_seq ?_
  refine w_seq ?_
  refine w_reg ?_
  refine wl_f (f_move rfl) ?_
  refine wl_f (f_neq rfl rfl) ?_
  refine wl_f (f_move rfl) ?_
  refine wl_and (j := 2) (c := false) 2 [(0, _), (1, _)] ⟨rfl, rfl, trivial⟩ rfl rfl rfl rfl rfl (fun hg1_5 => ?_) (fun w1_5 => ?_)
  · skip
    refine wl_gf rfl rfl (f_move rfl) ?_
    refine wl_gf rfl rfl (f_neq rfl rfl) ?_
    exact wl_pend rfl rfl ⟨rfl, rfl, trivial⟩ (List.Sublist.refl _)
  refine wl_end [(0, _), (1, _), (11, _)] ⟨rfl, rfl, rfl, trivial⟩ ?_
  refine w_iff rfl ?_
  refine w_skip ?_
  refine w_seq ?_
  refine w_seq ?_
  refine w_reg ?_
  refine wl_f (f_move rfl) ?_
  refine wl_f (f_lss rfl rfl) ?_
  refine wl_f (f_move rfl) ?_
  refine wl_or (j := 2) (c := decide (64 < n)) 2 [(0, _), (1, _)] ⟨rfl, rfl, trivial⟩ rfl rfl rfl rfl rfl (fun hg3_5 => ?_) (fun w3_5 => ?_)
  · skip
    refine wl_gf rfl rfl (f_move rfl) ?_
    refine wl_gf rfl rfl (f_gtr rfl rfl) ?_
    exact wl_pend rfl rfl ⟨rfl, rfl, trivial⟩ (List.Sublist.refl _)
  refine wl_end [(0, _), (1, _), (17, _)] ⟨rfl, rfl, rfl, trivial⟩ ?_
  refine w_ifb rfl (fun hc2 => ?_) (fun hc2 => ?_)
  · skip
    have h1 : n < 1 ∨ 64 < n := by simpa [Bool.or_eq_true] using hc2
    refine w_seq ?_
    refine w_reg ?_
    refine wl_f (f_assign rfl) ?_
    refine wl_f (f_assign rfl) ?_
    refine wl_end [(4, _), (5, _)] ⟨rfl, rfl, trivial⟩ ?_
    refine w_ret ?_
    refine ⟨_, _, fun a ha hh => results_tmps Try.results17 rfl a ha _, List.Sublist.refl _, ?_⟩
    exact ⟨.none, by rw [if_pos h1]; rfl⟩
  · skip
    have h1 : ¬ (n < 1 ∨ 64 < n) := by simpa [Bool.or_eq_true] using hc2
    refine w_skip ?_
    refine w_seq ?_
    refine w_reg ?_
    refine wl_f (f_move rfl) ?_
    refine wl_f (f_move rfl) ?_
    refine wl_f (f_build rfl (fun w => build_rtab _ w)) ?_
    refine wl_e (e_box (cs := [_, _, _, _, _]) rfl rfl) ?_
    rintro _ _ w5_3 ⟨b5_3, rfl, rfl⟩
    refine wl_f (f_assign rfl) ?_
    refine wl_f (f_assign rfl) ?_
    refine wl_end [(4, _), (5, _)] ⟨rfl, rfl, trivial⟩ ?_
    refine w_ret ?_
    refine ⟨_, _, fun a ha hh => results_tmps Try.results17 rfl a ha _, List.Sublist.refl _, ?_⟩
    exact ⟨some ⟨b5_3, 0, .none⟩, by rw [if_neg h1]; rfl⟩
set_option maxHeartbeats 2000000 in
theorem frequentNew_spec (n : Int) (w : World) : Spec Try.prog 5 [.int .i64 n] w Nil fun r _ => r = .bool true := by
  refine enter (n := 101) Try.func5 rfl rfl [(0, _)] rfl ⟨rfl, trivial⟩ (Holds.start _ _) ?_
  refine w_seq ?_
  refine w_reg ?_
  refine wl_f (f_assign rfl) ?_
  refine wl_end [(0, _)] ⟨rfl, trivial⟩ ?_
  refine w_seq ?_
  refine w_seq ?_
  refine w_reg ?_
  refine wl_f (f_move rfl) ?_
  refine wl_f (f_move rfl) ?_
  refine wl_f (f_and rfl rfl rfl) ?_
  refine wl_e (e_litrow (e := 3) (sz := 1) rfl (fun w => lit_i3 _ _ _ w) rfl (by decide)) ?_
  rintro _ _ w1_3 ⟨b1_3, rfl, rfl⟩
  refine wl_f (f_len rfl Try.underlying22) ?_
  refine wl_f (f_move rfl) ?_
  refine wl_end [(19, _), (20, _), (21, _)] ⟨rfl, rfl, rfl, trivial⟩ ?_
  refine w_block ?_
  generalize bits .and .i64 n 127 = z
  generalize hks : ([n, z, 64] : List Int) = ks
  have hkl : ks.length = 3 := by rw [← hks]; rfl
  refine w_loop (fun k m H w' => ∃ i : Nat, m = [(19, .slice (some ⟨b1_3, 0, .none⟩) 3 3), (20, .int .i64 3), (21, .int .i64 i)] ∧ H = [row (.slice (some ⟨b1_3, 0, .none⟩) 3 3) 3 1 3 (iv ks)] ∧ k + i = 3) 3 ⟨0, rfl, rfl, rfl⟩ ?_
  rintro k _ _ w1 ⟨i, rfl, rfl, hk⟩
  refine w_seq ?_
  refine w_reg ?_
  refine wl_f (f_lss rfl rfl) ?_
  refine wl_end [(19, _), (20, _), (21, _), (22, _)] ⟨rfl, rfl, rfl, rfl, trivial⟩ ?_
  refine w_seq ?_
  refine w_ifd rfl (fun hc1 => ?_) (fun hc1 => ?_)
  · skip
    obtain ⟨x, hx⟩ : ∃ x, ks[i]? = some x := ⟨ks[i]'(by omega), List.getElem?_eq_getElem (by omega)⟩
    refine w_skip ?_
    refine w_seq ?_
    refine w_block ?_
    refine w_seq ?_
    refine w_reg ?_
    refine wl_f (f_indexAddr 1 rfl rfl Try.underlying22 (by kernel_rfl) rfl (by omega)) ?_
    refine wl_f (f_loadr (v := .int .i64 x) 0 rfl Try.underlying3 rfl rfl (map_get (Value.int .i64) hx)) ?_
    refine wl_f (f_assign rfl) ?_
    refine wl_end [(4, _), (19, _), (20, _), (21, _)] ⟨rfl, rfl, rfl, rfl, trivial⟩ ?_
    refine w_seq ?_
    refine w_reg ?_
    refine wl_f (f_move rfl) ?_
    refine wl_e (e_call0 rfl Try.func8 (by kernel_rfl) (fun w hh => frnew_form x w)) ?_
    rintro _ _ w2 ⟨H1, rfl, p, rfl, hp⟩
    refine wl_drop _ (List.sublist_append_right _ _) ?_
    generalize hx1 : (if x < 1 ∨ 64 < x then (1 : Int) else 0) = e0
    refine wl_f (f_move rfl) ?_
    refine wl_f (f_extract rfl rfl) ?_
    refine wl_f (f_extract rfl rfl) ?_
    refine wl_f (f_assign rfl) ?_
    refine wl_f (f_assign rfl) ?_
    refine wl_end [(4, _), (5, _), (6, _), (19, _), (20, _), (21, _)] ⟨rfl, rfl, rfl, rfl, rfl, rfl, trivial⟩ ?_
    refine w_seq ?_
    refine w_reg ?_
    refine wl_f (f_move rfl) ?_
    refine wl_e (e_call0 rfl Try.func17 (by kernel_rfl) (fun w hh => rsnew_form x w)) ?_
    rintro _ _ w3 ⟨H2, rfl, p2, rfl⟩
    refine wl_drop _ (List.sublist_append_right _ _) ?_
    rw [hx1]
    refine wl_f (f_move rfl) ?_
    refine wl_f (f_extract rfl rfl) ?_
    refine wl_f (f_extract rfl rfl) ?_
    refine wl_f (f_assign rfl) ?_
    refine wl_f (f_assign rfl) ?_
    refine wl_end [(5, _), (6, _), (8, _), (19, _), (20, _), (21, _)] ⟨rfl, rfl, rfl, rfl, rfl, rfl, trivial⟩ ?_
    refine w_seq ?_
    refine w_reg ?_
    refine wl_f (f_move rfl) ?_
    refine wl_f (f_move rfl) ?_
    refine wl_f (f_neq rfl rfl) ?_
    refine wl_f (f_move rfl) ?_
    refine wl_or (j := 3) (c := (p.isNone != decide (e0 ≠ 0))) 5 [(19, _), (20, _), (21, _)] ⟨rfl, rfl, rfl, trivial⟩ rfl rfl rfl rfl rfl (fun hg6_9 => ?_) (fun w6_9 => ?_)
    · skip
      refine wl_gf rfl rfl (f_move rfl) ?_
      refine wl_gf rfl rfl (f_eqlnil rfl rfl Try.underlying24) ?_
      refine wl_gf rfl rfl (f_move rfl) ?_
      refine wl_gf rfl rfl (f_neq rfl rfl) ?_
      refine wl_gf rfl rfl (f_neqb rfl rfl Try.underlying4) ?_
      exact wl_pend rfl rfl ⟨rfl, rfl, rfl, trivial⟩ (List.Sublist.refl _)
    refine wl_end [(19, _), (20, _), (21, _), (44, _)] ⟨rfl, rfl, rfl, rfl, trivial⟩ ?_
    refine w_ifb rfl (fun h => absurd h (by
      rw [hp]
      by_cases h' : x < 1 ∨ 64 < x
      · rw [if_pos h'] at hx1; subst hx1; simp [h']
      · rw [if_neg h'] at hx1; subst hx1; simp [h'])) (fun _ => ?_)
    refine w_skip ?_
    refine w_reg ?_
    refine wl_f (f_add rfl rfl (by omega)) ?_
    refine wl_f (f_move rfl) ?_
    refine wl_end [(19, _), (20, _), (21, _)] ⟨rfl, rfl, rfl, trivial⟩ ?_
    exact ⟨k - 1, by omega, i + 1, rfl, rfl, by omega⟩
  · skip
    refine w_drop [] (List.nil_sublist _) ?_
    refine w_exit0 ?_
    refine w_seq ?_
    refine w_reg ?_
    refine wl_f (f_assign rfl) ?_
    refine wl_end [(9, _)] ⟨rfl, trivial⟩ ?_
    refine w_seq ?_
    refine w_reg ?_
    refine wl_f (f_move rfl) ?_
    refine wl_e (e_call0 rfl Try.func12 (by kernel_rfl) (fun w hh => frget_nil _ w)) ?_
    rintro _ _ w4 ⟨_, rfl, rfl, rfl⟩
    refine wl_f (f_move rfl) ?_
    refine wl_f (f_extract rfl rfl) ?_
    refine wl_f (f_extract rfl rfl) ?_
    refine wl_e (e_allocs [.string ByteArray.empty, .int .u64 0, .int .u64 0] (by kernel_rfl)) ?_
    rintro _ _ w10_5 ⟨b10_5, rfl, rfl⟩
    (first | refine wl_e0 (e_store0 (us := [_, _, _]) rfl rfl rfl (by kernel_rfl) (by simp [Value.oneCell']) rfl rfl) ?_ | refine wl_e0 (e_store1 (us := [_, _, _]) rfl rfl rfl (by kernel_rfl) (by simp [Value.oneCell']) rfl rfl) ?_ | refine wl_e0 (e_store2 (us := [_, _, _]) rfl rfl rfl (by kernel_rfl) (by simp [Value.oneCell']) rfl rfl) ?_ | refine wl_e0 (e_store3 (us := [_, _, _]) rfl rfl rfl (by kernel_rfl) (by simp [Value.oneCell']) rfl rfl) ?_)
    rintro _ _ w10_6 rfl
    refine wl_f (f_assign rfl) ?_
    refine wl_pick [] rfl ?_
    refine wl_end [(9, _), (11, _)] ⟨rfl, rfl, trivial⟩ ?_
    refine w_seq ?_
    refine w_reg ?_
    refine wl_f (f_move rfl) ?_
    refine wl_e (e_call0 rfl Try.func18 (by kernel_rfl) (fun w hh => frtake_nil _ w)) ?_
    rintro _ _ w5 ⟨_, rfl, rfl⟩
    refine wl_drop _ (List.sublist_append_right _ _) ?_
    refine wl_f (f_move rfl) ?_
    refine wl_f (f_extract rfl rfl) ?_
    refine wl_f (f_extract rfl rfl) ?_
    refine wl_e (e_allocs [.string ByteArray.empty, .int .u64 0, .int .u64 0] (by kernel_rfl)) ?_
    rintro _ _ w11_5 ⟨b11_5, rfl, rfl⟩
    (first | refine wl_e0 (e_store0 (us := [_, _, _]) rfl rfl rfl (by kernel_rfl) (by simp [Value.oneCell']) rfl rfl) ?_ | refine wl_e0 (e_store1 (us := [_, _, _]) rfl rfl rfl (by kernel_rfl) (by simp [Value.oneCell']) rfl rfl) ?_ | refine wl_e0 (e_store2 (us := [_, _, _]) rfl rfl rfl (by kernel_rfl) (by simp [Value.oneCell']) rfl rfl) ?_ | refine wl_e0 (e_store3 (us := [_, _, _]) rfl rfl rfl (by kernel_rfl) (by simp [Value.oneCell']) rfl rfl) ?_)
    rintro _ _ w11_6 rfl
    refine wl_f (f_assign rfl) ?_
    refine wl_pick [] rfl ?_
    refine wl_end [(9, _), (11, _), (13, _)] ⟨rfl, rfl, rfl, trivial⟩ ?_
    refine w_seq ?_
    refine w_reg ?_
    refine wl_f (f_move rfl) ?_
    refine wl_f (f_build rfl (fun w => build_entryk _ w)) ?_
    refine wl_e (e_call0 rfl Try.func19 (by kernel_rfl) (fun w hh => frswap_nil _ _ _ _ w)) ?_
    rintro _ _ w6 ⟨_, rfl, rfl⟩
    refine wl_drop _ (List.sublist_append_right _ _) ?_
    refine wl_f (f_move rfl) ?_
    refine wl_f (f_extract rfl rfl) ?_
    refine wl_f (f_extract rfl rfl) ?_
    refine wl_e (e_allocs [.string ByteArray.empty, .int .u64 0, .int .u64 0] (by kernel_rfl)) ?_
    rintro _ _ w12_6 ⟨b12_6, rfl, rfl⟩
    (first | refine wl_e0 (e_store0 (us := [_, _, _]) rfl rfl rfl (by kernel_rfl) (by simp [Value.oneCell']) rfl rfl) ?_ | refine wl_e0 (e_store1 (us := [_, _, _]) rfl rfl rfl (by kernel_rfl) (by simp [Value.oneCell']) rfl rfl) ?_ | refine wl_e0 (e_store2 (us := [_, _, _]) rfl rfl rfl (by kernel_rfl) (by simp [Value.oneCell']) rfl rfl) ?_ | refine wl_e0 (e_store3 (us := [_, _, _]) rfl rfl rfl (by kernel_rfl) (by simp [Value.oneCell']) rfl rfl) ?_)
    rintro _ _ w12_7 rfl
    refine wl_f (f_assign rfl) ?_
    refine wl_pick [] rfl ?_
    refine wl_end [(9, _), (11, _), (13, _), (15, _)] ⟨rfl, rfl, rfl, rfl, trivial⟩ ?_
    refine w_seq ?_
    refine w_reg ?_
    refine wl_f (f_move rfl) ?_
    refine wl_e (e_call0 rfl Try.func11 (by kernel_rfl) (fun w hh => fradd_nil _ _ w)) ?_
    rintro _ _ w7 ⟨_, rfl, rfl, rfl⟩
    refine wl_f (f_eql rfl rfl) ?_
    refine wl_f (f_move rfl) ?_
    refine wl_and (j := 3) (c := true) 2 [(9, _), (13, _), (15, _)] ⟨rfl, rfl, rfl, trivial⟩ rfl rfl rfl rfl rfl (fun hg13_6 => ?_) (fun w13_6 => ?_)
    · skip
      refine wl_gf rfl rfl (f_move rfl) ?_
      refine wl_gf rfl rfl (f_not rfl rfl) ?_
      exact wl_pend rfl rfl ⟨rfl, rfl, rfl, trivial⟩ (List.Sublist.refl _)
    refine wl_f (f_move rfl) ?_
    refine wl_and (j := 7) (c := true) 2 [(9, _), (15, _)] ⟨rfl, rfl, trivial⟩ rfl rfl rfl rfl rfl (fun hg13_10 => ?_) (fun w13_10 => ?_)
    · skip
      refine wl_gf rfl rfl (f_move rfl) ?_
      refine wl_gf rfl rfl (f_not rfl rfl) ?_
      exact wl_pend rfl rfl ⟨rfl, rfl, trivial⟩ (List.Sublist.refl _)
    refine wl_f (f_move rfl) ?_
    refine wl_and (j := 11) (c := true) 2 [(9, _)] ⟨rfl, trivial⟩ rfl rfl rfl rfl rfl (fun hg13_14 => ?_) (fun w13_14 => ?_)
    · skip
      refine wl_gf rfl rfl (f_move rfl) ?_
      refine wl_gf rfl rfl (f_eql rfl rfl) ?_
      exact wl_pend rfl rfl ⟨rfl, trivial⟩ (List.Sublist.refl _)
    refine wl_f (f_move rfl) ?_
    refine wl_and (j := 15) (c := true) 3 [(9, _)] ⟨rfl, trivial⟩ rfl rfl rfl rfl rfl (fun hg13_19 => ?_) (fun w13_19 => ?_)
    · skip
      refine wl_gf rfl rfl (f_move rfl) ?_
      refine wl_ge rfl rfl (e_call0 rfl Try.func13 (by kernel_rfl) (fun w hh => fruntracked_nil w)) ?_
      rintro _ _ w8 ⟨_, rfl, rfl, rfl⟩
      refine wl_gf rfl rfl (f_eql rfl rfl) ?_
      exact wl_pend rfl rfl ⟨rfl, trivial⟩ (List.Sublist.refl _)
    refine wl_f (f_move rfl) ?_
    refine wl_and (j := 20) (c := true) 3 [(9, _)] ⟨rfl, trivial⟩ rfl rfl rfl rfl rfl (fun hg13_24 => ?_) (fun w13_24 => ?_)
    · skip
      refine wl_gf rfl rfl (f_move rfl) ?_
      refine wl_ge rfl rfl (e_call0 rfl Try.func15 (by kernel_rfl) (fun w hh => frtotal_nil w)) ?_
      rintro _ _ w9 ⟨_, rfl, rfl, rfl⟩
      refine wl_gf rfl rfl (f_eql rfl rfl) ?_
      exact wl_pend rfl rfl ⟨rfl, trivial⟩ (List.Sublist.refl _)
    refine wl_f (f_move rfl) ?_
    refine wl_and (j := 25) (c := true) 3 [(9, _)] ⟨rfl, trivial⟩ rfl rfl rfl rfl rfl (fun hg13_29 => ?_) (fun w13_29 => ?_)
    · skip
      refine wl_gf rfl rfl (f_move rfl) ?_
      refine wl_ge rfl rfl (e_call0 rfl Try.func20 (by kernel_rfl) (fun w hh => frlen_nil w)) ?_
      rintro _ _ w10 ⟨_, rfl, rfl, rfl⟩
      refine wl_gf rfl rfl (f_eql rfl rfl) ?_
      exact wl_pend rfl rfl ⟨rfl, trivial⟩ (List.Sublist.refl _)
    refine wl_f (f_move rfl) ?_
    refine wl_and (j := 30) (c := true) 4 [] trivial rfl rfl rfl rfl rfl (fun hg13_35 => ?_) (fun w13_35 => ?_)
    · skip
      refine wl_gf rfl rfl (f_move rfl) ?_
      refine wl_ge rfl rfl (e_call0 rfl Try.func14 (by kernel_rfl) (fun w hh => frentries_nil w)) ?_
      rintro _ _ w11 ⟨_, rfl, rfl⟩
      refine wl_gf rfl rfl (f_len rfl Try.underlying40) ?_
      refine wl_gf rfl rfl (f_eql rfl rfl) ?_
      exact wl_pend rfl rfl trivial (List.sublist_append_right _ _)
    refine wl_f (f_move rfl) ?_
    refine wl_and (j := 36) (c := true) 1 [] trivial rfl rfl rfl rfl rfl (fun hg13_38 => ?_) (fun w13_38 => ?_)
    · skip
      refine wl_ge rfl rfl (e_call0 rfl Try.func16 (by kernel_rfl) (fun w hh => awake14_spec w)) ?_
      rintro _ _ w15 ⟨_, rfl, rfl⟩
      exact wl_pend rfl rfl trivial (List.sublist_append_right _ _)
    refine wl_f (f_assign rfl) ?_
    refine wl_end [(2, _)] ⟨rfl, trivial⟩ ?_
    refine w_ret ?_
    refine ⟨_, _, fun a ha hh => results_tmps Try.results5 rfl a ha _, List.Sublist.refl _, ?_⟩
    rfl
end Go.Proofs.Ytkoklfagmbaapaa
