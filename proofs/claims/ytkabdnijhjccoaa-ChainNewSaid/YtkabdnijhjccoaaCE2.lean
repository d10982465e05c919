/- The law ChainNew: the call returns true. -/
import Derived.Test.YtkabdnijhjccoaaCB
import Derived.Test.YtkabdnijhjccoaaCR
namespace Go.Proofs.Ytkabdnijhjccoaa
open Go.RowKit

theorem new_both {k : Int} {K : VK Int} {u1 u2 : Value} {H1 H2 : List Res}
    (h1 : ((k < 1 ∨ 8192 < k) ∧ u1 = .tuple #[.pointer .none, .int .i64 1] ∧ H1 = []) ∨ ∃ (k' b : Nat) (r' : Res), k = k' ∧ 1 ≤ k' ∧ k' ≤ 8192 ∧ u1 = .tuple #[.pointer (some ⟨b, 0, .none⟩), .int .i64 0] ∧ H1 = [r'] ∧ ChR K b k' [] r')
    (h2 : ((k < 1 ∨ 8192 < k) ∧ u2 = .tuple #[.pointer .none, .int .i64 1] ∧ H2 = []) ∨ ∃ (k' q : Nat) (r' : Res), k = k' ∧ 1 ≤ k' ∧ k' ≤ 8192 ∧ u2 = .tuple #[.pointer (some ⟨q, 0, .none⟩), .int .i64 0] ∧ H2 = [r'] ∧ RefR q k' [] r') :
    ∃ (p p2 : Option Addr) (e : Int), u1 = .tuple [.pointer p, .int .i64 e].toArray ∧ u2 = .tuple [.pointer p2, .int .i64 e].toArray ∧ p.isNone = decide (e ≠ 0) := by
  rcases h1 with ⟨_, rfl, _⟩ | ⟨k1, b, r1, hk, _, _, rfl, _⟩
  · rcases h2 with ⟨_, rfl, _⟩ | ⟨k2, q, r2, hk2, _, _, rfl, _⟩
    · exact ⟨_, _, _, rfl, rfl, rfl⟩
    · omega
  · rcases h2 with ⟨_, rfl, _⟩ | ⟨k2, q, r2, hk2, _, _, rfl, _⟩
    · omega
    · exact ⟨_, _, _, rfl, rfl, rfl⟩

set_option maxHeartbeats 2000000 in
theorem chainNew_spec (n : Int) (w : World) : Spec Try.prog 4 [.int .i64 n] w Nil fun r _ => r = .bool true := by
  refine enter (n := 127) Try.func4 rfl rfl [(0, _)] rfl ⟨rfl, trivial⟩ (Holds.start _ _) ?_
  refine w_seq ?_
  refine w_reg ?_
  refine wl_f (f_assign rfl) ?_
  refine wl_end [(0, _)] ⟨rfl, trivial⟩ ?_
  refine w_seq ?_
  refine w_seq ?_
  refine w_reg ?_
  refine wl_f (f_move rfl) ?_
  refine wl_f (f_move rfl) ?_
  refine wl_f (f_and rfl rfl rfl) ?_
  refine wl_e (e_litrow (e := 3) (sz := 1) rfl (fun w => lit_i3 _ _ _ w) rfl (by decide)) ?_
  rintro _ _ w1_3 ⟨b1_3, rfl, rfl⟩
  refine wl_f (f_len rfl Try.underlying33) ?_
  refine wl_f (f_move rfl) ?_
  refine wl_end [(23, _), (24, _), (25, _)] ⟨rfl, rfl, rfl, trivial⟩ ?_
  refine w_block ?_
  generalize bits .and .i64 n 255 = z
  generalize hks : ([n, z, 8193] : List Int) = ks
  have hkl : ks.length = 3 := by rw [← hks]; rfl
  refine w_loop (fun k m H w' => ∃ i : Nat, m = [(23, .slice (some ⟨b1_3, 0, .none⟩) 3 3), (24, .int .i64 3), (25, .int .i64 i)] ∧ H = [row (.slice (some ⟨b1_3, 0, .none⟩) 3 3) 3 1 3 (iv ks)] ∧ k + i = 3) 3 ⟨0, rfl, rfl, rfl⟩ ?_
  rintro k _ _ w1 ⟨i, rfl, rfl, hk⟩
  refine w_seq ?_
  refine w_reg ?_
  refine wl_f (f_lss rfl rfl) ?_
  refine wl_end [(23, _), (24, _), (25, _), (26, _)] ⟨rfl, rfl, rfl, rfl, trivial⟩ ?_
  refine w_seq ?_
  refine w_ifd rfl (fun hc1 => ?_) (fun hc1 => ?_)
  · skip
    obtain ⟨x, hx⟩ : ∃ x, ks[i]? = some x := ⟨ks[i]'(by omega), List.getElem?_eq_getElem (by omega)⟩
    refine w_skip ?_
    refine w_seq ?_
    refine w_block ?_
    refine w_seq ?_
    refine w_reg ?_
    refine wl_f (f_indexAddr 1 rfl rfl Try.underlying33 (by kernel_rfl) rfl (by omega)) ?_
    refine wl_f (f_loadr (v := .int .i64 x) 0 rfl Try.underlying3 rfl rfl (map_get (Value.int .i64) hx)) ?_
    refine wl_f (f_assign rfl) ?_
    refine wl_end [(4, _), (23, _), (24, _), (25, _)] ⟨rfl, rfl, rfl, rfl, trivial⟩ ?_
    refine w_seq ?_
    refine w_reg ?_
    refine wl_f (f_move rfl) ?_
    refine wl_e (e_call0 rfl Try.func17 (by kernel_rfl) (fun w hh => inew_spec x w)) ?_
    rintro u1 _ w2 ⟨H1, rfl, hH1⟩
    refine wl_drop _ (List.sublist_append_right _ _) ?_
    obtain ⟨p0, e0, rfl⟩ : ∃ p0 e0, u1 = .tuple [.pointer p0, .int .i64 e0].toArray := by
      rcases hH1 with ⟨_, rfl, _⟩ | ⟨k1, b, r1, hk, _, _, rfl, _⟩
      · exact ⟨_, _, rfl⟩
      · exact ⟨_, _, rfl⟩
    refine wl_f (f_move rfl) ?_
    refine wl_f (f_extract rfl rfl) ?_
    refine wl_f (f_extract rfl rfl) ?_
    refine wl_f (f_assign rfl) ?_
    refine wl_f (f_assign rfl) ?_
    refine wl_end [(4, _), (5, _), (6, _), (23, _), (24, _), (25, _)] ⟨rfl, rfl, rfl, rfl, rfl, rfl, trivial⟩ ?_
    refine w_seq ?_
    refine w_reg ?_
    refine wl_f (f_move rfl) ?_
    refine wl_e (e_call0 rfl Try.func18 (by kernel_rfl) (fun w hh => rnew_spec x w)) ?_
    rintro u2 _ w3 ⟨H2, rfl, hH2⟩
    refine wl_drop _ (List.sublist_append_right _ _) ?_
    obtain ⟨p, p2, e, hu1, rfl, hpe⟩ := new_both hH1 hH2
    clear hH1 hH2
    obtain ⟨rfl, rfl⟩ : p0 = p ∧ e0 = e := by simpa using hu1
    refine wl_f (f_move rfl) ?_
    refine wl_f (f_extract rfl rfl) ?_
    refine wl_f (f_extract rfl rfl) ?_
    refine wl_f (f_assign rfl) ?_
    refine wl_f (f_assign rfl) ?_
    refine wl_end [(5, _), (6, _), (8, _), (23, _), (24, _), (25, _)] ⟨rfl, rfl, rfl, rfl, rfl, rfl, trivial⟩ ?_
    refine w_seq ?_
    refine w_reg ?_
    refine wl_f (f_move rfl) ?_
    refine wl_f (f_move rfl) ?_
    refine wl_f (f_neq rfl rfl) ?_
    refine wl_f (f_move rfl) ?_
    refine wl_or (j := 3) (c := (p0.isNone != decide (e0 ≠ 0))) 5 [(23, _), (24, _), (25, _)] ⟨rfl, rfl, rfl, trivial⟩ rfl rfl rfl rfl rfl (fun hg6_9 => ?_) (fun w6_9 => ?_)
    · skip
      refine wl_gf rfl rfl (f_move rfl) ?_
      refine wl_gf rfl rfl (f_eqlnil rfl rfl Try.underlying34) ?_
      refine wl_gf rfl rfl (f_move rfl) ?_
      refine wl_gf rfl rfl (f_neq rfl rfl) ?_
      refine wl_gf rfl rfl (f_neqb rfl rfl Try.underlying4) ?_
      exact wl_pend rfl rfl ⟨rfl, rfl, rfl, trivial⟩ (List.Sublist.refl _)
    refine wl_end [(23, _), (24, _), (25, _), (48, _)] ⟨rfl, rfl, rfl, rfl, trivial⟩ ?_
    refine w_ifb rfl (fun h => absurd h (by simp [hpe])) (fun _ => ?_)
    refine w_skip ?_
    refine w_reg ?_
    refine wl_f (f_add rfl rfl (by omega)) ?_
    refine wl_f (f_move rfl) ?_
    refine wl_end [(23, _), (24, _), (25, _)] ⟨rfl, rfl, rfl, trivial⟩ ?_
    exact ⟨k - 1, by omega, i + 1, rfl, rfl, by omega⟩
  · skip
    refine w_drop [] (List.nil_sublist _) ?_
    refine w_exit0 ?_
    refine w_seq ?_
    refine w_reg ?_
    refine wl_f (f_assign rfl) ?_
    refine wl_end [(9, _)] ⟨rfl, trivial⟩ ?_
    refine w_seq ?_
    refine w_reg ?_
    refine wl_f (f_move rfl) ?_
    refine wl_e (e_call0 rfl Try.func13 (by kernel_rfl) (fun w hh => spushBack_nil _ w)) ?_
    rintro _ _ w4 ⟨_, rfl, rfl, rfl⟩
    refine wl_f (f_move rfl) ?_
    refine wl_f (f_extract rfl rfl) ?_
    refine wl_f (f_extract rfl rfl) ?_
    refine wl_f (f_assign rfl) ?_
    refine wl_f (f_assign rfl) ?_
    refine wl_end [(9, _), (11, _)] ⟨rfl, rfl, trivial⟩ ?_
    refine w_seq ?_
    refine w_reg ?_
    refine wl_f (f_move rfl) ?_
    refine wl_e (e_call0 rfl Try.func19 (by kernel_rfl) (fun w hh => spushFront_nil _ w)) ?_
    rintro _ _ w5 ⟨_, rfl, rfl, rfl⟩
    refine wl_f (f_move rfl) ?_
    refine wl_f (f_extract rfl rfl) ?_
    refine wl_f (f_extract rfl rfl) ?_
    refine wl_f (f_assign rfl) ?_
    refine wl_f (f_assign rfl) ?_
    refine wl_end [(9, _), (11, _), (13, _)] ⟨rfl, rfl, rfl, trivial⟩ ?_
    refine w_seq ?_
    refine w_reg ?_
    refine wl_f (f_move rfl) ?_
    refine wl_e (e_call0 rfl Try.func20 (by kernel_rfl) (fun w hh => sInsertAfter_nil _ _ w)) ?_
    rintro _ _ w6 ⟨_, rfl, rfl, rfl⟩
    refine wl_f (f_move rfl) ?_
    refine wl_f (f_extract rfl rfl) ?_
    refine wl_f (f_extract rfl rfl) ?_
    refine wl_f (f_assign rfl) ?_
    refine wl_f (f_assign rfl) ?_
    refine wl_end [(9, _), (11, _), (13, _), (15, _)] ⟨rfl, rfl, rfl, rfl, trivial⟩ ?_
    refine w_seq ?_
    refine w_reg ?_
    refine wl_f (f_move rfl) ?_
    refine wl_e (e_call0 rfl Try.func21 (by kernel_rfl) (fun w hh => sRemove_nil _ w)) ?_
    rintro _ _ w7 ⟨_, rfl, rfl, rfl⟩
    refine wl_f (f_move rfl) ?_
    refine wl_f (f_extract rfl rfl) ?_
    refine wl_f (f_extract rfl rfl) ?_
    refine wl_f (f_assign rfl) ?_
    refine wl_f (f_assign rfl) ?_
    refine wl_end [(9, _), (11, _), (13, _), (15, _), (17, _)] ⟨rfl, rfl, rfl, rfl, rfl, trivial⟩ ?_
    refine w_seq ?_
    refine w_reg ?_
    refine wl_f (f_move rfl) ?_
    refine wl_e (e_call0 rfl Try.func22 (by kernel_rfl) (fun w hh => sValue_nil _ w)) ?_
    rintro _ _ w8 ⟨_, rfl, rfl, rfl⟩
    refine wl_f (f_move rfl) ?_
    refine wl_f (f_extract rfl rfl) ?_
    refine wl_f (f_extract rfl rfl) ?_
    refine wl_f (f_assign rfl) ?_
    refine wl_f (f_assign rfl) ?_
    refine wl_end [(9, _), (11, _), (13, _), (15, _), (17, _), (19, _)] ⟨rfl, rfl, rfl, rfl, rfl, rfl, trivial⟩ ?_
    refine w_seq ?_
    refine w_reg ?_
    refine wl_f (f_move rfl) ?_
    refine wl_f (f_eql rfl rfl) ?_
    refine wl_f (f_move rfl) ?_
    refine wl_and (j := 2) (c := true) 2 [(9, _), (15, _), (17, _), (19, _)] ⟨rfl, rfl, rfl, rfl, trivial⟩ rfl rfl rfl rfl rfl (fun hg15_5 => ?_) (fun w15_5 => ?_)
    · skip
      refine wl_gf rfl rfl (f_move rfl) ?_
      refine wl_gf rfl rfl (f_eql rfl rfl) ?_
      exact wl_pend rfl rfl ⟨rfl, rfl, rfl, rfl, trivial⟩ (List.Sublist.refl _)
    refine wl_f (f_move rfl) ?_
    refine wl_and (j := 6) (c := true) 2 [(9, _), (17, _), (19, _)] ⟨rfl, rfl, rfl, trivial⟩ rfl rfl rfl rfl rfl (fun hg15_9 => ?_) (fun w15_9 => ?_)
    · skip
      refine wl_gf rfl rfl (f_move rfl) ?_
      refine wl_gf rfl rfl (f_eql rfl rfl) ?_
      exact wl_pend rfl rfl ⟨rfl, rfl, rfl, trivial⟩ (List.Sublist.refl _)
    refine wl_f (f_move rfl) ?_
    refine wl_and (j := 10) (c := true) 2 [(9, _), (19, _)] ⟨rfl, rfl, trivial⟩ rfl rfl rfl rfl rfl (fun hg15_13 => ?_) (fun w15_13 => ?_)
    · skip
      refine wl_gf rfl rfl (f_move rfl) ?_
      refine wl_gf rfl rfl (f_eql rfl rfl) ?_
      exact wl_pend rfl rfl ⟨rfl, rfl, trivial⟩ (List.Sublist.refl _)
    refine wl_f (f_move rfl) ?_
    refine wl_and (j := 14) (c := true) 2 [(9, _)] ⟨rfl, trivial⟩ rfl rfl rfl rfl rfl (fun hg15_17 => ?_) (fun w15_17 => ?_)
    · skip
      refine wl_gf rfl rfl (f_move rfl) ?_
      refine wl_gf rfl rfl (f_eql rfl rfl) ?_
      exact wl_pend rfl rfl ⟨rfl, trivial⟩ (List.Sublist.refl _)
    refine wl_f (f_move rfl) ?_
    refine wl_and (j := 18) (c := true) 3 [(9, _)] ⟨rfl, trivial⟩ rfl rfl rfl rfl rfl (fun hg15_22 => ?_) (fun w15_22 => ?_)
    · skip
      refine wl_gf rfl rfl (f_move rfl) ?_
      refine wl_ge rfl rfl (e_call0 rfl Try.func23 (by kernel_rfl) (fun w hh => sNext_nil _ w)) ?_
      rintro _ _ w9 ⟨_, rfl, rfl, rfl⟩
      refine wl_gf rfl rfl (f_eql rfl rfl) ?_
      exact wl_pend rfl rfl ⟨rfl, trivial⟩ (List.Sublist.refl _)
    refine wl_f (f_move rfl) ?_
    refine wl_and (j := 23) (c := true) 3 [(9, _)] ⟨rfl, trivial⟩ rfl rfl rfl rfl rfl (fun hg15_27 => ?_) (fun w15_27 => ?_)
    · skip
      refine wl_gf rfl rfl (f_move rfl) ?_
      refine wl_ge rfl rfl (e_call0 rfl Try.func24 (by kernel_rfl) (fun w hh => sPrev_nil _ w)) ?_
      rintro _ _ w10 ⟨_, rfl, rfl, rfl⟩
      refine wl_gf rfl rfl (f_eql rfl rfl) ?_
      exact wl_pend rfl rfl ⟨rfl, trivial⟩ (List.Sublist.refl _)
    refine wl_f (f_move rfl) ?_
    refine wl_and (j := 28) (c := true) 3 [(9, _)] ⟨rfl, trivial⟩ rfl rfl rfl rfl rfl (fun hg15_32 => ?_) (fun w15_32 => ?_)
    · skip
      refine wl_gf rfl rfl (f_move rfl) ?_
      refine wl_ge rfl rfl (e_call0 rfl Try.func25 (by kernel_rfl) (fun w hh => sfirst_nil w)) ?_
      rintro _ _ w11 ⟨_, rfl, rfl, rfl⟩
      refine wl_gf rfl rfl (f_eql rfl rfl) ?_
      exact wl_pend rfl rfl ⟨rfl, trivial⟩ (List.Sublist.refl _)
    refine wl_f (f_move rfl) ?_
    refine wl_and (j := 33) (c := true) 3 [(9, _)] ⟨rfl, trivial⟩ rfl rfl rfl rfl rfl (fun hg15_37 => ?_) (fun w15_37 => ?_)
    · skip
      refine wl_gf rfl rfl (f_move rfl) ?_
      refine wl_ge rfl rfl (e_call0 rfl Try.func26 (by kernel_rfl) (fun w hh => slast_nil w)) ?_
      rintro _ _ w12 ⟨_, rfl, rfl, rfl⟩
      refine wl_gf rfl rfl (f_eql rfl rfl) ?_
      exact wl_pend rfl rfl ⟨rfl, trivial⟩ (List.Sublist.refl _)
    refine wl_f (f_move rfl) ?_
    refine wl_and (j := 38) (c := true) 3 [(9, _)] ⟨rfl, trivial⟩ rfl rfl rfl rfl rfl (fun hg15_42 => ?_) (fun w15_42 => ?_)
    · skip
      refine wl_gf rfl rfl (f_move rfl) ?_
      refine wl_ge rfl rfl (e_call0 rfl Try.func27 (by kernel_rfl) (fun w hh => slen_nil w)) ?_
      rintro _ _ w13 ⟨_, rfl, rfl, rfl⟩
      refine wl_gf rfl rfl (f_eql rfl rfl) ?_
      exact wl_pend rfl rfl ⟨rfl, trivial⟩ (List.Sublist.refl _)
    refine wl_f (f_move rfl) ?_
    refine wl_and (j := 43) (c := true) 4 [] trivial rfl rfl rfl rfl rfl (fun hg15_48 => ?_) (fun w15_48 => ?_)
    · skip
      refine wl_gf rfl rfl (f_move rfl) ?_
      refine wl_ge rfl rfl (e_call0 rfl Try.func15 (by kernel_rfl) (fun w hh => sValues_nil w)) ?_
      rintro _ _ w14 ⟨_, rfl, rfl, rfl⟩
      refine wl_gf rfl rfl (f_len rfl Try.underlying22) ?_
      refine wl_gf rfl rfl (f_eql rfl rfl) ?_
      exact wl_pend rfl rfl trivial (List.Sublist.refl _)
    refine wl_f (f_move rfl) ?_
    refine wl_and (j := 49) (c := true) 1 [] trivial rfl rfl rfl rfl rfl (fun hg15_51 => ?_) (fun w15_51 => ?_)
    · skip
      refine wl_ge rfl rfl (e_call0 rfl Try.func16 (by kernel_rfl) (fun w hh => awake11_spec w)) ?_
      rintro _ _ w15 ⟨_, rfl, rfl⟩
      exact wl_pend rfl rfl trivial (List.sublist_append_right _ _)
    refine wl_f (f_assign rfl) ?_
    refine wl_end [(2, _)] ⟨rfl, trivial⟩ ?_
    refine w_ret ?_
    refine ⟨_, _, fun a ha hh => results_tmps Try.results4 rfl a ha _, List.Sublist.refl _, ?_⟩
    rfl
end Go.Proofs.Ytkabdnijhjccoaa
