/- The law IndexNew: the call returns true. -/
import Derived.Test.YtmppbpajncpjnaaIR1
namespace Go.Proofs.Ytmppbpajncpjnaa
open Go.RowKit

theorem lit_i3 (a b c : Int) (w : World) : (Instr.buildSlice 23 3 [(0, .int .i64 a), (1, .int .i64 b), (2, .int .i64 c)].toArray).run Try.prog w =
    .ok (.slice (some ⟨w.heap.size, 0, .none⟩) 3 3) (w.alloc (.cells (iv [a, b, c]).toArray 3)) := by kernel_rfl
set_option maxHeartbeats 4000000 in
theorem indexNew_spec (n : Int) (A : Option Addr) (c : Nat) (T0 : List Nat) (A2 : Option Addr) (c2 : Nat) (L : List Int) (w : World)
    (h1 : Rd w Nil 1 (.slice A T0.length c) T0.length (u64v T0)) (h2 : Rd w Nil 1 (.slice A2 L.length c2) L.length (iv L)) (hL : L.length ≤ 140737488355328) :
    Spec Try.prog 5 [.int .i64 n, .slice A T0.length c, .slice A2 L.length c2] w Nil fun r _ => r = .bool true := by
  refine enter (n := 129) Try.func5 rfl rfl [(0, _), (1, _), (2, _)] rfl ⟨rfl, rfl, rfl, trivial⟩ (Holds.start _ _) ?_
  refine w_seq ?_
  refine w_reg ?_
  refine wl_f (f_assign rfl) ?_
  refine wl_end [(0, _), (1, _), (2, _)] ⟨rfl, rfl, rfl, trivial⟩ ?_
  refine w_seq ?_
  refine w_seq ?_
  refine w_reg ?_
  refine wl_f (f_move rfl) ?_
  refine wl_f (f_len rfl Try.underlying28) ?_
  refine wl_f (f_gtr rfl rfl) ?_
  refine wl_end [(0, _), (1, _), (2, _), (25, _)] ⟨rfl, rfl, rfl, rfl, trivial⟩ ?_
  refine w_ifd rfl (fun hc1 => ?_) (fun hc1 => ?_)
  · skip
    refine w_seq ?_
    refine w_reg ?_
    refine wl_e (e_call0 rfl Try.func14 (by kernel_rfl) (fun w hh => awake10_spec w)) ?_
    rintro _ _ w1 ⟨_, rfl, rfl⟩
    refine wl_f (f_assign rfl) ?_
    refine wl_end [(6, _)] ⟨rfl, trivial⟩ ?_
    refine w_ret ?_
    refine ⟨_, _, fun a ha hh => results_tmps Try.results5 rfl a ha _, List.Sublist.refl _, ?_⟩
    rfl
  · skip
    refine w_skip ?_
    refine w_seq ?_
    refine w_reg ?_
    refine wl_f (f_move rfl) ?_
    refine wl_e (e_call0 rfl Try.func8 (by kernel_rfl) (fun w hh => new_spec A2 L.length c2 w)) ?_
    rintro _ _ w1 ⟨_, rfl, bd, rfl, rfl⟩
    refine wl_e (e_call1 (deck bd (.slice A2 L.length c2) 0) [] rfl Try.func9 (by kernel_rfl) (List.Perm.refl _) (fun w hh hs' => table_spec bd _ L 0 w ⟨h2.old1 hh (Hr := []) (List.Perm.refl _), hL, Nat.zero_le _⟩ hs')) ?_
    rintro _ _ w2 ⟨_, rfl, T, p', A3, c3, rfl, hT, hTb, rfl, hp'⟩
    refine wl_f (f_assign rfl) ?_
    refine wl_pick [0] rfl ?_
    refine wl_end [(0, _), (1, _), (7, _)] ⟨rfl, rfl, rfl, trivial⟩ ?_
    refine w_seq ?_
    refine w_seq ?_
    refine w_reg ?_
    refine wl_f (f_move rfl) ?_
    refine wl_f (f_move rfl) ?_
    refine wl_f (f_and rfl rfl rfl) ?_
    refine wl_e (e_litrow (e := 3) (sz := 1) rfl (fun w => lit_i3 _ _ _ w) rfl (by decide)) ?_
    rintro _ _ w4_3 ⟨b4_3, rfl, rfl⟩
    refine wl_f (f_len rfl Try.underlying23) ?_
    refine wl_f (f_move rfl) ?_
    refine wl_end [(1, _), (7, _), (33, _), (34, _), (35, _)] ⟨rfl, rfl, rfl, rfl, rfl, trivial⟩ ?_
    refine w_block ?_
    generalize bits .and .i64 n 255 = z
    generalize hks : ([n, z, 8193] : List Int) = ks
    have hkl : ks.length = 3 := by rw [← hks]; rfl
    refine w_loop (fun k m H w' => ∃ i : Nat, m = [(1, .slice A T0.length c), (7, .slice A3 16 c3), (33, .slice (some ⟨b4_3, 0, .none⟩) 3 3), (34, .int .i64 3), (35, .int .i64 i)] ∧ H = [row (.slice (some ⟨b4_3, 0, .none⟩) 3 3) 3 1 3 (iv ks), row (.slice A3 16 c3) 32 1 16 (u64v T)] ∧ k + i = 3) 3 ⟨0, rfl, rfl, rfl⟩ ?_
    rintro k _ _ w3 ⟨i, rfl, rfl, hk⟩
    refine w_seq ?_
    refine w_reg ?_
    refine wl_f (f_lss rfl rfl) ?_
    refine wl_end [(1, _), (7, _), (33, _), (34, _), (35, _), (36, _)] ⟨rfl, rfl, rfl, rfl, rfl, rfl, trivial⟩ ?_
    refine w_seq ?_
    refine w_ifd rfl (fun hc2 => ?_) (fun hc2 => ?_)
    · skip
      obtain ⟨x, hx⟩ : ∃ x, ks[i]? = some x := ⟨ks[i]'(by omega), List.getElem?_eq_getElem (by omega)⟩
      refine w_skip ?_
      refine w_seq ?_
      refine w_block ?_
      refine w_seq ?_
      refine w_reg ?_
      refine wl_f (f_indexAddr 1 rfl rfl Try.underlying23 (by kernel_rfl) rfl (by omega)) ?_
      refine wl_f (f_loadr (v := .int .i64 x) 0 rfl Try.underlying3 rfl rfl (map_get (Value.int .i64) hx)) ?_
      refine wl_f (f_assign rfl) ?_
      refine wl_end [(1, _), (7, _), (9, _), (33, _), (34, _), (35, _)] ⟨rfl, rfl, rfl, rfl, rfl, rfl, trivial⟩ ?_
      refine w_seq ?_
      refine w_reg ?_
      refine wl_f (f_move rfl) ?_
      refine wl_f (f_move rfl) ?_
      refine wl_e (e_call0 rfl Try.func16 (by kernel_rfl) (fun w hh => ixnew_form x T0 A T0.length c 1 w rfl (h1.old0 hh))) ?_
      rintro _ _ w4 ⟨H1, rfl, p1, rfl, hp1⟩
      refine wl_drop _ (List.sublist_append_right _ _) ?_
      refine wl_f (f_move rfl) ?_
      refine wl_f (f_extract rfl rfl) ?_
      refine wl_f (f_extract rfl rfl) ?_
      refine wl_f (f_assign rfl) ?_
      refine wl_f (f_assign rfl) ?_
      refine wl_end [(1, _), (7, _), (9, _), (10, _), (11, _), (33, _), (34, _), (35, _)] ⟨rfl, rfl, rfl, rfl, rfl, rfl, rfl, rfl, trivial⟩ ?_
      refine w_seq ?_
      refine w_reg ?_
      refine wl_f (f_move rfl) ?_
      refine wl_f (f_move rfl) ?_
      refine wl_e (e_call0 rfl Try.func23 (by kernel_rfl) (fun w hh => rmnew_form x A T0.length c w)) ?_
      rintro _ _ w5 ⟨H2, rfl, p2, rfl⟩
      refine wl_drop _ (List.sublist_append_right _ _) ?_
      refine wl_f (f_move rfl) ?_
      refine wl_f (f_extract rfl rfl) ?_
      refine wl_f (f_extract rfl rfl) ?_
      refine wl_f (f_assign rfl) ?_
      refine wl_f (f_assign rfl) ?_
      refine wl_end [(1, _), (7, _), (9, _), (10, _), (11, _), (13, _), (33, _), (34, _), (35, _)] ⟨rfl, rfl, rfl, rfl, rfl, rfl, rfl, rfl, rfl, trivial⟩ ?_
      refine w_seq ?_
      refine w_reg ?_
      refine wl_f (f_move rfl) ?_
      refine wl_f (f_move rfl) ?_
      refine wl_e (e_call0 rfl Try.func7 (by kernel_rfl) (fun w hh => sxnew_form x T A3 16 c3 1 w hT (Rd.held0 hh (i := 1) rfl))) ?_
      rintro _ _ w6 ⟨H3, rfl, p3, rfl, hp3⟩
      refine wl_drop _ (List.sublist_append_right _ _) ?_
      refine wl_f (f_move rfl) ?_
      refine wl_f (f_extract rfl rfl) ?_
      refine wl_f (f_extract rfl rfl) ?_
      refine wl_f (f_assign rfl) ?_
      refine wl_f (f_assign rfl) ?_
      refine wl_end [(1, _), (7, _), (9, _), (10, _), (11, _), (13, _), (14, _), (15, _), (33, _), (34, _), (35, _)] ⟨rfl, rfl, rfl, rfl, rfl, rfl, rfl, rfl, rfl, rfl, rfl, trivial⟩ ?_
      refine w_seq ?_
      refine w_reg ?_
      refine wl_f (f_move rfl) ?_
      refine wl_f (f_move rfl) ?_
      refine wl_e (e_call0 rfl Try.func23 (by kernel_rfl) (fun w hh => rmnew_form x A3 16 c3 w)) ?_
      rintro _ _ w7 ⟨H4, rfl, p4, rfl⟩
      refine wl_drop _ (List.sublist_append_right _ _) ?_
      refine wl_f (f_move rfl) ?_
      refine wl_f (f_extract rfl rfl) ?_
      refine wl_f (f_extract rfl rfl) ?_
      refine wl_f (f_assign rfl) ?_
      refine wl_f (f_assign rfl) ?_
      refine wl_end [(1, _), (7, _), (10, _), (11, _), (13, _), (14, _), (15, _), (17, _), (33, _), (34, _), (35, _)] ⟨rfl, rfl, rfl, rfl, rfl, rfl, rfl, rfl, rfl, rfl, rfl, trivial⟩ ?_
      refine w_seq ?_
      refine w_reg ?_
      refine wl_f (f_move rfl) ?_
      refine wl_f (f_move rfl) ?_
      refine wl_f (f_neq rfl rfl) ?_
      refine wl_f (f_move rfl) ?_
      refine wl_or (j := 3) (c := decide (newE x 16 ≠ newE x 16)) 3 [(1, _), (7, _), (10, _), (11, _), (14, _), (15, _), (33, _), (34, _), (35, _)] ⟨rfl, rfl, rfl, rfl, rfl, rfl, rfl, rfl, rfl, trivial⟩ rfl rfl rfl rfl rfl (fun hg11_7 => ?_) (fun w11_7 => ?_)
      · skip
        refine wl_gf rfl rfl (f_move rfl) ?_
        refine wl_gf rfl rfl (f_move rfl) ?_
        refine wl_gf rfl rfl (f_neq rfl rfl) ?_
        exact wl_pend rfl rfl ⟨rfl, rfl, rfl, rfl, rfl, rfl, rfl, rfl, rfl, trivial⟩ (List.Sublist.refl _)
      refine wl_f (f_move rfl) ?_
      refine wl_or (j := 8) (c := (p1.isNone != decide (newE x T0.length ≠ 0))) 5 [(1, _), (7, _), (14, _), (15, _), (33, _), (34, _), (35, _)] ⟨rfl, rfl, rfl, rfl, rfl, rfl, rfl, trivial⟩ rfl rfl rfl rfl rfl (fun hg11_14 => ?_) (fun w11_14 => ?_)
      · skip
        refine wl_gf rfl rfl (f_move rfl) ?_
        refine wl_gf rfl rfl (f_eqlnil rfl rfl Try.underlying40) ?_
        refine wl_gf rfl rfl (f_move rfl) ?_
        refine wl_gf rfl rfl (f_neq rfl rfl) ?_
        refine wl_gf rfl rfl (f_neqb rfl rfl Try.underlying4) ?_
        exact wl_pend rfl rfl ⟨rfl, rfl, rfl, rfl, rfl, rfl, rfl, trivial⟩ (List.Sublist.refl _)
      refine wl_f (f_move rfl) ?_
      refine wl_or (j := 15) (c := (p3.isNone != decide (newE x 16 ≠ 0))) 5 [(1, _), (7, _), (33, _), (34, _), (35, _)] ⟨rfl, rfl, rfl, rfl, rfl, trivial⟩ rfl rfl rfl rfl rfl (fun hg11_21 => ?_) (fun w11_21 => ?_)
      · skip
        refine wl_gf rfl rfl (f_move rfl) ?_
        refine wl_gf rfl rfl (f_eqlnil rfl rfl Try.underlying24) ?_
        refine wl_gf rfl rfl (f_move rfl) ?_
        refine wl_gf rfl rfl (f_neq rfl rfl) ?_
        refine wl_gf rfl rfl (f_neqb rfl rfl Try.underlying4) ?_
        exact wl_pend rfl rfl ⟨rfl, rfl, rfl, rfl, rfl, trivial⟩ (List.Sublist.refl _)
      refine wl_end [(1, _), (7, _), (33, _), (34, _), (35, _), (84, _)] ⟨rfl, rfl, rfl, rfl, rfl, rfl, trivial⟩ ?_
      refine w_ifb rfl (fun h => absurd h (by rw [hp1, hp3]; simp)) (fun _ => ?_)
      refine w_skip ?_
      refine w_reg ?_
      refine wl_f (f_add rfl rfl (by omega)) ?_
      refine wl_f (f_move rfl) ?_
      refine wl_end [(1, _), (7, _), (33, _), (34, _), (35, _)] ⟨rfl, rfl, rfl, rfl, rfl, trivial⟩ ?_
      exact ⟨k - 1, by omega, i + 1, rfl, rfl, by omega⟩
    · skip
      refine w_drop [] (List.nil_sublist _) ?_
      refine w_exit0 ?_
      refine w_seq ?_
      refine w_reg ?_
      refine wl_f (f_assign rfl) ?_
      refine wl_end [(18, _)] ⟨rfl, trivial⟩ ?_
      refine w_seq ?_
      refine w_reg ?_
      refine wl_f (f_move rfl) ?_
      refine wl_e (e_call0 rfl Try.func20 (by kernel_rfl) (fun w hh => xget_nil _ w)) ?_
      rintro _ _ w8 ⟨_, rfl, rfl, rfl⟩
      refine wl_f (f_move rfl) ?_
      refine wl_f (f_extract rfl rfl) ?_
      refine wl_f (f_extract rfl rfl) ?_
      refine wl_f (f_assign rfl) ?_
      refine wl_f (f_assign rfl) ?_
      refine wl_end [(18, _), (19, _), (20, _)] ⟨rfl, rfl, rfl, trivial⟩ ?_
      refine w_seq ?_
      refine w_reg ?_
      refine wl_f (f_move rfl) ?_
      refine wl_e (e_call0 rfl Try.func19 (by kernel_rfl) (fun w hh => xdelete_nil _ w)) ?_
      rintro _ _ w9 ⟨_, rfl, rfl, rfl⟩
      refine wl_f (f_move rfl) ?_
      refine wl_f (f_extract rfl rfl) ?_
      refine wl_f (f_extract rfl rfl) ?_
      refine wl_f (f_assign rfl) ?_
      refine wl_f (f_assign rfl) ?_
      refine wl_end [(18, _), (19, _), (20, _), (21, _), (22, _)] ⟨rfl, rfl, rfl, rfl, rfl, trivial⟩ ?_
      refine w_seq ?_
      refine w_reg ?_
      refine wl_f (f_move rfl) ?_
      refine wl_e (e_call0 rfl Try.func18 (by kernel_rfl) (fun w hh => xput_nil _ _ w)) ?_
      rintro _ _ w10 ⟨_, rfl, rfl, rfl⟩
      refine wl_f (f_eql rfl rfl) ?_
      refine wl_f (f_move rfl) ?_
      refine wl_and (j := 3) (c := true) 2 [(18, _), (20, _), (21, _), (22, _)] ⟨rfl, rfl, rfl, rfl, trivial⟩ rfl rfl rfl rfl rfl (fun hg17_6 => ?_) (fun w17_6 => ?_)
      · skip
        refine wl_gf rfl rfl (f_move rfl) ?_
        refine wl_gf rfl rfl (f_eql rfl rfl) ?_
        exact wl_pend rfl rfl ⟨rfl, rfl, rfl, rfl, trivial⟩ (List.Sublist.refl _)
      refine wl_f (f_move rfl) ?_
      refine wl_and (j := 7) (c := true) 2 [(18, _), (21, _), (22, _)] ⟨rfl, rfl, rfl, trivial⟩ rfl rfl rfl rfl rfl (fun hg17_10 => ?_) (fun w17_10 => ?_)
      · skip
        refine wl_gf rfl rfl (f_move rfl) ?_
        refine wl_gf rfl rfl (f_not rfl rfl) ?_
        exact wl_pend rfl rfl ⟨rfl, rfl, rfl, trivial⟩ (List.Sublist.refl _)
      refine wl_f (f_move rfl) ?_
      refine wl_and (j := 11) (c := true) 2 [(18, _), (22, _)] ⟨rfl, rfl, trivial⟩ rfl rfl rfl rfl rfl (fun hg17_14 => ?_) (fun w17_14 => ?_)
      · skip
        refine wl_gf rfl rfl (f_move rfl) ?_
        refine wl_gf rfl rfl (f_eql rfl rfl) ?_
        exact wl_pend rfl rfl ⟨rfl, rfl, trivial⟩ (List.Sublist.refl _)
      refine wl_f (f_move rfl) ?_
      refine wl_and (j := 15) (c := true) 2 [(18, _)] ⟨rfl, trivial⟩ rfl rfl rfl rfl rfl (fun hg17_18 => ?_) (fun w17_18 => ?_)
      · skip
        refine wl_gf rfl rfl (f_move rfl) ?_
        refine wl_gf rfl rfl (f_not rfl rfl) ?_
        exact wl_pend rfl rfl ⟨rfl, trivial⟩ (List.Sublist.refl _)
      refine wl_f (f_move rfl) ?_
      refine wl_and (j := 19) (c := true) 3 [(18, _)] ⟨rfl, trivial⟩ rfl rfl rfl rfl rfl (fun hg17_23 => ?_) (fun w17_23 => ?_)
      · skip
        refine wl_gf rfl rfl (f_move rfl) ?_
        refine wl_ge rfl rfl (e_call0 rfl Try.func24 (by kernel_rfl) (fun w hh => xlen_nil w)) ?_
        rintro _ _ w11 ⟨_, rfl, rfl, rfl⟩
        refine wl_gf rfl rfl (f_eql rfl rfl) ?_
        exact wl_pend rfl rfl ⟨rfl, trivial⟩ (List.Sublist.refl _)
      refine wl_f (f_move rfl) ?_
      refine wl_and (j := 24) (c := true) 4 [] trivial rfl rfl rfl rfl rfl (fun hg17_29 => ?_) (fun w17_29 => ?_)
      · skip
        refine wl_gf rfl rfl (f_move rfl) ?_
        refine wl_ge rfl rfl (e_call0 rfl Try.func22 (by kernel_rfl) (fun w hh => xkeys_nil w)) ?_
        rintro _ _ w12 ⟨_, rfl, rfl, rfl⟩
        refine wl_gf rfl rfl (f_len rfl Try.underlying22) ?_
        refine wl_gf rfl rfl (f_eql rfl rfl) ?_
        exact wl_pend rfl rfl trivial (List.Sublist.refl _)
      refine wl_f (f_move rfl) ?_
      refine wl_and (j := 30) (c := true) 1 [] trivial rfl rfl rfl rfl rfl (fun hg17_32 => ?_) (fun w17_32 => ?_)
      · skip
        refine wl_ge rfl rfl (e_call0 rfl Try.func14 (by kernel_rfl) (fun w hh => awake10_spec w)) ?_
        rintro _ _ w15 ⟨_, rfl, rfl⟩
        exact wl_pend rfl rfl trivial (List.sublist_append_right _ _)
      refine wl_f (f_assign rfl) ?_
      refine wl_end [(6, _)] ⟨rfl, trivial⟩ ?_
      refine w_ret ?_
      refine ⟨_, _, fun a ha hh => results_tmps Try.results5 rfl a ha _, List.Sublist.refl _, ?_⟩
      rfl
end Go.Proofs.Ytmppbpajncpjnaa
