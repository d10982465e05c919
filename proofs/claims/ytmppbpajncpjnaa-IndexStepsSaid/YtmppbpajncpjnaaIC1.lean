/- The law IndexCollides: the call returns true. -/
import Derived.Test.YtmppbpajncpjnaaI8
namespace Go.Proofs.Ytmppbpajncpjnaa
open Go.RowKit

set_option maxHeartbeats 1000000 in
theorem sameTexts_spec (v1 v2 : Value) (xs ys : List ByteArray) (w : World) (h1 : Rd w Nil 1 v1 xs.length (sv xs)) (h2 : Rd w Nil 1 v2 ys.length (sv ys)) (hx : xs.length ≤ 140737488355328) (hy : ys.length ≤ 140737488355328) :
    Spec Try.prog 21 [v1, v2] w Nil fun r H => r = .bool (decide (xs = ys)) ∧ H = [] := by
  obtain ⟨A1, c1, rfl, -, hc1', g1⟩ := h1
  obtain ⟨A2, c2, rfl, -, hc2', g2⟩ := h2
  refine enter (n := 26) Try.func21 rfl rfl [(0, _), (1, _)] rfl ⟨rfl, rfl, trivial⟩ (Holds.start _ _) ?_
  refine w_seq ?_
  refine w_reg ?_
  refine wl_f (f_assign rfl) ?_
  refine wl_end [(0, _), (1, _)] ⟨rfl, rfl, trivial⟩ ?_
  refine w_seq ?_
  refine w_seq ?_
  refine w_reg ?_
  refine wl_f (f_move rfl) ?_
  refine wl_f (f_len rfl Try.underlying22) ?_
  refine wl_f (f_move rfl) ?_
  refine wl_f (f_len rfl Try.underlying22) ?_
  refine wl_f (f_neq rfl rfl) ?_
  refine wl_end [(0, _), (1, _), (10, _)] ⟨rfl, rfl, rfl, trivial⟩ ?_
  refine w_ifd rfl (fun hc1 => ?_) (fun hc1 => ?_)
  · skip
    refine w_seq ?_
    refine w_reg ?_
    refine wl_f (f_assign rfl) ?_
    refine wl_end [(4, _)] ⟨rfl, trivial⟩ ?_
    refine w_ret ?_
    refine ⟨_, _, fun a ha hh => results_tmps Try.results21 rfl a ha _, List.Sublist.refl _, ?_⟩
    exact ⟨by rw [decide_eq_false (fun e => hc1 (by rw [e]))]; rfl, rfl⟩
  · skip
    refine w_skip ?_
    refine w_seq ?_
    refine w_seq ?_
    refine w_reg ?_
    refine wl_f (f_move rfl) ?_
    refine wl_f (f_len rfl Try.underlying22) ?_
    refine wl_f (f_move rfl) ?_
    refine wl_end [(0, _), (1, _), (12, _), (13, _)] ⟨rfl, rfl, rfl, rfl, trivial⟩ ?_
    refine w_block ?_
    refine w_loop (fun k m H w => ∃ i : Nat, m = [(0, .slice A1 xs.length c1), (1, .slice A2 ys.length c2), (12, .int .i64 xs.length), (13, .int .i64 i)] ∧ H = [] ∧ k + i = xs.length ∧ xs.take i = ys.take i) xs.length ⟨0, rfl, rfl, rfl, rfl⟩ ?_
    rintro k _ _ w' ⟨i, rfl, rfl, hk, ht⟩
    refine w_seq ?_
    refine w_reg ?_
    refine wl_f (f_lss rfl rfl) ?_
    refine wl_end [(0, _), (1, _), (12, _), (13, _), (14, _)] ⟨rfl, rfl, rfl, rfl, rfl, trivial⟩ ?_
    refine w_seq ?_
    refine w_ifd rfl (fun hc2 => ?_) (fun hc2 => ?_)
    · skip
      have hlen : xs.length = ys.length := by omega
      have hi1 : i < xs.length := by omega
      have hi2 : i < ys.length := by omega
      obtain ⟨b1, o1, rfl, -, -, d1⟩ := g1.resolve_left (by omega)
      obtain ⟨b2, o2, rfl, -, -, d2⟩ := g2.resolve_left (by omega)
      refine w_skip ?_
      refine w_seq ?_
      refine w_block ?_
      refine w_seq ?_
      refine w_reg ?_
      refine wl_f (f_move rfl) ?_
      refine wl_f (f_assign rfl) ?_
      refine wl_end [(0, _), (1, _), (5, _), (12, _), (13, _)] ⟨rfl, rfl, rfl, rfl, rfl, trivial⟩ ?_
      refine w_seq ?_
      refine w_draw [(0, true), (1, true), (2, true), (3, true), (4, true), (5, true), (6, true), (7, true), (8, true)] (_) ([]) mixed (by kernel_rfl) (by kernel_rfl) rfl (perm_all _) (fun w6_ => ?_)
      refine wd_f rfl (f_move rfl) ?_
      refine wd_f rfl (f_move rfl) ?_
      refine wd_f rfl (f_indexAddr 1 rfl rfl Try.underlying22 (by kernel_rfl) rfl (by omega)) ?_
      refine wd_f rfl (f_loado (v := .string xs[i]) rfl Try.underlying9 rfl (d1 _ _ (sv_get (List.getElem?_eq_getElem hi1))) id) ?_
      refine wd_f rfl (f_move rfl) ?_
      refine wd_f rfl (f_move rfl) ?_
      refine wd_f rfl (f_indexAddr 1 rfl rfl Try.underlying22 (by kernel_rfl) rfl (by omega)) ?_
      refine wd_f rfl (f_loado (v := .string ys[i]) rfl Try.underlying9 rfl (d2 _ _ (sv_get (List.getElem?_eq_getElem hi2))) id) ?_
      refine wd_f rfl (f_neqs rfl rfl) ?_
      refine wd_end [(0, _), (1, _), (12, _), (13, _), (24, _)] ⟨rfl, rfl, rfl, rfl, rfl, trivial⟩ ?_
      refine w_ifd rfl (fun hc3 => ?_) (fun hc3 => ?_)
      · skip
        refine w_seq ?_
        refine w_reg ?_
        refine wl_f (f_assign rfl) ?_
        refine wl_end [(4, _)] ⟨rfl, trivial⟩ ?_
        refine w_ret ?_
        refine ⟨_, _, fun a ha hh => results_tmps Try.results21 rfl a ha _, List.Sublist.refl _, ?_⟩
        exact ⟨by rw [decide_eq_false (fun e => hc3 (by subst e; rfl))]; rfl, rfl⟩
      · skip
        refine w_skip ?_
        refine w_reg ?_
        refine wl_f (f_add rfl rfl (by omega)) ?_
        refine wl_f (f_move rfl) ?_
        refine wl_end [(0, _), (1, _), (12, _), (13, _)] ⟨rfl, rfl, rfl, rfl, trivial⟩ ?_
        refine ⟨k - 1, by omega, i + 1, rfl, rfl, by omega, ?_⟩
        have : xs[i] = ys[i] := Classical.not_not.1 hc3
        rw [List.take_succ_eq_append_getElem hi1, List.take_succ_eq_append_getElem hi2, ht, this]
    · skip
      refine w_exit0 ?_
      refine w_seq ?_
      refine w_reg ?_
      refine wl_f (f_assign rfl) ?_
      refine wl_end [(4, _)] ⟨rfl, trivial⟩ ?_
      refine w_ret ?_
      refine ⟨_, _, fun a ha hh => results_tmps Try.results21 rfl a ha _, List.Sublist.refl _, ?_⟩
      exact ⟨by rw [decide_eq_true (by rw [List.take_of_length_le (by omega), List.take_of_length_le (by omega)] at ht; exact ht)]; rfl, rfl⟩
theorem lit_u16 (w : World) : (Instr.buildSlice 28 16 [(0, .int .u64 3), (1, .int .u64 1), (2, .int .u64 4), (3, .int .u64 1), (4, .int .u64 5), (5, .int .u64 9), (6, .int .u64 2), (7, .int .u64 6), (8, .int .u64 5), (9, .int .u64 3), (10, .int .u64 5), (11, .int .u64 8), (12, .int .u64 9), (13, .int .u64 7), (14, .int .u64 9), (15, .int .u64 3)].toArray).run Try.prog w =
    .ok (.slice (some ⟨w.heap.size, 0, .none⟩) 16 16) (w.alloc (.cells (u64v [3, 1, 4, 1, 5, 9, 2, 6, 5, 3, 5, 8, 9, 7, 9, 3]).toArray 32)) := by kernel_rfl

set_option maxHeartbeats 8000000 in
theorem indexCollides_spec (A1 : Option Addr) (c1 : Nat) (L1 : List Int) (A2 : Option Addr) (c2 : Nat) (L2 : List Int) (w : World)
    (h1 : Rd w Nil 1 (.slice A1 L1.length c1) L1.length (iv L1)) (hL1 : L1.length ≤ 140737488355328) (h2 : Rd w Nil 1 (.slice A2 L2.length c2) L2.length (iv L2)) (hL2 : L2.length ≤ 140737488355328) :
    Spec Try.prog 4 [.slice A1 L1.length c1, .slice A2 L2.length c2] w Nil fun r _ => r = .bool true := by
  obtain ⟨A', c', e, hxl, hxc, hxA⟩ := id h2
  injection e with e1 _ e3
  subst e1; subst e3
  refine enter (n := 128) Try.func4 rfl rfl [(0, _), (1, _)] rfl ⟨rfl, rfl, trivial⟩ (Holds.start _ _) ?_
  refine w_seq ?_
  refine w_reg ?_
  refine wl_f (f_assign rfl) ?_
  refine wl_end [(0, _), (1, _)] ⟨rfl, rfl, trivial⟩ ?_
  refine w_seq ?_
  refine w_reg ?_
  refine wl_f (f_move rfl) ?_
  refine wl_e (e_call0 rfl Try.func8 (by kernel_rfl) (fun w hh => new_spec A1 L1.length c1 w)) ?_
  rintro _ _ w1 ⟨_, rfl, bd, rfl, rfl⟩
  refine wl_f (f_assign rfl) ?_
  refine wl_end [(1, _), (5, _)] ⟨rfl, rfl, trivial⟩ ?_
  refine w_seq ?_
  refine w_reg ?_
  refine wl_f (f_move rfl) ?_
  refine wl_e (e_call1 (deck bd (.slice A1 L1.length c1) 0) [] rfl Try.func15 (by kernel_rfl) (List.Perm.refl _) (fun w hh hs' => next_spec bd _ L1 0 10 w ⟨h1.old1 hh (Hr := []) (List.Perm.refl _), hL1, Nat.zero_le _⟩ hs' (by omega))) ?_
  rintro _ _ w2 ⟨_, rfl, y, p0, rfl, hy, rfl, hp0⟩
  refine wl_f (f_eqv (v' := .int .i64 ((1 + y : Nat) : Int)) (f_add rfl rfl (by omega)) (by congr 1)) ?_
  obtain ⟨n, hn, hn1, hn10⟩ : ∃ n, 1 + y = n ∧ 1 ≤ n ∧ n ≤ 10 := ⟨_, rfl, by omega, by omega⟩
  rw [hn]
  refine wl_f (f_assign rfl) ?_
  refine wl_end [(1, _), (5, _), (6, _)] ⟨rfl, rfl, rfl, trivial⟩ ?_
  refine w_seq ?_
  refine w_reg ?_
  refine wl_f (f_move rfl) ?_
  refine wl_e (e_make (l := 16) (cs := u64v (List.replicate 16 0)) rfl rfl t28 (by omega) (by omega) (made1 16).symm) ?_
  rintro _ _ w3_1 ⟨b3_1, rfl, rfl⟩
  refine wl_e (e_call0 rfl Try.func16 (by kernel_rfl) (fun w hh => ixnew_ok n (List.replicate 16 0) _ 0 w hn1 (by omega) List.length_replicate (Rd.held0 hh (i := 0) rfl))) ?_
  rintro _ _ w3 ⟨_, rfl, ba, ra0, rfl, rfl, hra0⟩
  refine wl_f (f_move rfl) ?_
  refine wl_f (f_extract rfl rfl) ?_
  refine wl_f (f_extract rfl rfl) ?_
  refine wl_f (f_assign rfl) ?_
  refine wl_f (f_assign rfl) ?_
  refine wl_pick [0, 1] rfl ?_
  refine wl_end [(1, _), (5, _), (6, _), (7, _), (8, _)] ⟨rfl, rfl, rfl, rfl, rfl, trivial⟩ ?_
  refine w_seq ?_
  refine w_reg ?_
  refine wl_f (f_move rfl) ?_
  refine wl_e (e_litrow (e := 32) (sz := 1) rfl (fun w => lit_u16 w) rfl (by decide)) ?_
  rintro _ _ w4_1 ⟨b4_1, rfl, rfl⟩
  refine wl_e (e_call0 rfl Try.func16 (by kernel_rfl) (fun w hh => ixnew_ok n [3, 1, 4, 1, 5, 9, 2, 6, 5, 3, 5, 8, 9, 7, 9, 3] _ 7 w hn1 (by omega) rfl (Rd.held0 hh (i := 0) rfl))) ?_
  rintro _ _ w4 ⟨_, rfl, bb, rb0, rfl, rfl, hrb0⟩
  refine wl_f (f_move rfl) ?_
  refine wl_f (f_extract rfl rfl) ?_
  refine wl_f (f_extract rfl rfl) ?_
  refine wl_f (f_assign rfl) ?_
  refine wl_f (f_assign rfl) ?_
  refine wl_pick [2, 0, 1] rfl ?_
  refine wl_end [(1, _), (5, _), (7, _), (8, _), (9, _), (10, _)] ⟨rfl, rfl, rfl, rfl, rfl, rfl, trivial⟩ ?_
  refine w_seq ?_
  refine w_seq ?_
  refine w_reg ?_
  refine wl_f (f_move rfl) ?_
  refine wl_f (f_neq rfl rfl) ?_
  refine wl_f (f_move rfl) ?_
  refine wl_or (j := 2) (c := false) 2 [(1, _), (5, _), (7, _), (9, _)] ⟨rfl, rfl, rfl, rfl, trivial⟩ rfl rfl rfl rfl rfl (fun hg5_5 => ?_) (fun w5_5 => ?_)
  · skip
    refine wl_gf rfl rfl (f_move rfl) ?_
    refine wl_gf rfl rfl (f_neq rfl rfl) ?_
    exact wl_pend rfl rfl ⟨rfl, rfl, rfl, rfl, trivial⟩ (List.Sublist.refl _)
  refine wl_f (f_move rfl) ?_
  refine wl_or (j := 6) (c := false) 2 [(1, _), (5, _), (7, _), (9, _)] ⟨rfl, rfl, rfl, rfl, trivial⟩ rfl rfl rfl rfl rfl (fun hg5_9 => ?_) (fun w5_9 => ?_)
  · skip
    refine wl_gf rfl rfl (f_move rfl) ?_
    refine wl_gf rfl rfl (f_eqlnil rfl rfl Try.underlying40) ?_
    exact wl_pend rfl rfl ⟨rfl, rfl, rfl, rfl, trivial⟩ (List.Sublist.refl _)
  refine wl_f (f_move rfl) ?_
  refine wl_or (j := 10) (c := false) 2 [(1, _), (5, _), (7, _), (9, _)] ⟨rfl, rfl, rfl, rfl, trivial⟩ rfl rfl rfl rfl rfl (fun hg5_13 => ?_) (fun w5_13 => ?_)
  · skip
    refine wl_gf rfl rfl (f_move rfl) ?_
    refine wl_gf rfl rfl (f_eqlnil rfl rfl Try.underlying40) ?_
    exact wl_pend rfl rfl ⟨rfl, rfl, rfl, rfl, trivial⟩ (List.Sublist.refl _)
  refine wl_end [(1, _), (5, _), (7, _), (9, _), (51, _)] ⟨rfl, rfl, rfl, rfl, rfl, trivial⟩ ?_
  refine w_iff rfl ?_
  refine w_skip ?_
  refine w_seq ?_
  refine w_seq ?_
  refine w_reg ?_
  refine wl_f (f_assign rfl) ?_
  refine wl_end [(1, _), (5, _), (7, _), (9, _), (11, _)] ⟨rfl, rfl, rfl, rfl, rfl, trivial⟩ ?_
  refine w_block ?_
  generalize List.replicate 16 0 = Ta at hra0
  generalize ([3, 1, 4, 1, 5, 9, 2, 6, 5, 3, 5, 8, 9, 7, 9, 3] : List Nat) = Tb at hrb0
  refine w_loop (fun kk m H w' => ∃ (i : Nat) (M : List (ByteArray × Int)) (ra rb : Res) (p : Nat), m = [(1, .slice A2 L2.length c2), (5, .pointer (some ⟨bd, 0, .none⟩)), (7, .pointer (some ⟨ba, 0, .none⟩)), (9, .pointer (some ⟨bb, 0, .none⟩)), (11, .int .i64 i)] ∧
    H = [ra, rb, deck bd (.slice A1 L1.length c1) p] ∧ TbR xInt ba n Ta 0 M ra ∧ TbR xInt bb n Tb 7 M rb ∧ kk + i = 60 ∧ i ≤ L2.length ∧ p ≤ L1.length) 60 ⟨0, [], ra0, rb0, p0, rfl, rfl, hra0, hrb0, rfl, Nat.zero_le _, hp0⟩ ?_
  rintro kk _ _ w5 ⟨i, M, ra, rb, p, rfl, rfl, hra, hrb, hkk, hiL, hp⟩
  refine w_seq ?_
  refine w_seq ?_
  refine w_reg ?_
  refine wl_f (f_move rfl) ?_
  refine wl_f (f_move rfl) ?_
  refine wl_f (f_len rfl Try.underlying23) ?_
  refine wl_f (f_lss rfl rfl) ?_
  refine wl_f (f_move rfl) ?_
  refine wl_and (j := 4) (c := decide ((i : Int) < 60)) 2 [(1, _), (5, _), (7, _), (9, _), (11, _)] ⟨rfl, rfl, rfl, rfl, rfl, trivial⟩ rfl rfl rfl rfl rfl (fun hg8_7 => ?_) (fun w8_7 => ?_)
  · skip
    refine wl_gf rfl rfl (f_move rfl) ?_
    refine wl_gf rfl rfl (f_lss rfl rfl) ?_
    exact wl_pend rfl rfl ⟨rfl, rfl, rfl, rfl, rfl, trivial⟩ (List.Sublist.refl _)
  refine wl_end [(1, _), (5, _), (7, _), (9, _), (11, _), (59, _)] ⟨rfl, rfl, rfl, rfl, rfl, rfl, trivial⟩ ?_
  refine w_ifb rfl (fun hc2 => ?_) (fun hc2 => ?_)
  · skip
    simp only [Bool.and_eq_true, decide_eq_true_eq] at hc2
    have hi : i < L2.length := by omega
    obtain ⟨s0, hsi⟩ : ∃ s, L2[i]? = some s := ⟨_, List.getElem?_eq_getElem hi⟩
    obtain ⟨b2, off, rfl, _, _, hcell⟩ := hxA.resolve_left (by omega)
    refine w_skip ?_
    refine w_seq ?_
    refine w_block ?_
    refine w_seq ?_
    refine w_reg ?_
    refine wl_f (f_move rfl) ?_
    refine wl_e (e_call1 (deck bd (.slice A1 L1.length c1) p) [_, _] rfl Try.func17 (by kernel_rfl) (pk1 2 rfl) (fun w hh hs' => short_spec bd _ L1 p w ⟨h1.old1 hh (pk1 2 rfl), hL1, hp⟩ hs')) ?_
    rintro _ _ w6 ⟨_, rfl, s, p2, rfl, hs9, rfl, hp2⟩
    have hsm : small s := small_of (by omega)
    refine wl_f (f_assign rfl) ?_
    refine wl_pick [1, 1, 0] rfl ?_
    refine wl_end [(1, _), (5, _), (7, _), (9, _), (11, _), (12, _)] ⟨rfl, rfl, rfl, rfl, rfl, rfl, trivial⟩ ?_
    refine w_seq ?_
    refine w_seq ?_
    refine w_reg ?_
    refine wl_f (f_move rfl) ?_
    refine wl_f (f_move rfl) ?_
    refine wl_f (f_indexAddr 1 (i := i) rfl rfl Try.underlying23 (by kernel_rfl) rfl hi) ?_
    refine wl_f (f_loado (v := .int .i64 s0) rfl Try.underlying3 rfl (hcell _ _ (by simp [iv, hsi])) id) ?_
    refine wl_f (f_and rfl rfl rfl) ?_
    refine wl_f (f_eql rfl rfl) ?_
    refine wl_end [(1, _), (5, _), (7, _), (9, _), (11, _), (12, _), (69, _)] ⟨rfl, rfl, rfl, rfl, rfl, rfl, rfl, trivial⟩ ?_
    refine w_post (fun m H w' => ∃ (M : List (ByteArray × Int)) (ra rb : Res), m = [(1, .slice (some ⟨b2, off, .none⟩) L2.length c2), (5, .pointer (some ⟨bd, 0, .none⟩)), (7, .pointer (some ⟨ba, 0, .none⟩)), (9, .pointer (some ⟨bb, 0, .none⟩)), (11, .int .i64 i), (12, .string s)] ∧
      H = [ra, rb, deck bd (.slice A1 L1.length c1) p2] ∧ TbR xInt ba n Ta 0 M ra ∧ TbR xInt bb n Tb 7 M rb) ?_ ?_
    · skip
      refine w_ifd rfl (fun hc3 => ?_) (fun hc3 => ?_)
      · skip
        refine w_seq ?_
        refine w_reg ?_
        refine wl_f (f_move rfl) ?_
        refine wl_f (f_move rfl) ?_
        refine wl_f (f_move rfl) ?_
        refine wl_e (e_call1 ra [_, _] rfl Try.func18 (by kernel_rfl) (List.Perm.refl _) (fun w hh hs => ixput_spec ba n Ta 0 M ra s (i : Int) w hsm hra hs)) ?_
        rintro _ _ w7 ⟨_, rfl, rfl, ra2, rfl, hra2⟩
        refine wl_f (f_move rfl) ?_
        refine wl_f (f_move rfl) ?_
        refine wl_f (f_move rfl) ?_
        refine wl_e (e_call1 rb [_, _] rfl Try.func18 (by kernel_rfl) (pk1 1 rfl) (fun w hh hs => ixput_spec bb n Tb 7 M rb s (i : Int) w hsm hrb hs)) ?_
        rintro _ _ w8 ⟨_, rfl, rfl, rb2, rfl, hrb2⟩
        refine wl_f (f_neq rfl rfl) ?_
        refine wl_pick [1, 0, 0] rfl ?_
        refine wl_end [(1, _), (5, _), (7, _), (9, _), (11, _), (12, _), (78, _)] ⟨rfl, rfl, rfl, rfl, rfl, rfl, rfl, trivial⟩ ?_
        refine w_ifd rfl (fun h => absurd rfl h) (fun _ => ?_)
        refine w_sub [(1, _), (5, _), (7, _), (9, _), (11, _), (12, _)] ⟨rfl, rfl, rfl, rfl, rfl, rfl, trivial⟩ (w_skip ?_)
        exact ⟨_, _, _, rfl, rfl, hra2, hrb2⟩
      · skip
        refine w_seq ?_
        refine w_reg ?_
        refine wl_f (f_move rfl) ?_
        refine wl_f (f_move rfl) ?_
        refine wl_e (e_call1 ra [_, _] rfl Try.func19 (by kernel_rfl) (List.Perm.refl _) (fun w hh hs => ixdelete_spec ba n Ta 0 M ra s w hsm hra hs)) ?_
        rintro _ _ w7 ⟨_, rfl, rfl, ra2, rfl, hra2⟩
        refine wl_f (f_move rfl) ?_
        refine wl_f (f_extract rfl rfl) ?_
        refine wl_f (f_extract rfl rfl) ?_
        refine wl_f (f_assign rfl) ?_
        refine wl_f (f_assign rfl) ?_
        refine wl_end [(1, _), (5, _), (7, _), (9, _), (11, _), (12, _), (13, _), (14, _)] ⟨rfl, rfl, rfl, rfl, rfl, rfl, rfl, rfl, trivial⟩ ?_
        refine w_seq ?_
        refine w_reg ?_
        refine wl_f (f_move rfl) ?_
        refine wl_f (f_move rfl) ?_
        refine wl_e (e_call1 rb [_, _] rfl Try.func19 (by kernel_rfl) (pk1 1 rfl) (fun w hh hs => ixdelete_spec bb n Tb 7 M rb s w hsm hrb hs)) ?_
        rintro _ _ w8 ⟨_, rfl, rfl, rb2, rfl, hrb2⟩
        refine wl_f (f_move rfl) ?_
        refine wl_f (f_extract rfl rfl) ?_
        refine wl_f (f_extract rfl rfl) ?_
        refine wl_f (f_assign rfl) ?_
        refine wl_f (f_assign rfl) ?_
        refine wl_pick [1, 0, 0] rfl ?_
        refine wl_end [(1, _), (5, _), (7, _), (9, _), (11, _), (12, _), (13, _), (14, _), (15, _), (16, _)] ⟨rfl, rfl, rfl, rfl, rfl, rfl, rfl, rfl, rfl, rfl, trivial⟩ ?_
        refine w_seq ?_
        refine w_reg ?_
        refine wl_f (f_move rfl) ?_
        refine wl_f (f_move rfl) ?_
        refine wl_f (f_neq rfl rfl) ?_
        refine wl_f (f_move rfl) ?_
        refine wl_or (j := 3) (c := ((mget M s).isSome != (mget M s).isSome)) 3 [(1, _), (5, _), (7, _), (9, _), (11, _), (12, _)] ⟨rfl, rfl, rfl, rfl, rfl, rfl, trivial⟩ rfl rfl rfl rfl rfl (fun hg16_7 => ?_) (fun w16_7 => ?_)
        · skip
          refine wl_gf rfl rfl (f_move rfl) ?_
          refine wl_gf rfl rfl (f_move rfl) ?_
          refine wl_gf rfl rfl (f_neqb rfl rfl Try.underlying4) ?_
          exact wl_pend rfl rfl ⟨rfl, rfl, rfl, rfl, rfl, rfl, trivial⟩ (List.Sublist.refl _)
        refine wl_end [(1, _), (5, _), (7, _), (9, _), (11, _), (12, _), (98, _)] ⟨rfl, rfl, rfl, rfl, rfl, rfl, rfl, trivial⟩ ?_
        refine w_ifb rfl (fun h => absurd h (by simp)) (fun _ => ?_)
        refine w_sub [(1, _), (5, _), (7, _), (9, _), (11, _), (12, _)] ⟨rfl, rfl, rfl, rfl, rfl, rfl, trivial⟩ (w_skip ?_)
        exact ⟨_, _, _, rfl, rfl, hra2, hrb2⟩
    · clear hra hrb
      rintro _ _ w9 ⟨M2, ra2, rb2, rfl, rfl, hra2, hrb2⟩
      refine w_seq ?_
      refine w_reg ?_
      refine wl_f (f_move rfl) ?_
      refine wl_f (f_move rfl) ?_
      refine wl_e (e_call1 ra2 [_, _] rfl Try.func20 (by kernel_rfl) (List.Perm.refl _) (fun w hh hs => ixget_spec ba n Ta 0 M2 ra2 s w hsm hra2 hs)) ?_
      rintro _ _ w10 ⟨_, rfl, rfl, rfl⟩
      refine wl_f (f_move rfl) ?_
      refine wl_f (f_extract rfl rfl) ?_
      refine wl_f (f_extract rfl rfl) ?_
      refine wl_f (f_assign rfl) ?_
      refine wl_f (f_assign rfl) ?_
      refine wl_end [(1, _), (5, _), (7, _), (9, _), (11, _), (12, _), (17, _), (18, _)] ⟨rfl, rfl, rfl, rfl, rfl, rfl, rfl, rfl, trivial⟩ ?_
      refine w_seq ?_
      refine w_reg ?_
      refine wl_f (f_move rfl) ?_
      refine wl_f (f_move rfl) ?_
      refine wl_e (e_call1 rb2 [_, _] rfl Try.func20 (by kernel_rfl) (pk1 1 rfl) (fun w hh hs => ixget_spec bb n Tb 7 M2 rb2 s w hsm hrb2 hs)) ?_
      rintro _ _ w11 ⟨_, rfl, rfl, rfl⟩
      refine wl_f (f_move rfl) ?_
      refine wl_f (f_extract rfl rfl) ?_
      refine wl_f (f_extract rfl rfl) ?_
      refine wl_f (f_assign rfl) ?_
      refine wl_f (f_assign rfl) ?_
      refine wl_pick [1, 0, 0] rfl ?_
      refine wl_end [(1, _), (5, _), (7, _), (9, _), (11, _), (17, _), (18, _), (19, _), (20, _)] ⟨rfl, rfl, rfl, rfl, rfl, rfl, rfl, rfl, rfl, trivial⟩ ?_
      refine w_seq ?_
      refine w_reg ?_
      refine wl_f (f_move rfl) ?_
      refine wl_f (f_move rfl) ?_
      refine wl_f (f_neq rfl rfl) ?_
      refine wl_f (f_move rfl) ?_
      refine wl_or (j := 3) (c := ((mget M2 s).isSome != (mget M2 s).isSome)) 3 [(1, _), (5, _), (7, _), (9, _), (11, _)] ⟨rfl, rfl, rfl, rfl, rfl, trivial⟩ rfl rfl rfl rfl rfl (fun hg20_7 => ?_) (fun w20_7 => ?_)
      · skip
        refine wl_gf rfl rfl (f_move rfl) ?_
        refine wl_gf rfl rfl (f_move rfl) ?_
        refine wl_gf rfl rfl (f_neqb rfl rfl Try.underlying4) ?_
        exact wl_pend rfl rfl ⟨rfl, rfl, rfl, rfl, rfl, trivial⟩ (List.Sublist.refl _)
      refine wl_f (f_move rfl) ?_
      refine wl_or (j := 8) (c := false) 6 [(1, _), (5, _), (7, _), (9, _), (11, _)] ⟨rfl, rfl, rfl, rfl, rfl, trivial⟩ rfl rfl rfl rfl rfl (fun hg20_15 => ?_) (fun w20_15 => ?_)
      · skip
        refine wl_gf rfl rfl (f_move rfl) ?_
        refine wl_ge rfl rfl (e_call1 ra2 [_, _] rfl Try.func22 (by kernel_rfl) (List.Perm.refl _) (fun w hh hs => ikeys_spec ba n Ta 0 M2 ra2 w (by omega) hra2 hs)) ?_
        rintro vk _ w12 ⟨_, rfl, l1, rfl, hl1, hs1⟩
        refine wl_gf rfl rfl (f_move rfl) ?_
        refine wl_ge rfl rfl (e_call1 rb2 [_, _, _] rfl Try.func22 (by kernel_rfl) (pk1 2 rfl) (fun w hh hs => ikeys_spec bb n Tb 7 M2 rb2 w (by omega) hrb2 hs)) ?_
        rintro vk2 _ w13 ⟨_, rfl, l2, rfl, hl2, hs2⟩
        obtain rfl := srts_unique hs1 hs2 (hl1.trans hl2.symm)
        have hll : l1.length ≤ 140737488355328 := by
          have h5 := hra2.len
          have h6 := hl1.length_eq
          rw [keys, List.length_map] at h6
          omega
        refine wl_ge rfl rfl (e_call0 rfl Try.func21 (by kernel_rfl) (fun w hh => sameTexts_spec _ _ l1 l1 w (Rd.held0 hh (i := 2) rfl) (Rd.held0 hh (i := 0) rfl) hll hll)) ?_
        rintro _ _ w14 ⟨_, rfl, rfl, rfl⟩
        refine wl_gf rfl rfl (f_eqv (v' := .bool false) (f_not rfl rfl) (by simp)) ?_
        refine wl_pick [3, 1, 2] rfl ?_
        exact wl_pend rfl rfl ⟨rfl, rfl, rfl, rfl, rfl, trivial⟩ (List.Sublist.refl _)
      refine wl_end [(1, _), (5, _), (7, _), (9, _), (11, _), (126, _)] ⟨rfl, rfl, rfl, rfl, rfl, rfl, trivial⟩ ?_
      refine w_ifb rfl (fun h => absurd h (by simp)) (fun _ => ?_)
      refine w_skip ?_
      refine w_reg ?_
      refine wl_f (f_move rfl) ?_
      refine wl_f (f_add rfl rfl (by omega)) ?_
      refine wl_f (f_assign rfl) ?_
      refine wl_end [(1, _), (5, _), (7, _), (9, _), (11, _)] ⟨rfl, rfl, rfl, rfl, rfl, trivial⟩ ?_
      exact ⟨kk - 1, by omega, i + 1, M2, ra2, rb2, p2, rfl, rfl, hra2, hrb2, by omega, by omega, hp2⟩
  · skip
    refine w_exit0 ?_
    refine w_seq ?_
    refine w_reg ?_
    refine wl_e (e_call0 rfl Try.func14 (by kernel_rfl) (fun w hh => awake10_spec w)) ?_
    rintro _ _ w20 ⟨_, rfl, rfl⟩
    refine wl_f (f_assign rfl) ?_
    refine wl_end [(4, _)] ⟨rfl, trivial⟩ ?_
    refine w_ret ?_
    refine ⟨_, _, fun a ha hh => results_tmps Try.results4 rfl a ha _, List.Sublist.refl _, ?_⟩
    rfl
end Go.Proofs.Ytmppbpajncpjnaa
