/- Linked lists: the example of the chapter; the law ChainTexts. -/
import Derived.Test.YtkabdnijhjccoaaCA
namespace Go.Proofs.Ytkabdnijhjccoaa
open Go.RowKit

theorem inew_ok (k : Nat) (h : 1 ≤ k ∧ k ≤ 8192) {r : Value} {H : List Res} (hs : ((((k : Nat) : Int) < 1 ∨ 8192 < ((k : Nat) : Int)) ∧ r = .tuple #[.pointer .none, .int .i64 1] ∧ H = []) ∨
    ∃ (k' b : Nat) (r' : Res), ((k : Nat) : Int) = k' ∧ 1 ≤ k' ∧ k' ≤ 8192 ∧ r = .tuple #[.pointer (some ⟨b, 0, .none⟩), .int .i64 0] ∧ H = [r'] ∧ ChR kInt b k' [] r') :
    ∃ (b : Nat) (r' : Res), r = .tuple #[.pointer (some ⟨b, 0, .none⟩), .int .i64 0] ∧ H = [r'] ∧ ChR kInt b k [] r' := by
  rcases hs with ⟨h', _⟩ | ⟨k', b, r', e, _, _, h1, h2, h3⟩
  · omega
  · obtain rfl : k = k' := by omega
    exact ⟨b, r', h1, h2, h3⟩
theorem lit_i3 (a b c : Int) (w : World) : (Instr.buildSlice 33 3 [(0, .int .i64 a), (1, .int .i64 b), (2, .int .i64 c)].toArray).run Try.prog w =
    .ok (.slice (some ⟨w.heap.size, 0, .none⟩) 3 3) (w.alloc (.cells (iv [a, b, c]).toArray 3)) := by kernel_rfl

set_option maxHeartbeats 2000000 in
theorem awake11_spec (w : World) : Spec Try.prog 16 [] w Nil fun r H => r = .bool true := by
  refine enter (n := 58) Try.func16 rfl rfl [] rfl trivial (Holds.start _ _) ?_
  refine w_seq ?_
  refine w_reg ?_
  refine wl_f (f_assign rfl) ?_
  refine wl_end [] trivial ?_
  refine w_seq ?_
  refine w_reg ?_
  refine wl_e (e_call0 rfl Try.func17 (by kernel_rfl) (fun w hh => inew_spec 5 w)) ?_
  rintro u _ w1 ⟨H1, rfl, hH⟩
  obtain ⟨b, r0, rfl, rfl, hr0⟩ := inew_ok 5 (by omega) hH
  clear hH
  refine wl_f (f_move rfl) ?_
  refine wl_f (f_extract rfl rfl) ?_
  refine wl_f (f_extract rfl rfl) ?_
  refine wl_f (f_assign rfl) ?_
  refine wl_f (f_assign rfl) ?_
  refine wl_end [(1, _), (2, _)] ⟨rfl, rfl, trivial⟩ ?_
  refine w_seq ?_
  refine w_seq ?_
  refine w_reg ?_
  refine wl_f (f_move rfl) ?_
  refine wl_f (f_neq rfl rfl) ?_
  refine wl_f (f_move rfl) ?_
  refine wl_or (j := 2) (c := false) 2 [(1, _)] ⟨rfl, trivial⟩ rfl rfl rfl rfl rfl (fun hg2_5 => ?_) (fun w2_5 => ?_)
  · skip
    refine wl_gf rfl rfl (f_move rfl) ?_
    refine wl_gf rfl rfl (f_eqlnil rfl rfl Try.underlying34) ?_
    exact wl_pend rfl rfl ⟨rfl, trivial⟩ (List.Sublist.refl _)
  refine wl_end [(1, _), (16, _)] ⟨rfl, rfl, trivial⟩ ?_
  refine w_iff rfl ?_
  refine w_skip ?_
  refine w_seq ?_
  refine w_reg ?_
  refine wl_f (f_move rfl) ?_
  refine wl_e (e_call1 r0 [] rfl Try.func28 (by kernel_rfl) (List.Perm.refl _) (fun w hh hs => ipushBack_spec b 5 [] 7 r0 w (by omega) hr0 hs)) ?_
  rintro u _ w2 ⟨H1, rfl, hH⟩
  obtain ⟨r1, rfl, rfl, hr1⟩ := hH.ok (by decide) 0 (by decide)
  clear hH
  refine wl_end [(1, _)] ⟨rfl, trivial⟩ ?_
  refine w_seq ?_
  refine w_reg ?_
  refine wl_f (f_move rfl) ?_
  refine wl_e (e_call1 r1 [] rfl Try.func28 (by kernel_rfl) (List.Perm.refl _) (fun w hh hs => ipushBack_spec b 5 [(0, 7)] 8 r1 w (by omega) hr1 hs)) ?_
  rintro u _ w3 ⟨H1, rfl, hH⟩
  obtain ⟨r2, rfl, rfl, hr2⟩ := hH.ok (by decide) 1 (by decide)
  clear hH
  refine wl_end [(1, _)] ⟨rfl, trivial⟩ ?_
  refine w_seq ?_
  refine w_reg ?_
  refine wl_f (f_move rfl) ?_
  refine wl_e (e_call1 r2 [] rfl Try.func31 (by kernel_rfl) (List.Perm.refl _) (fun w hh hs => iInsertAfter_spec b 5 [(0, 7), (1, 8)] 0 9 r2 w (by omega) hr2 hs)) ?_
  rintro u _ w4 ⟨H1, rfl, hH⟩
  obtain ⟨r3, rfl, rfl, hr3⟩ := (BehindG.ok (A := []) (y := 0) hH (by decide)).ok (by decide) 2 (by decide)
  clear hH
  refine wl_f (f_move rfl) ?_
  refine wl_f (f_extract rfl rfl) ?_
  refine wl_f (f_extract rfl rfl) ?_
  refine wl_f (f_assign rfl) ?_
  refine wl_f (f_assign rfl) ?_
  refine wl_end [(1, _), (3, _)] ⟨rfl, rfl, trivial⟩ ?_
  refine w_seq ?_
  refine w_seq ?_
  refine w_reg ?_
  refine wl_f (f_move rfl) ?_
  refine wl_f (f_neq rfl rfl) ?_
  refine wl_f (f_move rfl) ?_
  refine wl_or (j := 2) (c := false) 5 [(1, _)] ⟨rfl, trivial⟩ rfl rfl rfl rfl rfl (fun hg7_8 => ?_) (fun w7_8 => ?_)
  · skip
    refine wl_gf rfl rfl (f_move rfl) ?_
    refine wl_ge rfl rfl (e_call1 r3 [] rfl Try.func38 (by kernel_rfl) (List.Perm.refl _) (fun w hh hs => ivalues_spec b 5 [(0, 7), (2, 9), (1, 8)] r3 w (by omega) hr3 hs)) ?_
    rintro V1 _ w5 ⟨H1, rfl, rfl⟩
    refine wl_ge rfl rfl (e_litrow (e := 3) (sz := 1) rfl (fun w => lit_i3 7 9 8 w) rfl (by decide)) ?_
    rintro _ _ w7_5 ⟨b7_5, rfl, rfl⟩
    refine wl_ge rfl rfl (e_call0 rfl Try.func37 (by kernel_rfl) (fun w hh => sameInts_spec _ _ [7, 9, 8] [7, 9, 8] w (Rd.held0 hh (i := 1) rfl) (Rd.held0 hh (i := 0) rfl) (by decide) (by decide))) ?_
    rintro _ _ w6 ⟨_, rfl, rfl, rfl⟩
    refine wl_gf rfl rfl (f_not rfl rfl) ?_
    exact wl_pend rfl rfl ⟨rfl, trivial⟩ (List.sublist_append_right [_, _] [_])
  refine wl_end [(1, _), (34, _)] ⟨rfl, rfl, trivial⟩ ?_
  refine w_iff rfl ?_
  refine w_skip ?_
  refine w_seq ?_
  refine w_reg ?_
  refine wl_f (f_move rfl) ?_
  refine wl_e (e_call1 r3 [] rfl Try.func33 (by kernel_rfl) (List.Perm.refl _) (fun w hh hs => iRemove_spec b 5 [(0, 7), (2, 9), (1, 8)] 1 r3 w (by omega) hr3 hs)) ?_
  rintro u _ w7 ⟨H1, rfl, hH⟩
  obtain ⟨r4, rfl, rfl, hr4⟩ := RemG.ok (A := [(0, 7), (2, 9)]) (y := 1) hH (by decide)
  clear hH
  refine wl_end [(1, _)] ⟨rfl, trivial⟩ ?_
  refine w_seq ?_
  refine w_reg ?_
  refine wl_f (f_move rfl) ?_
  refine wl_e (e_call1 r4 [] rfl Try.func30 (by kernel_rfl) (List.Perm.refl _) (fun w hh hs => ipushFront_spec b 5 [(0, 7), (2, 9)] 5 r4 w (by omega) hr4 hs)) ?_
  rintro u _ w8 ⟨H1, rfl, hH⟩
  obtain ⟨r5, rfl, rfl, hr5⟩ := hH.ok (by decide) 1 (by decide)
  clear hH
  refine wl_f (f_move rfl) ?_
  refine wl_f (f_extract rfl rfl) ?_
  refine wl_f (f_extract rfl rfl) ?_
  refine wl_f (f_assign rfl) ?_
  refine wl_f (f_assign rfl) ?_
  refine wl_end [(1, _), (5, _), (6, _)] ⟨rfl, rfl, rfl, trivial⟩ ?_
  refine w_seq ?_
  refine w_reg ?_
  refine wl_f (f_move rfl) ?_
  refine wl_f (f_eql rfl rfl) ?_
  refine wl_f (f_move rfl) ?_
  refine wl_and (j := 2) (c := true) 2 [(1, _)] ⟨rfl, trivial⟩ rfl rfl rfl rfl rfl (fun hg11_5 => ?_) (fun w11_5 => ?_)
  · skip
    refine wl_gf rfl rfl (f_move rfl) ?_
    refine wl_gf rfl rfl (f_eql rfl rfl) ?_
    exact wl_pend rfl rfl ⟨rfl, trivial⟩ (List.Sublist.refl _)
  refine wl_f (f_move rfl) ?_
  refine wl_and (j := 6) (c := true) 3 [(1, _)] ⟨rfl, trivial⟩ rfl rfl rfl rfl rfl (fun hg11_10 => ?_) (fun w11_10 => ?_)
  · skip
    refine wl_gf rfl rfl (f_move rfl) ?_
    refine wl_ge rfl rfl (e_call1 r5 [] rfl Try.func43 (by kernel_rfl) (List.Perm.refl _) (fun w hh hs => ifirst_spec b 5 _ r5 w hr5 hs)) ?_
    rintro _ _ w9 ⟨_, rfl, rfl, rfl⟩
    refine wl_gf rfl rfl (f_eql rfl rfl) ?_
    exact wl_pend rfl rfl ⟨rfl, trivial⟩ (List.Sublist.refl _)
  refine wl_f (f_move rfl) ?_
  refine wl_and (j := 11) (c := true) 3 [] trivial rfl rfl rfl rfl rfl (fun hg11_15 => ?_) (fun w11_15 => ?_)
  · skip
    refine wl_gf rfl rfl (f_move rfl) ?_
    refine wl_ge rfl rfl (e_call1 r5 [] rfl Try.func44 (by kernel_rfl) (List.Perm.refl _) (fun w hh hs => ilast_spec b 5 _ r5 w hr5 hs)) ?_
    rintro _ _ w10 ⟨_, rfl, rfl, rfl⟩
    refine wl_gf rfl rfl (f_eql rfl rfl) ?_
    exact wl_pend rfl rfl trivial (List.Sublist.refl _)
  refine wl_f (f_assign rfl) ?_
  refine wl_end [(0, _)] ⟨rfl, trivial⟩ ?_
  refine w_ret ?_
  refine ⟨_, _, fun a ha hh => results_tmps Try.results16 rfl a ha _, List.Sublist.refl _, ?_⟩
  rfl
end Go.Proofs.Ytkabdnijhjccoaa
