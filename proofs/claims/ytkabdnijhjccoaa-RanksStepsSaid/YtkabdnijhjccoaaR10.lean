/- Orders by count: the example of the chapter. -/
import Derived.Test.YtkabdnijhjccoaaR9
namespace Go.Proofs.Ytkabdnijhjccoaa
open Go.RowKit

theorem RkO.new {b n : Nat} {r : Res} (h : RkR b n [] r) : RkO b n [] r := ⟨[], rfl, h⟩
theorem lit_i2 (a b : Int) (w : World) : (Instr.buildSlice 33 2 [(0, .int .i64 a), (1, .int .i64 b)].toArray).run Try.prog w =
    .ok (.slice (some ⟨w.heap.size, 0, .none⟩) 2 2) (w.alloc (.cells (iv [a, b]).toArray 3)) := by kernel_rfl
set_option maxHeartbeats 2000000 in
theorem awake12_spec (w : World) : Spec Try.prog 49 [] w Nil fun r H => r = .bool true := by
  refine enter (n := 38) Try.func49 rfl rfl [] rfl trivial (Holds.start _ _) ?_
  refine w_seq ?_
  refine w_reg ?_
  refine wl_f (f_assign rfl) ?_
  refine wl_end [] trivial ?_
  refine w_seq ?_
  refine w_reg ?_
  refine wl_e (e_call0 rfl Try.func45 (by kernel_rfl) (fun w hh => rknew_ok 4 w (by omega) (by omega))) ?_
  rintro u _ w1 ⟨_, rfl, b, r0, rfl, rfl, hr⟩
  have hr0 := RkO.new hr
  clear hr
  refine wl_f (f_move rfl) ?_
  refine wl_f (f_extract rfl rfl) ?_
  refine wl_f (f_extract rfl rfl) ?_
  refine wl_f (f_assign rfl) ?_
  refine wl_f (f_assign rfl) ?_
  refine wl_end [(1, _), (2, _)] ⟨rfl, rfl, trivial⟩ ?_
  refine w_seq ?_
  refine w_seq ?_
  refine w_reg ?_
  refine wl_f (f_move rfl) ?_
  refine wl_f (f_neq rfl rfl) ?_
  refine wl_f (f_move rfl) ?_
  refine wl_or (j := 2) (c := false) 2 [(1, _)] ⟨rfl, trivial⟩ rfl rfl rfl rfl rfl (fun hg2_5 => ?_) (fun w2_5 => ?_)
  · skip
    refine wl_gf rfl rfl (f_move rfl) ?_
    refine wl_gf rfl rfl (f_eqlnil rfl rfl Try.underlying59) ?_
    exact wl_pend rfl rfl ⟨rfl, trivial⟩ (List.Sublist.refl _)
  refine wl_end [(1, _), (15, _)] ⟨rfl, rfl, trivial⟩ ?_
  refine w_iff rfl ?_
  refine w_skip ?_
  refine w_seq ?_
  refine w_reg ?_
  refine wl_f (f_move rfl) ?_
  refine wl_e (e_call1 r0 [] rfl Try.func46 (by kernel_rfl) (List.Perm.refl _) (fun w hh hs => rkinsert_spec b 4 [] r0 0 5 w hr0 hs)) ?_
  rw [show oins 4 [] 0 5 = (0, [(0, 5)]) by decide]
  rintro _ _ w2 ⟨_, rfl, rfl, r1, rfl, hr1⟩
  refine wl_f (f_move rfl) ?_
  refine wl_e (e_call1 r1 [] rfl Try.func46 (by kernel_rfl) (List.Perm.refl _) (fun w hh hs => rkinsert_spec b 4 _ r1 1 3 w hr1 hs)) ?_
  rw [show oins 4 [(0, 5)] 1 3 = (0, [(1, 3), (0, 5)]) by decide]
  rintro _ _ w3 ⟨_, rfl, rfl, r2, rfl, hr2⟩
  refine wl_f (f_move rfl) ?_
  refine wl_e (e_call1 r2 [] rfl Try.func47 (by kernel_rfl) (List.Perm.refl _) (fun w hh hs => rkraise_spec b 4 _ r2 1 2 w (by omega) hr2 hs)) ?_
  rw [show orai [(1, 3), (0, 5)] 1 2 = (0, [(0, 5), (1, 5)]) by decide]
  rintro _ _ w4 ⟨_, rfl, rfl, r3, rfl, _, hr3⟩
  refine wl_f (f_assign rfl) ?_
  refine wl_f (f_assign rfl) ?_
  refine wl_f (f_assign rfl) ?_
  refine wl_end [(1, _), (3, _), (4, _), (5, _)] ⟨rfl, rfl, rfl, rfl, trivial⟩ ?_
  refine w_seq ?_
  refine w_reg ?_
  refine wl_f (f_move rfl) ?_
  refine wl_f (f_eql rfl rfl) ?_
  refine wl_f (f_move rfl) ?_
  refine wl_and (j := 2) (c := true) 2 [(1, _), (5, _)] ⟨rfl, rfl, trivial⟩ rfl rfl rfl rfl rfl (fun hg5_5 => ?_) (fun w5_5 => ?_)
  · skip
    refine wl_gf rfl rfl (f_move rfl) ?_
    refine wl_gf rfl rfl (f_eql rfl rfl) ?_
    exact wl_pend rfl rfl ⟨rfl, rfl, trivial⟩ (List.Sublist.refl _)
  refine wl_f (f_move rfl) ?_
  refine wl_and (j := 6) (c := true) 2 [(1, _)] ⟨rfl, trivial⟩ rfl rfl rfl rfl rfl (fun hg5_9 => ?_) (fun w5_9 => ?_)
  · skip
    refine wl_gf rfl rfl (f_move rfl) ?_
    refine wl_gf rfl rfl (f_eql rfl rfl) ?_
    exact wl_pend rfl rfl ⟨rfl, trivial⟩ (List.Sublist.refl _)
  refine wl_f (f_move rfl) ?_
  refine wl_and (j := 10) (c := true) 4 [] trivial rfl rfl rfl rfl rfl (fun hg5_15 => ?_) (fun w5_15 => ?_)
  · skip
    refine wl_gf rfl rfl (f_move rfl) ?_
    refine wl_ge rfl rfl (e_call1 r3 [] rfl Try.func48 (by kernel_rfl) (List.Perm.refl _) (fun w hh hs => rkorder_spec b 4 _ r3 w hr3 hs)) ?_
    rintro V1 _ w5 ⟨H1, rfl, rfl⟩
    refine wl_ge rfl rfl (e_litrow (e := 3) (sz := 1) rfl (fun w => lit_i2 0 1 w) rfl (by decide)) ?_
    rintro _ _ w5_13 ⟨b5_13, rfl, rfl⟩
    refine wl_ge rfl rfl (e_call0 rfl Try.func37 (by kernel_rfl) (fun w hh => sameInts_spec _ _ [0, 1] [0, 1] w (Rd.held0 hh (i := 1) rfl) (Rd.held0 hh (i := 0) rfl) (by decide) (by decide))) ?_
    rintro _ _ w6 ⟨_, rfl, rfl, rfl⟩
    exact wl_pend rfl rfl trivial (List.sublist_append_right [_, _] [_])
  refine wl_f (f_assign rfl) ?_
  refine wl_end [(0, _)] ⟨rfl, trivial⟩ ?_
  refine w_ret ?_
  refine ⟨_, _, fun a ha hh => results_tmps Try.results49 rfl a ha _, List.Sublist.refl _, ?_⟩
  rfl
end Go.Proofs.Ytkabdnijhjccoaa
