/- Frames: the example. -/
import Derived.Test.YthbjjfpikfmmnaaF6
namespace Go.Proofs.Ythbjjfpikfmmnaa
open Go.RowKit

theorem lit_evs3 (A1 A2 A3 : Option Addr) (l1 l2 l3 c1 c2 c3 : Nat) (t1 t2 t3 u1 u2 u3 : Int) (w : World) :
    (Instr.buildSlice 28 3 [(0, .agg [.slice A1 l1 c1, .int .i64 t1, .int .u64 u1].toArray), (1, .agg [.slice A2 l2 c2, .int .i64 t2, .int .u64 u2].toArray), (2, .agg [.slice A3 l3 c3, .int .i64 t3, .int .u64 u3].toArray)].toArray).run Try.prog w =
      .ok (.slice (some ⟨w.heap.size, 0, .none⟩) 3 3) (w.alloc (.cells [.slice A1 l1 c1, .int .i64 t1, .int .u64 u1, .slice A2 l2 c2, .int .i64 t2, .int .u64 u2, .slice A3 l3 c3, .int .i64 t3, .int .u64 u3].toArray 40)) := by kernel_rfl
def awE (v1 v2 : Value) : List Ev := [(v1, [(⟨#[97]⟩, ⟨#[]⟩)], 1, 2), (v2, [(⟨#[65]⟩, ⟨#[]⟩)], 1, 2), (v1, [(⟨#[97]⟩, ⟨#[]⟩)], 1, 2)]
def awB : List Nat := [3, 1, 2, 1, 1, 97, 0, 1, 2, 1, 1, 65, 0, 1, 2, 1, 1, 97, 0]
def awI : List In := [(([1, 97, 0], 1, 2), 0), (([], 0, 0), 1), (([1, 97, 0], 1, 2), 0)]
theorem aw_body (v1 v2 : Value) : bodyOut (awE v1 v2) = (awB, 0) := by
  have h : bodyOut (awE v1 v2) = bodyOut (awE (.bool true) (.bool true)) := rfl
  rw [h]; decide +kernel
theorem aw_read : readF awB 255 = awI := by decide +kernel

set_option maxHeartbeats 2000000 in
theorem fawake_spec (w : World) : Spec Try.prog 8 [] w Nil fun r H => r = .bool true ∧ H = [] := by
  refine enter (n := 60) Try.func8 rfl rfl [] rfl trivial (Holds.start _ _) ?_
  refine w_seq ?_
  refine w_reg ?_
  refine wl_f (f_assign rfl) ?_
  refine wl_end [] trivial ?_
  refine w_seq ?_
  refine w_reg ?_
  refine wl_f (f_build rfl (fun w => build_tag0 _ w)) ?_
  refine wl_e (e_lit1 (cs := [_, _]) t37 rfl rfl rfl (by omega)) ?_
  rintro _ _ w1_1 ⟨b1_1, rfl, rfl⟩
  refine wl_f (f_build rfl (fun w => build_ev _ _ _ _ _ w)) ?_
  refine wl_f (f_build rfl (fun w => build_tag0 _ w)) ?_
  refine wl_e (e_lit1 (cs := [_, _]) t37 rfl rfl rfl (by omega)) ?_
  rintro _ _ w1_4 ⟨b1_4, rfl, rfl⟩
  refine wl_f (f_build rfl (fun w => build_ev _ _ _ _ _ w)) ?_
  refine wl_e (e_allocs [.slice .none 0 0, .int .i64 0, .int .u64 0] (by kernel_rfl)) ?_
  rintro _ _ w1_6 ⟨b1_6, rfl, rfl⟩
  refine wl_e (e_allocs [.slice .none 0 0, .int .i64 0, .int .u64 0] (by kernel_rfl)) ?_
  rintro _ _ w1_7 ⟨b1_7, rfl, rfl⟩
  (first | refine wl_e0 (e_store0 (us := [_, _, _]) rfl rfl rfl (by kernel_rfl) (by simp [Value.oneCell']) rfl rfl) ?_ | refine wl_e0 (e_store1 (us := [_, _, _]) rfl rfl rfl (by kernel_rfl) (by simp [Value.oneCell']) rfl rfl) ?_ | refine wl_e0 (e_store2 (us := [_, _, _]) rfl rfl rfl (by kernel_rfl) (by simp [Value.oneCell']) rfl rfl) ?_ | refine wl_e0 (e_store3 (us := [_, _, _]) rfl rfl rfl (by kernel_rfl) (by simp [Value.oneCell']) rfl rfl) ?_)
  rintro _ _ w1_8 rfl
  (first | refine wl_e0 (e_store0 (us := [_, _, _]) rfl rfl rfl (by kernel_rfl) (by simp [Value.oneCell']) rfl rfl) ?_ | refine wl_e0 (e_store1 (us := [_, _, _]) rfl rfl rfl (by kernel_rfl) (by simp [Value.oneCell']) rfl rfl) ?_ | refine wl_e0 (e_store2 (us := [_, _, _]) rfl rfl rfl (by kernel_rfl) (by simp [Value.oneCell']) rfl rfl) ?_ | refine wl_e0 (e_store3 (us := [_, _, _]) rfl rfl rfl (by kernel_rfl) (by simp [Value.oneCell']) rfl rfl) ?_)
  rintro _ _ w1_9 rfl
  refine wl_end [(1, _), (2, _)] ⟨rfl, rfl, trivial⟩ ?_
  refine w_seq ?_
  refine w_reg ?_
  refine wl_f (f_loadsb (cs := [_, _, _]) 1 rfl Try.underlying40 rfl (by kernel_rfl) rfl rfl) ?_
  refine wl_f (f_loadsb (cs := [_, _, _]) 0 rfl Try.underlying40 rfl (by kernel_rfl) rfl rfl) ?_
  refine wl_f (f_loadsb (cs := [_, _, _]) 1 rfl Try.underlying40 rfl (by kernel_rfl) rfl rfl) ?_
  refine wl_e (e_litrow (e := 40) (sz := 3) rfl (fun w => lit_evs3 _ _ _ _ _ _ _ _ _ _ _ _ _ _ _ w) rfl (by decide)) ?_
  rintro _ _ w2_3 ⟨b2_3, rfl, rfl⟩
  refine wl_e (e_call0 rfl Try.func15 (by kernel_rfl) (fun w hh => body_spec _ (awE (.slice (some ⟨b1_1, 0, .none⟩) 1 1) (.slice (some ⟨b1_4, 0, .none⟩) 1 1)) w ⟨Rd.held0 hh (i := 0) rfl, ?_⟩ (by show 3 ≤ 1000000; omega))) ?_
  · intro x hx
    simp only [awE, List.mem_cons, List.not_mem_nil, or_false] at hx
    rcases hx with rfl | rfl | rfl
    · exact ⟨Rd.held0 hh (i := 4) rfl, by show 1 ≤ 1000000; omega, by show (-9223372036854775808 : Int) ≤ 1 ∧ (1 : Int) ≤ 9223372036854775807; omega, by show 2 < 18446744073709551616; omega⟩
    · exact ⟨Rd.held0 hh (i := 3) rfl, by show 1 ≤ 1000000; omega, by show (-9223372036854775808 : Int) ≤ 1 ∧ (1 : Int) ≤ 9223372036854775807; omega, by show 2 < 18446744073709551616; omega⟩
    · exact ⟨Rd.held0 hh (i := 4) rfl, by show 1 ≤ 1000000; omega, by show (-9223372036854775808 : Int) ≤ 1 ∧ (1 : Int) ≤ 9223372036854775807; omega, by show 2 < 18446744073709551616; omega⟩
  rintro _ _ w1 ⟨_, rfl, V1, rfl, rfl⟩
  rw [aw_body]
  refine wl_with fun hh => ?_
  obtain ⟨U1, c1, rfl⟩ := row_slice hh (i := 0) rfl
  clear hh
  refine wl_f (f_move rfl) ?_
  refine wl_f (f_extract rfl rfl) ?_
  refine wl_f (f_extract rfl rfl) ?_
  refine wl_f (f_assign rfl) ?_
  refine wl_f (f_assign rfl) ?_
  refine wl_pick [0] rfl ?_
  refine wl_end [(3, _), (4, _)] ⟨rfl, rfl, trivial⟩ ?_
  refine w_seq ?_
  refine w_reg ?_
  refine wl_f (f_move rfl) ?_
  refine wl_e (e_call0 rfl Try.func13 (by kernel_rfl) (fun w hh => readIn_spec U1 c1 awB 255 w (Rd.held0 hh (i := 0) rfl) (by decide) (by decide))) ?_
  rintro V2 _ w2 ⟨_, rfl, rfl⟩
  rw [aw_read]
  refine wl_with fun hh => ?_
  obtain ⟨g, c2, rfl⟩ := row_form hh (i := 0) rfl (by decide)
  clear hh
  refine wl_f (f_assign rfl) ?_
  refine wl_pick [0] rfl ?_
  refine wl_end [(4, _), (5, _)] ⟨rfl, rfl, trivial⟩ ?_
  refine w_seq ?_
  have hal : awI.length = 3 := rfl
  refine w_draw [(0, true), (1, true), (2, true), (3, true), (4, true), (5, true), (6, true), (7, true), (8, true), (9, true), (10, true), (11, true), (12, true), (13, true), (14, true), (15, true), (16, true), (17, true), (18, true), (19, true), (20, true), (21, true), (22, true), (23, true), (24, true), (25, true), (26, true), (27, true), (28, true), (29, true), (30, true), (31, true), (32, true), (33, true), (34, true), (35, true), (36, true), (37, true), (38, true)] ([_]) ([]) mixed (by kernel_rfl) (by kernel_rfl) rfl (perm_all _) (fun w4_ => ?_)
  refine wd_f rfl (f_move rfl) ?_
  refine wd_f rfl (f_eql rfl rfl) ?_
  refine wd_f rfl (f_move rfl) ?_
  refine wd_gf rfl rfl rfl (f_move rfl) ?_
  refine wd_gf rfl rfl rfl (f_len rfl Try.underlying34) ?_
  refine wd_gf rfl rfl rfl (f_eql rfl rfl) ?_
  refine wd_f rfl (f_pick rfl rfl rfl) ?_
  refine wd_f rfl (f_move rfl) ?_
  refine wd_gf rfl rfl rfl (f_move rfl) ?_
  refine wd_gf rfl rfl rfl (f_indexAddr 4 (i := 0) rfl rfl Try.underlying34 (by kernel_rfl) rfl (by decide)) ?_
  refine wd_gf rfl rfl rfl (f_fieldAddr 3 rfl Try.underlying46 rfl rfl (by kernel_rfl)) ?_
  refine wd_gf rfl rfl rfl (f_loadr (v := .int .i64 0) 0 rfl Try.underlying3 rfl rfl rfl) ?_
  refine wd_gf rfl rfl rfl (f_eql rfl rfl) ?_
  refine wd_f rfl (f_pick rfl rfl rfl) ?_
  refine wd_f rfl (f_move rfl) ?_
  refine wd_gf rfl rfl rfl (f_move rfl) ?_
  refine wd_gf rfl rfl rfl (f_indexAddr 4 (i := 1) rfl rfl Try.underlying34 (by kernel_rfl) rfl (by decide)) ?_
  refine wd_gf rfl rfl rfl (f_fieldAddr 3 rfl Try.underlying46 rfl rfl (by kernel_rfl)) ?_
  refine wd_gf rfl rfl rfl (f_loadr (v := .int .i64 1) 0 rfl Try.underlying3 rfl rfl rfl) ?_
  refine wd_gf rfl rfl rfl (f_eql rfl rfl) ?_
  refine wd_f rfl (f_pick rfl rfl rfl) ?_
  refine wd_f rfl (f_move rfl) ?_
  refine wd_gf rfl rfl rfl (f_move rfl) ?_
  refine wd_gf rfl rfl rfl (f_indexAddr 4 (i := 2) rfl rfl Try.underlying34 (by kernel_rfl) rfl (by decide)) ?_
  refine wd_gf rfl rfl rfl (f_loadsr (cs := [.string (str [1, 97, 0]), .int .i64 1, .int .u64 2, .int .i64 0]) 0 rfl Try.underlying46 rfl (by kernel_rfl) rfl rfl) ?_
  refine wd_gf rfl rfl rfl (f_move rfl) ?_
  refine wd_gf rfl rfl rfl (f_indexAddr 4 (i := 0) rfl rfl Try.underlying34 (by kernel_rfl) rfl (by decide)) ?_
  refine wd_gf rfl rfl rfl (f_loadsr (cs := [.string (str [1, 97, 0]), .int .i64 1, .int .u64 2, .int .i64 0]) 0 rfl Try.underlying46 rfl (by kernel_rfl) rfl rfl) ?_
  refine wd_gf rfl rfl rfl (f_bin rfl rfl (fun w => run_eqGuard_agg w _ _ _ _ _ _ (by kernel_rfl)) (fun w => eqlIn _ _ _ _ _ _ _ _ w)) ?_
  refine wd_f rfl (f_pick rfl rfl rfl) ?_
  refine wd_f rfl (f_move rfl) ?_
  refine wd_gf rfl rfl rfl (f_move rfl) ?_
  refine wd_gf rfl rfl rfl (f_indexAddr 4 (i := 0) rfl rfl Try.underlying34 (by kernel_rfl) rfl (by decide)) ?_
  refine wd_gf rfl rfl rfl (f_fieldAddr 0 rfl Try.underlying46 rfl rfl (by kernel_rfl)) ?_
  refine wd_gf rfl rfl rfl (f_fieldAddr 2 rfl Try.underlying42 rfl rfl (by kernel_rfl)) ?_
  refine wd_gf rfl rfl rfl (f_loadr (v := .int .u64 2) 0 rfl Try.underlying38 rfl rfl rfl) ?_
  refine wd_gf rfl rfl rfl (f_eql rfl rfl) ?_
  refine wd_f rfl (f_pick rfl rfl rfl) ?_
  refine wd_f rfl (f_assign rfl) ?_
  refine wd_end [(0, _)] ⟨rfl, trivial⟩ ?_
  refine w_drop [] (List.nil_sublist _) ?_
  refine w_ret ?_
  refine ⟨_, _, fun a ha hh => results_tmps Try.results8 rfl a ha _, List.Sublist.refl _, ?_⟩
  exact ⟨rfl, rfl⟩
end Go.Proofs.Ythbjjfpikfmmnaa
