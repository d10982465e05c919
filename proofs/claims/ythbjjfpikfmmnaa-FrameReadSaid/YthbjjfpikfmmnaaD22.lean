/- The reference's decoder of an event. -/
import Derived.Test.YthbjjfpikfmmnaaD21
namespace Go.Proofs.Ythbjjfpikfmmnaa
open Go.RowKit

theorem build_rreader (A : Option Addr) (n c : Nat) (w : World) : (Instr.build 80 [(0, .slice A n c)].toArray).run Try.prog w = .ok (.agg [.slice A n c, .int .i64 0].toArray) w := by kernel_rfl

set_option maxHeartbeats 2000000 in
theorem rdecode_spec : DecSpec 29 := by
  intro v xs w hr hn hb
  obtain ⟨A, c, rfl, hlen, hcap, hA⟩ := id hr
  have hd : decF xs = if (tagsF xs (numF xs 8 5 (numF xs 18446744073709551615 1 (numF xs 1099511627776 1 (0, 0)).2).2).1 (numF xs 8 5 (numF xs 18446744073709551615 1 (numF xs 1099511627776 1 (0, 0)).2).2).2).2.2 ≠ 0 then
      (([], 0, 0, 0), (tagsF xs (numF xs 8 5 (numF xs 18446744073709551615 1 (numF xs 1099511627776 1 (0, 0)).2).2).1 (numF xs 8 5 (numF xs 18446744073709551615 1 (numF xs 1099511627776 1 (0, 0)).2).2).2).2.2)
    else (((tagsF xs (numF xs 8 5 (numF xs 18446744073709551615 1 (numF xs 1099511627776 1 (0, 0)).2).2).1 (numF xs 8 5 (numF xs 18446744073709551615 1 (numF xs 1099511627776 1 (0, 0)).2).2).2).1, (numF xs 1099511627776 1 (0, 0)).1,
      (numF xs 18446744073709551615 1 (numF xs 1099511627776 1 (0, 0)).2).1, (tagsF xs (numF xs 8 5 (numF xs 18446744073709551615 1 (numF xs 1099511627776 1 (0, 0)).2).2).1 (numF xs 8 5 (numF xs 18446744073709551615 1 (numF xs 1099511627776 1 (0, 0)).2).2).2).2.1), 0) := rfl
  have hx1 := numF_le xs 1099511627776 1 (0, 0)
  refine enter (n := 55) Try.func29 rfl rfl [(0, _)] rfl ⟨rfl, trivial⟩ (Holds.start _ _) ?_
  refine w_seq ?_
  refine w_reg ?_
  refine wl_e (e_allocs [.slice .none 0 0, .int .i64 0, .int .u64 0] (by kernel_rfl)) ?_
  rintro _ _ w0_0 ⟨b0_0, rfl, rfl⟩
  refine wl_f (f_assign rfl) ?_
  refine wl_f (f_assign rfl) ?_
  refine wl_end [(0, _), (2, _)] ⟨rfl, rfl, trivial⟩ ?_
  refine w_seq ?_
  refine w_reg ?_
  refine wl_f (f_move rfl) ?_
  refine wl_f (f_build rfl (fun w => build_rreader _ _ _ w)) ?_
  refine wl_e (e_box (cs := [_, _]) rfl rfl) ?_
  rintro _ _ w1_2 ⟨b1_2, rfl, rfl⟩
  refine wl_f (f_assign rfl) ?_
  refine wl_end [(0, _), (2, _), (5, _)] ⟨rfl, rfl, rfl, trivial⟩ ?_
  refine w_seq ?_
  refine w_reg ?_
  refine wl_e (e_allocs [.slice .none 0 0, .int .i64 0, .int .u64 0] (by kernel_rfl)) ?_
  rintro _ _ w2_0 ⟨b2_0, rfl, rfl⟩
  have hr0 : Rst b1_2 A xs.length c (0, 0) (blk b1_2 [.slice A xs.length c, .int .i64 0] 80) := ⟨0, A, rfl, Nat.zero_le _, fun _ => by cases A <;> simp [Addr.add], fun _ => rfl⟩
  refine wl_end [(0, _), (2, _), (5, _), (6, _)] ⟨rfl, rfl, rfl, rfl, trivial⟩ ?_
  refine w_seq ?_
  refine w_reg ?_
  refine wl_f (f_move rfl) ?_
  refine wl_e (e_call1 (blk b1_2 [.slice A xs.length c, .int .i64 0] 80) [_, _] rfl Try.func42 (by kernel_rfl) (pk1 1 rfl) (fun w hh hs => rupto_spec b1_2 A c xs (0, 0) _ w (hr.old1 (r := blk b1_2 [.slice A xs.length c, .int .i64 0] 80) hh (pk1 1 rfl)) hn hb hr0 hs 1099511627776 1 (by omega) (by omega))) ?_
  rintro _ _ w1 ⟨_, rfl, rfl, r1, rfl, hr1⟩
  generalize numF xs 1099511627776 1 (0, 0) = x1 at hd hx1 hr1 ⊢
  have hx2 := numF_le xs 18446744073709551615 1 x1.2
  refine wl_f (f_fieldAddr 1 rfl Try.underlying40 rfl rfl (by kernel_rfl)) ?_
  (first | refine wl_e0 (e_store0 (us := [_]) rfl rfl rfl (by kernel_rfl) (by simp [Value.oneCell']) rfl rfl) ?_ | refine wl_e0 (e_store1 (us := [_]) rfl rfl rfl (by kernel_rfl) (by simp [Value.oneCell']) rfl rfl) ?_ | refine wl_e0 (e_store2 (us := [_]) rfl rfl rfl (by kernel_rfl) (by simp [Value.oneCell']) rfl rfl) ?_ | refine wl_e0 (e_store3 (us := [_]) rfl rfl rfl (by kernel_rfl) (by simp [Value.oneCell']) rfl rfl) ?_)
  rintro _ _ w3_3 rfl
  refine wl_end [(0, _), (2, _), (5, _), (6, _)] ⟨rfl, rfl, rfl, rfl, trivial⟩ ?_
  refine w_seq ?_
  refine w_reg ?_
  refine wl_f (f_move rfl) ?_
  refine wl_e (e_call1 r1 [_, _] rfl Try.func43 (by kernel_rfl) (List.Perm.refl _) (fun w hh hs => rnumber_spec b1_2 A c xs x1.2 r1 w (hr1.foot ▸ hr.old1 (r := r1) hh (List.Perm.refl _)) hn hb hr1 hs)) ?_
  rintro _ _ w2 ⟨_, rfl, rfl, r2, rfl, hr2⟩
  generalize numF xs 18446744073709551615 1 x1.2 = x2 at hd hx2 hr2 ⊢
  have hx3 := numF_le xs 8 5 x2.2
  refine wl_f (f_fieldAddr 2 rfl Try.underlying40 rfl rfl (by kernel_rfl)) ?_
  (first | refine wl_e0 (e_store0 (us := [_]) rfl rfl rfl (by kernel_rfl) (by simp [Value.oneCell']) rfl rfl) ?_ | refine wl_e0 (e_store1 (us := [_]) rfl rfl rfl (by kernel_rfl) (by simp [Value.oneCell']) rfl rfl) ?_ | refine wl_e0 (e_store2 (us := [_]) rfl rfl rfl (by kernel_rfl) (by simp [Value.oneCell']) rfl rfl) ?_ | refine wl_e0 (e_store3 (us := [_]) rfl rfl rfl (by kernel_rfl) (by simp [Value.oneCell']) rfl rfl) ?_)
  rintro _ _ w4_3 rfl
  refine wl_end [(0, _), (2, _), (5, _), (6, _)] ⟨rfl, rfl, rfl, rfl, trivial⟩ ?_
  refine w_seq ?_
  refine w_seq ?_
  refine w_reg ?_
  refine wl_f (f_move rfl) ?_
  refine wl_e (e_call1 r2 [_, _] rfl Try.func42 (by kernel_rfl) (List.Perm.refl _) (fun w hh hs => rupto_spec b1_2 A c xs x2.2 r2 w (hr2.foot ▸ hr.old1 (r := r2) hh (List.Perm.refl _)) hn hb hr2 hs 8 5 (by omega) (by omega))) ?_
  rintro _ _ w3 ⟨_, rfl, rfl, r3, rfl, hr3⟩
  generalize numF xs 8 5 x2.2 = x3 at hd hx3 hr3 ⊢
  refine wl_f (f_assign rfl) ?_
  refine wl_end [(0, _), (2, _), (5, _), (6, _), (7, _)] ⟨rfl, rfl, rfl, rfl, rfl, trivial⟩ ?_
  refine w_block ?_
  refine w_nilrow 52 2 ?_
  refine w_loop (fun k m H w => ∃ (tv : Value) (done : List Tg) (s : Nat × Int) (r : Res), m = [(0, .slice A xs.length c), (2, .pointer (some ⟨b0_0, 0, .none⟩)), (5, .pointer (some ⟨b1_2, 0, .none⟩)), (6, .pointer (some ⟨b2_0, 0, .none⟩)), (7, .int .i64 k)] ∧
    H = [row tv 52 2 done.length (tcells done), r, blk b2_0 [tv, .int .i64 x1.1, .int .u64 x2.1] 40, blk b0_0 [.slice .none 0 0, .int .i64 0, .int .u64 0] 40] ∧
    done.length + k = x3.1 ∧ Rst b1_2 A xs.length c s r ∧ tagsF xs x3.1 x3.2 = (done ++ (tagsF xs k s).1, (tagsF xs k s).2)) x3.1
    ⟨_, [], x3.2, r3, rfl, rfl, by simp, hr3, by simp⟩ ?_
  rintro k _ _ w4 ⟨tv, done, s, r, rfl, rfl, hk, hrs, htf⟩
  refine w_with fun hh => ?_
  obtain ⟨U, cu, rfl⟩ := row_slice hh (i := 0) rfl
  clear hh
  refine w_seq ?_
  refine w_seq ?_
  refine w_reg ?_
  refine wl_f (f_move rfl) ?_
  refine wl_f (f_gtr rfl rfl) ?_
  refine wl_end [(0, _), (2, _), (5, _), (6, _), (7, _), (21, _)] ⟨rfl, rfl, rfl, rfl, rfl, rfl, trivial⟩ ?_
  refine w_ifd rfl (fun hc1 => ?_) (fun hc1 => ?_)
  · skip
    obtain ⟨q, rfl⟩ : ∃ q, k = q + 1 := ⟨k - 1, by omega⟩
    simp only [tagsF] at htf
    refine w_skip ?_
    refine w_seq ?_
    refine w_block ?_
    refine w_seq ?_
    refine w_reg ?_
    refine wl_e (e_allocs [.string ByteArray.empty, .string ByteArray.empty] (by kernel_rfl)) ?_
    rintro _ _ w8_0 ⟨b8_0, rfl, rfl⟩
    refine wl_end [(0, _), (2, _), (5, _), (6, _), (7, _), (8, _)] ⟨rfl, rfl, rfl, rfl, rfl, rfl, trivial⟩ ?_
    refine w_seq ?_
    refine w_reg ?_
    refine wl_f (f_move rfl) ?_
    refine wl_e (e_call1 r [_, _, _, _] rfl Try.func44 (by kernel_rfl) (pk1 2 rfl) (fun w hh hs => rtext_spec b1_2 A c xs s r w (hrs.foot ▸ hr.old1 (r := r) hh (pk1 2 rfl)) hn hb hrs hs)) ?_
    rintro _ _ w5 ⟨_, rfl, rfl, r4, rfl, hr4⟩
    refine wl_f (f_fieldAddr 0 rfl Try.underlying52 rfl rfl (by kernel_rfl)) ?_
    (first | refine wl_e0 (e_store0 (us := [_]) rfl rfl rfl (by kernel_rfl) (by simp [Value.oneCell']) rfl rfl) ?_ | refine wl_e0 (e_store1 (us := [_]) rfl rfl rfl (by kernel_rfl) (by simp [Value.oneCell']) rfl rfl) ?_ | refine wl_e0 (e_store2 (us := [_]) rfl rfl rfl (by kernel_rfl) (by simp [Value.oneCell']) rfl rfl) ?_ | refine wl_e0 (e_store3 (us := [_]) rfl rfl rfl (by kernel_rfl) (by simp [Value.oneCell']) rfl rfl) ?_)
    rintro _ _ w9_3 rfl
    refine wl_end [(0, _), (2, _), (5, _), (6, _), (7, _), (8, _)] ⟨rfl, rfl, rfl, rfl, rfl, rfl, trivial⟩ ?_
    refine w_seq ?_
    refine w_reg ?_
    refine wl_f (f_move rfl) ?_
    refine wl_e (e_call1 r4 [_, _, _, _] rfl Try.func44 (by kernel_rfl) (List.Perm.refl _) (fun w hh hs => rtext_spec b1_2 A c xs _ r4 w (hr4.foot ▸ hr.old1 (r := r4) hh (List.Perm.refl _)) hn hb hr4 hs)) ?_
    rintro _ _ w6 ⟨_, rfl, rfl, r5, rfl, hr5⟩
    refine wl_f (f_fieldAddr 1 rfl Try.underlying52 rfl rfl (by kernel_rfl)) ?_
    (first | refine wl_e0 (e_store0 (us := [_]) rfl rfl rfl (by kernel_rfl) (by simp [Value.oneCell']) rfl rfl) ?_ | refine wl_e0 (e_store1 (us := [_]) rfl rfl rfl (by kernel_rfl) (by simp [Value.oneCell']) rfl rfl) ?_ | refine wl_e0 (e_store2 (us := [_]) rfl rfl rfl (by kernel_rfl) (by simp [Value.oneCell']) rfl rfl) ?_ | refine wl_e0 (e_store3 (us := [_]) rfl rfl rfl (by kernel_rfl) (by simp [Value.oneCell']) rfl rfl) ?_)
    rintro _ _ w10_3 rfl
    refine wl_end [(0, _), (2, _), (5, _), (6, _), (7, _), (8, _)] ⟨rfl, rfl, rfl, rfl, rfl, rfl, trivial⟩ ?_
    refine w_pick [2, 2, 0, 0, 0] rfl ?_
    refine w_reg ?_
    refine wl_f (f_fieldAddr 0 rfl Try.underlying40 rfl rfl (by kernel_rfl)) ?_
    (first | refine wl_f (f_loadb 0 rfl Try.underlying37 rfl rfl rfl) ?_ | refine wl_f (f_loadb 1 rfl Try.underlying37 rfl rfl rfl) ?_ | refine wl_f (f_loadb 2 rfl Try.underlying37 rfl rfl rfl) ?_ | refine wl_f (f_loadb 3 rfl Try.underlying37 rfl rfl rfl) ?_ | refine wl_f (f_loadb 4 rfl Try.underlying37 rfl rfl rfl) ?_ | refine wl_f (f_loadb 5 rfl Try.underlying37 rfl rfl rfl) ?_ | refine wl_f (f_loadb 6 rfl Try.underlying37 rfl rfl rfl) ?_)
    (first | refine wl_f (f_loadsb (cs := [_, _]) 0 rfl Try.underlying52 rfl (by kernel_rfl) rfl rfl) ?_ | refine wl_f (f_loadsb (cs := [_, _]) 1 rfl Try.underlying52 rfl (by kernel_rfl) rfl rfl) ?_ | refine wl_f (f_loadsb (cs := [_, _]) 2 rfl Try.underlying52 rfl (by kernel_rfl) rfl rfl) ?_ | refine wl_f (f_loadsb (cs := [_, _]) 3 rfl Try.underlying52 rfl (by kernel_rfl) rfl rfl) ?_ | refine wl_f (f_loadsb (cs := [_, _]) 4 rfl Try.underlying52 rfl (by kernel_rfl) rfl rfl) ?_ | refine wl_f (f_loadsb (cs := [_, _]) 5 rfl Try.underlying52 rfl (by kernel_rfl) rfl rfl) ?_ | refine wl_f (f_loadsb (cs := [_, _]) 6 rfl Try.underlying52 rfl (by kernel_rfl) rfl rfl) ?_)
    refine wl_e (e_lit1 (cs := [_, _]) t37 rfl rfl rfl (by omega)) ?_
    rintro _ _ w11_3 ⟨b11_3, rfl, rfl⟩
    refine wl_e (e_appS1 t37 rfl rfl (fun w hh => Rd.held0 hh (i := 0) rfl) (by simp [Value.oneCell']) (by omega) (by omega)) ?_
    rintro _ _ w7 ⟨⟨A', cap', rfl⟩, rfl⟩
    refine wl_f (f_fieldAddr 0 rfl Try.underlying40 rfl rfl (by kernel_rfl)) ?_
    (first | refine wl_e0 (e_store0 (us := [_]) rfl rfl rfl (by kernel_rfl) (by simp [Value.oneCell']) rfl rfl) ?_ | refine wl_e0 (e_store1 (us := [_]) rfl rfl rfl (by kernel_rfl) (by simp [Value.oneCell']) rfl rfl) ?_ | refine wl_e0 (e_store2 (us := [_]) rfl rfl rfl (by kernel_rfl) (by simp [Value.oneCell']) rfl rfl) ?_ | refine wl_e0 (e_store3 (us := [_]) rfl rfl rfl (by kernel_rfl) (by simp [Value.oneCell']) rfl rfl) ?_)
    rintro _ _ w11_6 rfl
    refine wl_pick [1, 2, 1, 2] rfl ?_
    refine wl_end [(0, _), (2, _), (5, _), (6, _), (7, _)] ⟨rfl, rfl, rfl, rfl, rfl, trivial⟩ ?_
    refine w_reg ?_
    refine wl_f (f_move rfl) ?_
    refine wl_f (f_sub rfl rfl (by omega)) ?_
    refine wl_f (f_assign rfl) ?_
    refine wl_end [(0, _), (2, _), (5, _), (6, _), (7, _)] ⟨rfl, rfl, rfl, rfl, rfl, trivial⟩ ?_
    refine ⟨q, by omega, .slice A' (done.length + 1) cap', done ++ [((textF xs s).1, (textF xs (textF xs s).2).1)], (textF xs (textF xs s).2).2, r5, ?_, ?_, by simp; omega, hr5, by rw [htf]; simp⟩
    · rw [show ((q + 1 : Nat) : Int) - 1 = (q : Int) by omega]
    · rw [List.length_append, tcells_app]; rfl
  · skip
    obtain rfl : k = 0 := by omega
    simp only [tagsF, List.append_nil] at htf
    rw [htf] at hd
    obtain ⟨q, A', rfl, hq, hA', hqs⟩ := hrs
    refine w_exit0 ?_
    refine w_seq ?_
    refine w_seq ?_
    refine w_reg ?_
    refine wl_f (f_move rfl) ?_
    refine wl_f (f_nilCheck rfl) ?_
    refine wl_f (f_fieldAddr 1 rfl Try.underlying80 rfl rfl (by kernel_rfl)) ?_
    (first | refine wl_f (f_loadb 0 rfl Try.underlying25 rfl rfl rfl) ?_ | refine wl_f (f_loadb 1 rfl Try.underlying25 rfl rfl rfl) ?_ | refine wl_f (f_loadb 2 rfl Try.underlying25 rfl rfl rfl) ?_ | refine wl_f (f_loadb 3 rfl Try.underlying25 rfl rfl rfl) ?_ | refine wl_f (f_loadb 4 rfl Try.underlying25 rfl rfl rfl) ?_ | refine wl_f (f_loadb 5 rfl Try.underlying25 rfl rfl rfl) ?_ | refine wl_f (f_loadb 6 rfl Try.underlying25 rfl rfl rfl) ?_)
    refine wl_f (f_neq rfl rfl) ?_
    refine wl_end [(0, _), (2, _), (5, _), (6, _), (40, _)] ⟨rfl, rfl, rfl, rfl, rfl, trivial⟩ ?_
    refine w_ifd rfl (fun hc2 => ?_) (fun hc2 => ?_)
    · skip
      rw [if_pos hc2] at hd
      refine w_pick [1, 2] rfl ?_
      refine w_nilrow 52 2 ?_
      refine w_seq ?_
      refine w_draw [(0, true), (1, true), (2, true), (3, true), (4, true), (5, false), (6, true), (7, true)] ([_, _]) ([_]) mixed (by kernel_rfl) (by kernel_rfl) rfl (List.Perm.refl _) (fun w13_ => ?_)
      refine wd_f rfl (f_build rfl (fun w => build_ev0 w)) ?_
      refine wd_f rfl (f_move rfl) ?_
      refine wd_f rfl (f_nilCheck rfl) ?_
      refine wd_f rfl (f_fieldAddr 1 rfl Try.underlying80 rfl rfl (by kernel_rfl)) ?_
      (first | refine wd_f rfl (f_loadb 0 rfl Try.underlying25 rfl rfl rfl) ?_ | refine wd_f rfl (f_loadb 1 rfl Try.underlying25 rfl rfl rfl) ?_ | refine wd_f rfl (f_loadb 2 rfl Try.underlying25 rfl rfl rfl) ?_ | refine wd_f rfl (f_loadb 3 rfl Try.underlying25 rfl rfl rfl) ?_ | refine wd_f rfl (f_loadb 4 rfl Try.underlying25 rfl rfl rfl) ?_ | refine wd_f rfl (f_loadb 5 rfl Try.underlying25 rfl rfl rfl) ?_ | refine wd_f rfl (f_loadb 6 rfl Try.underlying25 rfl rfl rfl) ?_)
      (first | refine wd_e0 rfl (e_store0 (us := [_, _, _]) rfl rfl rfl (by kernel_rfl) (by simp [Value.oneCell']) rfl rfl) ?_ | refine wd_e0 rfl (e_store1 (us := [_, _, _]) rfl rfl rfl (by kernel_rfl) (by simp [Value.oneCell']) rfl rfl) ?_ | refine wd_e0 rfl (e_store2 (us := [_, _, _]) rfl rfl rfl (by kernel_rfl) (by simp [Value.oneCell']) rfl rfl) ?_ | refine wd_e0 rfl (e_store3 (us := [_, _, _]) rfl rfl rfl (by kernel_rfl) (by simp [Value.oneCell']) rfl rfl) ?_)
      rintro _ _ w13_5 rfl
      refine ⟨_, List.Perm.refl _, ?_⟩
      refine wd_f rfl (f_assign rfl) ?_
      refine wd_f rfl (f_assign rfl) ?_
      refine wd_end [(2, _), (3, _), (4, _)] ⟨rfl, rfl, rfl, trivial⟩ ?_
      refine w_ret ?_
      refine ⟨_, _, fun a ha hh => results_mix Try.results29 (rm_cell (cell_agg 2 rfl Try.underlying40 rfl (by kernel_rfl) rfl) (rm_tmp rfl (rm_tmp rfl rm_nil))) a ha _ hh, (List.Sublist.refl [_]).trans (List.sublist_append_left [_] [_, _]), ?_⟩
      exact ⟨_, by rw [hd]; rfl, by rw [hd]; rfl⟩
    · skip
      rw [if_neg hc2] at hd
      have hq1 := hqs (by simpa using hc2)
      refine w_skip ?_
      refine w_seq ?_
      refine w_draw [(0, true), (1, true), (2, true), (3, true), (4, true), (5, true), (6, true), (7, true), (8, true), (9, false), (10, true), (11, true)] ([_, _, _]) ([_]) mixed (by kernel_rfl) (by kernel_rfl) rfl (List.Perm.refl _) (fun w14_ => ?_)
      (first | refine wd_f rfl (f_loadsb (cs := [_, _, _]) 0 rfl Try.underlying40 rfl (by kernel_rfl) rfl rfl) ?_ | refine wd_f rfl (f_loadsb (cs := [_, _, _]) 1 rfl Try.underlying40 rfl (by kernel_rfl) rfl rfl) ?_ | refine wd_f rfl (f_loadsb (cs := [_, _, _]) 2 rfl Try.underlying40 rfl (by kernel_rfl) rfl rfl) ?_ | refine wd_f rfl (f_loadsb (cs := [_, _, _]) 3 rfl Try.underlying40 rfl (by kernel_rfl) rfl rfl) ?_ | refine wd_f rfl (f_loadsb (cs := [_, _, _]) 4 rfl Try.underlying40 rfl (by kernel_rfl) rfl rfl) ?_ | refine wd_f rfl (f_loadsb (cs := [_, _, _]) 5 rfl Try.underlying40 rfl (by kernel_rfl) rfl rfl) ?_ | refine wd_f rfl (f_loadsb (cs := [_, _, _]) 6 rfl Try.underlying40 rfl (by kernel_rfl) rfl rfl) ?_)
      refine wd_f rfl (f_move rfl) ?_
      refine wd_f rfl (f_len rfl Try.underlying22) ?_
      refine wd_f rfl (f_move rfl) ?_
      refine wd_f rfl (f_nilCheck rfl) ?_
      refine wd_f rfl (f_fieldAddr 0 rfl Try.underlying80 rfl rfl (by kernel_rfl)) ?_
      (first | refine wd_f rfl (f_loadb 0 rfl Try.underlying22 rfl rfl rfl) ?_ | refine wd_f rfl (f_loadb 1 rfl Try.underlying22 rfl rfl rfl) ?_ | refine wd_f rfl (f_loadb 2 rfl Try.underlying22 rfl rfl rfl) ?_ | refine wd_f rfl (f_loadb 3 rfl Try.underlying22 rfl rfl rfl) ?_ | refine wd_f rfl (f_loadb 4 rfl Try.underlying22 rfl rfl rfl) ?_ | refine wd_f rfl (f_loadb 5 rfl Try.underlying22 rfl rfl rfl) ?_ | refine wd_f rfl (f_loadb 6 rfl Try.underlying22 rfl rfl rfl) ?_)
      refine wd_f rfl (f_len rfl Try.underlying22) ?_
      refine wd_f rfl (f_sub rfl rfl (by omega)) ?_
      (first | refine wd_e0 rfl (e_store0 (us := [_, _, _]) rfl rfl rfl (by kernel_rfl) (by simp [Value.oneCell']) rfl rfl) ?_ | refine wd_e0 rfl (e_store1 (us := [_, _, _]) rfl rfl rfl (by kernel_rfl) (by simp [Value.oneCell']) rfl rfl) ?_ | refine wd_e0 rfl (e_store2 (us := [_, _, _]) rfl rfl rfl (by kernel_rfl) (by simp [Value.oneCell']) rfl rfl) ?_ | refine wd_e0 rfl (e_store3 (us := [_, _, _]) rfl rfl rfl (by kernel_rfl) (by simp [Value.oneCell']) rfl rfl) ?_)
      rintro _ _ w14_9 rfl
      refine ⟨_, List.Perm.refl _, ?_⟩
      refine wd_f rfl (f_assign rfl) ?_
      refine wd_f rfl (f_assign rfl) ?_
      refine wd_end [(2, _), (3, _), (4, _)] ⟨rfl, rfl, rfl, trivial⟩ ?_
      refine w_ret ?_
      refine ⟨_, _, fun a ha hh => results_mix Try.results29 (rm_cell (cell_agg 3 rfl Try.underlying40 rfl (by kernel_rfl) rfl) (rm_tmp rfl (rm_tmp rfl rm_nil))) a ha _ hh, (List.Sublist.refl [_]).trans (List.sublist_append_left [_] [_, _, _]), ?_⟩
      refine ⟨_, ?_, by rw [hd]⟩
      rw [hd, show ((xs.length : Nat) : Int) - ((xs.length - q : Nat) : Int) = (s.1 : Int) by omega]
      rfl
end Go.Proofs.Ythbjjfpikfmmnaa
