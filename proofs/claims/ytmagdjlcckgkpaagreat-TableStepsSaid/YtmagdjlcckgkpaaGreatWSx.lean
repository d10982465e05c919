/- The law TableSteps: the call returns true. -/
import Derived.Test.YtmagdjlcckgkpaaGreatMB11
namespace Go.Proofs.YtmagdjlcckgkpaaGreat
open Go.RowKit

theorem andi_nat (x : Int) (m : Nat) (hm : m < 9223372036854775808) : ∃ n : Nat, bits .and .i64 x (m : Int) = n ∧ n ≤ m := by
  have h := and_bound13 x m hm
  exact ⟨(bits .and .i64 x m).toNat, by omega, by omega⟩
theorem new_rt {q mode m : Nat} {r : Res} (hmode : mode = 1 ∨ mode = 2) (h : RtR q mode m [] 0 0 r) : RtR q (TS.new mode m).mode m [] (TS.new mode m).base (TS.new mode m).total r := by
  rcases hmode with rfl | rfl <;> exact h
set_option maxHeartbeats 16000000 in
theorem tableSteps_spec (sv : Bool) (z : Nat) (A1 : Option Addr) (c1 : Nat) (L1 : List Int) (A2 : Option Addr) (c2 : Nat) (L2 : List Int) (w : World) (hz : z < 256)
    (h1 : Rd w Nil 1 (.slice A1 L1.length c1) L1.length (iv L1)) (hL1 : L1.length ≤ 140737488355328) (h2 : Rd w Nil 1 (.slice A2 L2.length c2) L2.length (iv L2)) (hL2 : L2.length ≤ 140737488355328) :
    Spec Tryz.prog 7 [.bool sv, .int .u8 z, .slice A1 L1.length c1, .slice A2 L2.length c2] w Nil fun r _ => r = .bool true := by
  obtain ⟨A', c', e, hxl, hxc, hxA⟩ := id h2
  injection e with e1 _ e3
  subst e1; subst e3
  refine enter (n := 195) Tryz.func7 rfl rfl [(0, _), (1, _), (2, _), (3, _)] rfl ⟨rfl, rfl, rfl, rfl, trivial⟩ (Holds.start _ _) ?_
  refine w_seq (w_reg (wl_f (f_assign rfl) (wl_end [(0, _), (1, _), (2, _), (3, _)] ⟨rfl, rfl, rfl, rfl, trivial⟩ ?_)))
  refine w_seq (w_reg (wl_f (f_move rfl) (wl_f (f_convi rfl Tryz.underlying5 Tryz.underlying3 (by omega)) ?_)))
  refine wl_f (f_rem rfl rfl (by omega)) ?_
  refine wl_f (f_eqv (v' := .int .i64 ((1 + z % 5 : Nat) : Int)) (f_add rfl rfl (by omega)) (by congr 1)) ?_
  obtain ⟨m, hm, hm1, hm6⟩ : ∃ m, 1 + z % 5 = m ∧ 1 ≤ m ∧ m ≤ 5 := ⟨_, rfl, by omega, by omega⟩
  rw [hm]
  refine wl_f (f_assign rfl) (wl_f (f_assign rfl) (wl_end [(0, _), (2, _), (3, _), (9, _), (10, _)] ⟨rfl, rfl, rfl, rfl, rfl, trivial⟩ ?_))
  refine w_seq (w_seq (w_reg (wl_f (f_move rfl) (wl_end [(2, _), (3, _), (9, _), (10, _), (36, _)] ⟨rfl, rfl, rfl, rfl, rfl, trivial⟩ ?_))))
  refine w_post (fun m' H w' => ∃ mode : Nat, m' = [(2, .slice A1 L1.length c1), (3, .slice A2 L2.length c2), (9, .int .i64 mode), (10, .int .i64 m)] ∧ H = [] ∧ (mode = 1 ∨ mode = 2)) ?_ ?_
  · skip
    refine w_ifb rfl (fun hc1 => ?_) (fun hc1 => ?_)
    · skip
      refine w_reg (wl_f (f_assign rfl) (wl_end [(2, _), (3, _), (9, _), (10, _)] ⟨rfl, rfl, rfl, rfl, trivial⟩ ?_))
      exact ⟨1, rfl, rfl, .inl rfl⟩
    · skip
      refine w_sub [(2, _), (3, _), (9, _), (10, _)] ⟨rfl, rfl, rfl, rfl, trivial⟩ (w_skip ?_)
      exact ⟨2, rfl, rfl, .inr rfl⟩
  · rintro _ _ w0 ⟨mode, rfl, rfl, hmode⟩
    refine w_seq (w_reg (wl_f (f_move rfl) (wl_f (f_move rfl) (wl_e (e_call0 rfl Tryz.func8 (by kernel_rfl) (fun w hh => tnew_ok mode m w hmode hm1 (by omega))) ?_))))
    rintro _ _ w1 ⟨_, rfl, t, r0, rfl, rfl, hr0⟩
    refine wl_f (f_move rfl) (wl_f (f_extract rfl rfl) ?_)
    refine wl_f (f_extract rfl rfl) ?_
    refine wl_f (f_assign rfl) (wl_f (f_assign rfl) (wl_end [(2, _), (3, _), (9, _), (10, _), (11, _), (12, _)] ⟨rfl, rfl, rfl, rfl, rfl, rfl, trivial⟩ ?_))
    refine w_seq (w_reg (wl_f (f_move rfl) (wl_f (f_move rfl) (wl_e (e_call0 rfl Tryz.func22 (by kernel_rfl) (fun w hh => rtnew_ok mode m w hmode hm1 (by omega))) ?_))))
    rintro _ _ w2 ⟨_, rfl, q, rq0, rfl, rfl, hq0⟩
    refine wl_f (f_move rfl) (wl_f (f_extract rfl rfl) ?_)
    refine wl_f (f_extract rfl rfl) ?_
    refine wl_f (f_assign rfl) (wl_f (f_assign rfl) (wl_end [(2, _), (3, _), (11, _), (12, _), (13, _), (14, _)] ⟨rfl, rfl, rfl, rfl, rfl, rfl, trivial⟩ ?_))
    refine w_seq (w_seq (w_reg (wl_f (f_move rfl) (wl_f (f_neq rfl rfl) ?_))))
    refine wl_f (f_move rfl) ?_
    refine wl_or (j := 2) (c := false) 2 [(2, _), (3, _), (11, _), (13, _)] ⟨rfl, rfl, rfl, rfl, trivial⟩ rfl rfl rfl rfl rfl (fun hg6_5 => ?_) (fun w6_5 => ?_)
    · skip
      refine wl_gf rfl rfl (f_move rfl) ?_
      refine wl_gf rfl rfl (f_neq rfl rfl) ?_
      exact wl_pend rfl rfl ⟨rfl, rfl, rfl, rfl, trivial⟩ (List.Sublist.refl _)
    refine wl_f (f_move rfl) ?_
    refine wl_or (j := 6) (c := false) 2 [(2, _), (3, _), (11, _), (13, _)] ⟨rfl, rfl, rfl, rfl, trivial⟩ rfl rfl rfl rfl rfl (fun hg6_9 => ?_) (fun w6_9 => ?_)
    · skip
      refine wl_gf rfl rfl (f_move rfl) ?_
      refine wl_gf rfl rfl (f_eqlnil rfl rfl Tryz.underlying24) ?_
      exact wl_pend rfl rfl ⟨rfl, rfl, rfl, rfl, trivial⟩ (List.Sublist.refl _)
    refine wl_end [(2, _), (3, _), (11, _), (13, _), (58, _)] ⟨rfl, rfl, rfl, rfl, rfl, trivial⟩ ?_
    refine w_iff rfl ?_
    refine w_skip ?_
    refine w_seq (w_reg (wl_f (f_move rfl) (wl_e (e_call0 rfl Tryz.func9 (by kernel_rfl) (fun w hh => new_spec A1 L1.length c1 w)) ?_)))
    rintro _ _ w2 ⟨_, rfl, bd, rfl, rfl⟩
    refine wl_f (f_assign rfl) (wl_pick [2, 1, 0] rfl ?_)
    refine wl_end [(3, _), (11, _), (13, _), (15, _)] ⟨rfl, rfl, rfl, rfl, trivial⟩ ?_
    refine w_seq (w_seq (w_reg (wl_f (f_assign rfl) (wl_end [(3, _), (11, _), (13, _), (15, _), (16, _)] ⟨rfl, rfl, rfl, rfl, rfl, trivial⟩ ?_))))
    refine w_block ?_
    refine w_loop (fun kk m' H w' => ∃ (i : Nat) (S : TS) (r : Res) (L : List En) (rq : Res) (p : Nat), m' = [(3, .slice A2 L2.length c2), (11, .pointer (some ⟨t, 0, .none⟩)), (13, .pointer (some ⟨q, 0, .none⟩)), (15, .pointer (some ⟨bd, 0, .none⟩)), (16, .int .i64 i)] ∧
      H = [r, rq, deck bd (.slice A1 L1.length c1) p] ∧ TbS t m S r ∧ TsJ m S ∧ RtR q S.mode m L S.base S.total rq ∧ RelS L S ∧ kk + i = 60 ∧ i ≤ L2.length ∧ p ≤ L1.length) 60
      ⟨0, _, r0, [], rq0, 0, rfl, rfl, hr0, TsJ.new mode m hm1, new_rt hmode hq0, RelS.new, rfl, Nat.zero_le _, Nat.zero_le _⟩ ?_
    rintro kk _ _ w3 ⟨i, S, r, L, rq, p, rfl, rfl, hr, hJ, hq, hR, hkk, hiL, hp⟩
    refine w_seq (w_seq (w_reg (wl_f (f_move rfl) (wl_f (f_move rfl) (wl_f (f_len rfl Tryz.underlying22) ?_)))))
    refine wl_f (f_lss rfl rfl) ?_
    refine wl_f (f_move rfl) ?_
    refine wl_and (j := 4) (c := decide ((i : Int) < 60)) 2 [(3, _), (11, _), (13, _), (15, _), (16, _)] ⟨rfl, rfl, rfl, rfl, rfl, trivial⟩ rfl rfl rfl rfl rfl (fun hg10_7 => ?_) (fun w10_7 => ?_)
    · skip
      refine wl_gf rfl rfl (f_move rfl) ?_
      refine wl_gf rfl rfl (f_lss rfl rfl) ?_
      exact wl_pend rfl rfl ⟨rfl, rfl, rfl, rfl, rfl, trivial⟩ (List.Sublist.refl _)
    refine wl_end [(3, _), (11, _), (13, _), (15, _), (16, _), (68, _)] ⟨rfl, rfl, rfl, rfl, rfl, rfl, trivial⟩ ?_
    refine w_ifb rfl (fun hc3 => ?_) (fun hc3 => ?_)
    · skip
      simp only [Bool.and_eq_true, decide_eq_true_eq] at hc3
      have hi : i < L2.length := by omega
      obtain ⟨s, hsi⟩ : ∃ s, L2[i]? = some s := ⟨_, List.getElem?_eq_getElem hi⟩
      obtain ⟨b2, off, rfl, _, _, hcell⟩ := hxA.resolve_left (by omega)
      have hU := hr.uq
      have hSl := hr.len
      have hLl := hR.len hU
      refine w_skip ?_
      refine w_seq (w_block ?_)
      refine w_seq ?_
      refine w_draw [(0, true), (1, true), (2, true), (3, true), (4, true), (5, false), (6, true), (7, true)] ([]) ([_, _, _]) mixed (by kernel_rfl) (by kernel_rfl) rfl (List.Perm.refl _) (fun w12_ => ?_)
      refine wd_f rfl (f_move rfl) (wd_f rfl (f_move rfl) (wd_f rfl (f_indexAddr 1 (i := i) rfl rfl Tryz.underlying22 (by kernel_rfl) rfl hi) ?_))
      refine wd_f rfl (f_loado (v := .int .i64 s) rfl Tryz.underlying3 rfl (hcell _ _ (by simp [iv, hsi])) id) ?_
      refine wd_f rfl (f_move rfl) (wd_e rfl (e_call1 (deck bd (.slice A1 L1.length c1) p) [_, _] rfl Tryz.func10 (by kernel_rfl) (pk1 2 rfl) (fun w hh hs' => short3_spec bd _ L1 p w ⟨h1.old1 hh (pk1 2 rfl), hL1, hp⟩ hs')) ?_)
      rintro _ _ w4 ⟨_, rfl, key, p2, rfl, hk3, rfl, hp2⟩
      have hks : small key := small_of (by omega)
      refine ⟨_, List.Perm.refl _, ?_⟩
      refine wd_f rfl (f_assign rfl) (wd_f rfl (f_assign rfl) (wd_endp [(3, _), (11, _), (13, _), (15, _), (16, _), (17, _), (18, _)] [1, 1, 0] ⟨rfl, rfl, rfl, rfl, rfl, rfl, rfl, trivial⟩ rfl ?_))
      refine w_seq (w_seq (w_reg (wl_f (f_move rfl) (wl_f (f_and rfl rfl rfl) ?_))))
      generalize bits .and .i64 s 7 = s7
      refine wl_end [(3, _), (11, _), (13, _), (15, _), (16, _), (17, _), (18, _), (78, _)] ⟨rfl, rfl, rfl, rfl, rfl, rfl, rfl, rfl, trivial⟩ ?_
      refine w_post (fun m' H w' => ∃ (S : TS) (r : Res) (L : List En) (rq : Res) (p : Nat), m' = [(3, .slice (some ⟨b2, off, .none⟩) L2.length c2), (11, .pointer (some ⟨t, 0, .none⟩)), (13, .pointer (some ⟨q, 0, .none⟩)), (15, .pointer (some ⟨bd, 0, .none⟩)), (16, .int .i64 i), (18, .string key)] ∧
        H = [r, rq, deck bd (.slice A1 L1.length c1) p] ∧ TbS t m S r ∧ TsJ m S ∧ RtR q S.mode m L S.base S.total rq ∧ RelS L S ∧ p ≤ L1.length) ?_ ?_
      · skip
        refine w_block ?_
        refine w_seq (w_reg (wl_f (f_eql rfl rfl) ?_))
        refine wl_f (f_assign rfl) (wl_end [(3, _), (11, _), (13, _), (15, _), (16, _), (17, _), (18, _), (78, _), (94, _)] ⟨rfl, rfl, rfl, rfl, rfl, rfl, rfl, rfl, rfl, trivial⟩ ?_)
        refine w_ifd rfl (fun hc4 => ?_) (fun hc4 => ?_)
        · skip
          refine w_seq (w_reg (wl_f (f_move rfl) (wl_f (f_move rfl) (wl_e (e_call1 r [_, _] rfl Tryz.func17 (by kernel_rfl) (List.Perm.refl _) (fun w hh hs => ttake_spec key hks hr hs)) ?_))))
          rintro _ _ w5 ⟨_, rfl, k', o', s', is, S1, r1, rfl, rfl, hr1, hg, hT⟩
          refine wl_f (f_move rfl) (wl_f (f_extract rfl rfl) ?_)
          refine wl_f (f_extract rfl rfl) ?_
          refine wl_e (e_allocs [.string ByteArray.empty, .int .u64 0, .int .u64 0] (by kernel_rfl)) ?_
          rintro _ _ w17_6 ⟨b17_6, rfl, rfl⟩
          refine wl_e0 (e_store0 (us := [_, _, _]) rfl rfl rfl (by kernel_rfl) (by simp [Value.oneCell']) rfl rfl) ?_
          rintro _ _ w17_7 rfl
          refine wl_f (f_assign rfl) (wl_end [(3, _), (11, _), (13, _), (15, _), (16, _), (18, _), (19, _), (20, _)] ⟨rfl, rfl, rfl, rfl, rfl, rfl, rfl, rfl, trivial⟩ ?_)
          refine w_seq (w_reg (wl_f (f_move rfl) (wl_f (f_move rfl) (wl_e (e_call1 rq [_, _, _] rfl Tryz.func26 (by kernel_rfl) (pk1 2 rfl) (fun w hh hs => rtake_spec q S.mode m L S.base S.total rq key w (by omega) hq hs)) ?_))))
          rintro _ _ w6 ⟨_, rfl, k2, o2, s2, is2, L1', rq1, rfl, hG, rfl, hq1, hTk⟩
          obtain ⟨rfl, rfl, rfl, rfl⟩ := getS_eq hR hU hg hG
          refine wl_f (f_move rfl) (wl_f (f_extract rfl rfl) ?_)
          refine wl_f (f_extract rfl rfl) ?_
          refine wl_e (e_allocs [.string ByteArray.empty, .int .u64 0, .int .u64 0] (by kernel_rfl)) ?_
          rintro _ _ w18_6 ⟨b18_6, rfl, rfl⟩
          refine wl_e0 (e_store0 (us := [_, _, _]) rfl rfl rfl (by kernel_rfl) (by simp [Value.oneCell']) rfl rfl) ?_
          rintro _ _ w18_7 rfl
          refine wl_f (f_assign rfl) (wl_end [(3, _), (11, _), (13, _), (15, _), (16, _), (18, _), (19, _), (20, _), (21, _), (22, _)] ⟨rfl, rfl, rfl, rfl, rfl, rfl, rfl, rfl, rfl, rfl, trivial⟩ ?_)
          refine w_seq (w_reg (wl_f (f_loadsb (cs := [_, _, _]) 2 rfl Tryz.underlying46 rfl (by kernel_rfl) rfl rfl) ?_))
          refine wl_f (f_loadsb (cs := [_, _, _]) 0 rfl Tryz.underlying46 rfl (by kernel_rfl) rfl rfl) ?_
          refine wl_f (f_eqv (v' := .bool false) (f_bin rfl rfl (fun w => run_eqGuard_agg w _ _ _ _ _ _ (by kernel_rfl)) (fun w => neqEn _ _ _ _ _ _ w)) (by simp)) ?_
          refine wl_f (f_move rfl) ?_
          refine wl_or (j := 3) (c := false) 3 [(3, _), (11, _), (13, _), (15, _), (16, _), (18, _)] ⟨rfl, rfl, rfl, rfl, rfl, rfl, trivial⟩ rfl rfl rfl rfl rfl (fun hg19_7 => ?_) (fun w19_7 => ?_)
          · skip
            refine wl_gf rfl rfl (f_move rfl) ?_
            refine wl_gf rfl rfl (f_move rfl) ?_
            refine wl_gf rfl rfl (f_eqv (v' := .bool false) (f_neqb rfl rfl Tryz.underlying4) (by simp)) ?_
            exact wl_pend rfl rfl ⟨rfl, rfl, rfl, rfl, rfl, rfl, trivial⟩ (List.Sublist.refl _)
          refine wl_pick [3, 1, 2] rfl ?_
          refine wl_end [(3, _), (11, _), (13, _), (15, _), (16, _), (18, _), (115, _)] ⟨rfl, rfl, rfl, rfl, rfl, rfl, rfl, trivial⟩ ?_
          refine w_iff rfl ?_
          refine w_sub [(3, _), (11, _), (13, _), (15, _), (16, _), (18, _)] ⟨rfl, rfl, rfl, rfl, rfl, rfl, trivial⟩ (w_skip ?_)
          rw [← hT.mode, ← hT.same.1, ← hT.same.2] at hq1
          exact ⟨S1, r1, L1', rq1, p2, rfl, rfl, hr1, hJ.take hT, hq1, hR.take hU hT hTk, hp2⟩
        · skip
          refine w_seq (w_reg (wl_f (f_eql rfl rfl) ?_))
          refine wl_f (f_assign rfl) (wl_end [(3, _), (11, _), (13, _), (15, _), (16, _), (17, _), (18, _), (116, _)] ⟨rfl, rfl, rfl, rfl, rfl, rfl, rfl, rfl, trivial⟩ ?_)
          refine w_ifd rfl (fun hc6 => ?_) (fun hc6 => ?_)
          · skip
            refine w_seq (w_reg (wl_f (f_move rfl) (wl_e (e_call1 (deck bd (.slice A1 L1.length c1) p2) [_, _] rfl Tryz.func19 (by kernel_rfl) (pk1 2 rfl) (fun w hh hs' => entry_spec bd _ L1 p2 w ⟨h1.old1 hh (pk1 2 rfl), hL1, hp2⟩ hs')) ?_)))
            rintro _ _ w5 ⟨_, rfl, x, xo, xs, p3, rfl, hx3, hxo, hxs, rfl, hp3⟩
            have hxsm : small x := small_of (by omega)
            refine wl_e (e_allocs [.string ByteArray.empty, .int .u64 0, .int .u64 0] (by kernel_rfl)) ?_
            rintro _ _ w22_2 ⟨b22_2, rfl, rfl⟩
            refine wl_e0 (e_store0 (us := [_, _, _]) rfl rfl rfl (by kernel_rfl) (by simp [Value.oneCell']) rfl rfl) ?_
            rintro _ _ w22_3 rfl
            refine wl_end [(3, _), (11, _), (13, _), (15, _), (16, _), (18, _), (23, _)] ⟨rfl, rfl, rfl, rfl, rfl, rfl, rfl, trivial⟩ ?_
            refine w_seq (w_reg (wl_f (f_move rfl) (wl_f (f_move rfl) (wl_f (f_loadsb (cs := [_, _, _]) 0 rfl Tryz.underlying46 rfl (by kernel_rfl) rfl rfl) ?_))))
            refine wl_e (e_call1 r [_, _, _] rfl Tryz.func20 (by kernel_rfl) (pk1 2 rfl) (fun w hh hs => tswap_spec key x xo xs hks hxsm (by omega) (by omega) hJ hr hs)) ?_
            rintro _ _ w8 ⟨_, rfl, k', o', s', e', S1, r1, rfl, rfl, hr1, hW⟩
            refine wl_f (f_move rfl) (wl_f (f_extract rfl rfl) ?_)
            refine wl_f (f_extract rfl rfl) ?_
            refine wl_e (e_allocs [.string ByteArray.empty, .int .u64 0, .int .u64 0] (by kernel_rfl)) ?_
            rintro _ _ w23_7 ⟨b23_7, rfl, rfl⟩
            refine wl_e0 (e_store0 (us := [_, _, _]) rfl rfl rfl (by kernel_rfl) (by simp [Value.oneCell']) rfl rfl) ?_
            rintro _ _ w23_8 rfl
            refine wl_f (f_assign rfl) (wl_end [(3, _), (11, _), (13, _), (15, _), (16, _), (18, _), (23, _), (24, _), (25, _)] ⟨rfl, rfl, rfl, rfl, rfl, rfl, rfl, rfl, rfl, trivial⟩ ?_)
            refine w_seq (w_reg (wl_f (f_move rfl) (wl_f (f_move rfl) (wl_f (f_loadsb (cs := [_, _, _]) 2 rfl Tryz.underlying46 rfl (by kernel_rfl) rfl rfl) ?_))))
            refine wl_e (e_call1 rq [_, _, _, _] rfl Tryz.func27 (by kernel_rfl) (pk1 4 rfl) (fun w hh hs => rtswap_spec xo xs hR hU hJ hSl (by omega) (by omega) hq hs)) ?_
            rintro _ _ w9 ⟨_, rfl, k2, o2, s2, e2, L1', rq1, rfl, rfl, hq1, hW2⟩
            obtain ⟨heq, hR1⟩ := hW2 S1 _ hW
            obtain ⟨rfl, rfl, rfl, rfl⟩ := tupe_inj heq.symm
            refine wl_f (f_move rfl) (wl_f (f_extract rfl rfl) ?_)
            refine wl_f (f_extract rfl rfl) ?_
            refine wl_e (e_allocs [.string ByteArray.empty, .int .u64 0, .int .u64 0] (by kernel_rfl)) ?_
            rintro _ _ w24_7 ⟨b24_7, rfl, rfl⟩
            refine wl_e0 (e_store0 (us := [_, _, _]) rfl rfl rfl (by kernel_rfl) (by simp [Value.oneCell']) rfl rfl) ?_
            rintro _ _ w24_8 rfl
            refine wl_f (f_assign rfl) (wl_end [(3, _), (11, _), (13, _), (15, _), (16, _), (18, _), (24, _), (25, _), (26, _), (27, _)] ⟨rfl, rfl, rfl, rfl, rfl, rfl, rfl, rfl, rfl, rfl, trivial⟩ ?_)
            refine w_seq (w_reg (wl_f (f_loadsb (cs := [_, _, _]) 2 rfl Tryz.underlying46 rfl (by kernel_rfl) rfl rfl) ?_))
            refine wl_f (f_loadsb (cs := [_, _, _]) 0 rfl Tryz.underlying46 rfl (by kernel_rfl) rfl rfl) ?_
            refine wl_f (f_eqv (v' := .bool false) (f_bin rfl rfl (fun w => run_eqGuard_agg w _ _ _ _ _ _ (by kernel_rfl)) (fun w => neqEn _ _ _ _ _ _ w)) (by simp)) ?_
            refine wl_f (f_move rfl) ?_
            refine wl_or (j := 3) (c := false) 3 [(3, _), (11, _), (13, _), (15, _), (16, _), (18, _)] ⟨rfl, rfl, rfl, rfl, rfl, rfl, trivial⟩ rfl rfl rfl rfl rfl (fun hg25_7 => ?_) (fun w25_7 => ?_)
            · skip
              refine wl_gf rfl rfl (f_move rfl) ?_
              refine wl_gf rfl rfl (f_move rfl) ?_
              refine wl_gf rfl rfl (f_eqv (v' := .bool false) (f_neq rfl rfl) (by simp)) ?_
              exact wl_pend rfl rfl ⟨rfl, rfl, rfl, rfl, rfl, rfl, trivial⟩ (List.Sublist.refl _)
            refine wl_pick [3, 1, 3] rfl ?_
            refine wl_end [(3, _), (11, _), (13, _), (15, _), (16, _), (18, _), (141, _)] ⟨rfl, rfl, rfl, rfl, rfl, rfl, rfl, trivial⟩ ?_
            refine w_iff rfl ?_
            refine w_sub [(3, _), (11, _), (13, _), (15, _), (16, _), (18, _)] ⟨rfl, rfl, rfl, rfl, rfl, rfl, trivial⟩ (w_skip ?_)
            rw [← hW.mode, ← hW.same.1, ← hW.same.2] at hq1
            exact ⟨S1, r1, L1', rq1, p3, rfl, rfl, hr1, hJ.swap hW, hq1, hR1, hp3⟩
          · skip
            refine w_seq ?_
            obtain ⟨wn, hwn, hwn15⟩ := andi_nat (s.fdiv (2 ^ min ((3 : Int).toNat) (IntKind.bits .i64))) 15 (by decide)
            refine w_reg (wl_f (f_move rfl) (wl_f (f_move rfl) (wl_f (f_move rfl) (wl_f (f_shr rfl rfl (by omega) rfl) ?_))))
            refine wl_f (f_and rfl rfl hwn) ?_
            refine wl_f (f_convu rfl Tryz.underlying3 Tryz.underlying33 (by omega)) ?_
            refine wl_e (e_call1 r [_, _] rfl Tryz.func11 (by kernel_rfl) (List.Perm.refl _) (fun w hh hs => tadd_spec key wn (by omega) hks (by omega) hJ hr hs)) ?_
            rintro _ _ w6 ⟨_, rfl, e1, S1, r1, rfl, rfl, hr1, hA⟩
            refine wl_f (f_move rfl) (wl_f (f_move rfl) (wl_f (f_move rfl) (wl_f (f_shr rfl rfl (by omega) rfl) ?_)))
            refine wl_f (f_and rfl rfl hwn) ?_
            refine wl_f (f_convu rfl Tryz.underlying3 Tryz.underlying33 (by omega)) ?_
            refine wl_e (e_call1 rq [_, _] rfl Tryz.func28 (by kernel_rfl) (pk1 1 rfl) (fun w hh hs => rtadd_spec wn hR hU hJ hSl (by omega) hq hs)) ?_
            rintro _ _ w8 ⟨_, rfl, e2, L1', b1, u1, rq1, rfl, rfl, hq1, hA2⟩
            obtain ⟨rfl, rfl, rfl, hR1⟩ := hA2 S1 e1 hA
            refine wl_f (f_neq rfl rfl) ?_
            refine wl_pick [1, 0, 0] rfl ?_
            refine wl_end [(3, _), (11, _), (13, _), (15, _), (16, _), (18, _), (93, _)] ⟨rfl, rfl, rfl, rfl, rfl, rfl, rfl, trivial⟩ ?_
            refine w_ifd rfl (fun h => absurd rfl h) (fun _ => ?_)
            refine w_sub [(3, _), (11, _), (13, _), (15, _), (16, _), (18, _)] ⟨rfl, rfl, rfl, rfl, rfl, rfl, trivial⟩ (w_skip ?_)
            rw [← hA.mode] at hq1
            exact ⟨S1, r1, L1', rq1, p2, rfl, rfl, hr1, hJ.add hA, hq1, hR1, hp2⟩
      · clear hr hJ hq hR hU hSl hLl
        rintro _ _ w9 ⟨S, r, L, rq, p, rfl, rfl, hr, hJ, hq, hR, hp⟩
        have hU := hr.uq
        have hSl := hr.len
        have hLl := hR.len hU
        refine w_seq (w_reg (wl_f (f_move rfl) (wl_f (f_move rfl) (wl_e (e_call1 r [_, _] rfl Tryz.func12 (by kernel_rfl) (List.Perm.refl _) (fun w hh hs => tbounds_spec key hks hJ hr hs)) ?_))))
        rintro _ _ w5 ⟨_, rfl, k', o', s', is, rfl, rfl, hg⟩
        obtain ⟨lo, hlo⟩ : ∃ lo, (if is then o' else 0) = lo := ⟨_, rfl⟩
        obtain ⟨hi', hhi⟩ : ∃ hi', (if is then o' + s' else S.base) = hi' := ⟨_, rfl⟩
        rw [hlo, hhi]
        refine wl_f (f_move rfl) (wl_f (f_extract rfl rfl) ?_)
        refine wl_f (f_extract rfl rfl) ?_
        refine wl_e (e_allocs [.int .u64 0, .int .u64 0] (by kernel_rfl)) ?_
        rintro _ _ w27_6 ⟨b27_6, rfl, rfl⟩
        refine wl_e0 (e_store0 (us := [_, _]) rfl rfl rfl (by kernel_rfl) (by simp [Value.oneCell']) rfl rfl) ?_
        rintro _ _ w27_7 rfl
        refine wl_f (f_assign rfl) (wl_end [(3, _), (11, _), (13, _), (15, _), (16, _), (18, _), (28, _), (29, _)] ⟨rfl, rfl, rfl, rfl, rfl, rfl, rfl, rfl, trivial⟩ ?_)
        refine w_seq (w_reg (wl_f (f_move rfl) (wl_f (f_move rfl) ?_)))
        refine wl_e (e_call1 rq [_, _, _] rfl Tryz.func29 (by kernel_rfl) (pk1 2 rfl) (fun w hh hs => rbounds_spec q S.mode m L S.base S.total rq key w (by omega) (fun k2 o2 s2 is2 hG => by
          obtain ⟨rfl, rfl, rfl, rfl⟩ := getS_eq hR hU hg hG
          exact hJ.fits hg) hq hs)) ?_
        rintro _ _ w6 ⟨_, rfl, rfl, k2, o2, s2, is2, rfl, hG⟩
        obtain ⟨rfl, rfl, rfl, rfl⟩ := getS_eq hR hU hg hG
        rw [hlo, hhi]
        refine wl_f (f_move rfl) (wl_f (f_extract rfl rfl) ?_)
        refine wl_f (f_extract rfl rfl) ?_
        refine wl_e (e_allocs [.int .u64 0, .int .u64 0] (by kernel_rfl)) ?_
        rintro _ _ w28_6 ⟨b28_6, rfl, rfl⟩
        refine wl_e0 (e_store0 (us := [_, _]) rfl rfl rfl (by kernel_rfl) (by simp [Value.oneCell']) rfl rfl) ?_
        rintro _ _ w28_7 rfl
        refine wl_f (f_assign rfl) (wl_end [(3, _), (11, _), (13, _), (15, _), (16, _), (28, _), (29, _), (30, _), (31, _)] ⟨rfl, rfl, rfl, rfl, rfl, rfl, rfl, rfl, rfl, trivial⟩ ?_)
        refine w_seq ?_
        have hq0 := hq
        obtain ⟨LV, rfl⟩ := hq
        refine w_with fun hh => ?_
        obtain ⟨LA, cl, rfl⟩ := rowB_slice hh (i := 1) (j := 1) rfl rfl
        clear hh
        refine w_draw [(0, true), (1, true), (2, true), (3, true), (4, true), (5, true), (6, true), (7, true), (8, true), (9, true), (11, true), (10, false), (12, false), (13, false), (14, true), (15, true), (16, true), (17, true), (19, true), (18, false), (20, false), (21, true), (22, true), (23, true), (24, true), (26, true), (25, false), (27, false), (28, true), (29, true), (30, true), (31, true), (33, true), (34, true), (35, true), (36, true), (37, true), (32, false), (38, true), (39, true)] (_) ([]) mixed (by kernel_rfl) (by kernel_rfl) rfl (perm_all _) (fun w29_ => ?_)
        refine wd_f rfl (f_loadsb (cs := [_, _]) 2 rfl Tryz.underlying36 rfl (by kernel_rfl) rfl rfl) ?_
        refine wd_f rfl (f_loadsb (cs := [_, _]) 0 rfl Tryz.underlying36 rfl (by kernel_rfl) rfl rfl) ?_
        refine wd_f rfl (f_eqv (v' := .bool false) (f_bin rfl rfl (fun w => run_eqGuard_agg w _ _ _ _ _ _ (by kernel_rfl)) (fun w => neqBn _ _ _ _ w)) (by simp)) ?_
        refine wd_f rfl (f_move rfl) (wd_gf rfl rfl rfl (f_move rfl) ?_)
        refine wd_gf rfl rfl rfl (f_move rfl) ?_
        refine wd_gf rfl rfl rfl (f_eqv (v' := .bool false) (f_neqb rfl rfl Tryz.underlying4) (by simp)) ?_
        refine wd_f rfl (f_pick0 rfl rfl) ?_
        refine wd_f rfl (f_move rfl) (wd_gf rfl rfl rfl (f_move rfl) ?_)
        refine wd_gf rfl rfl rfl (f_move rfl) ?_
        refine wd_ge rfl rfl rfl (e_call1 r [_, _, _, _] rfl Tryz.func14 (by kernel_rfl) (pk1 3 rfl) (fun w hh hs => tentries_spec (by omega) hr hs)) ?_
        rintro ve _ w12 ⟨_, rfl, es0, rfl, hes0⟩
        refine ⟨_, pick_perm [2, 2, 2, 0, 1] _ rfl, ?_⟩
        have hel0 := hr.room hes0
        refine wd_ge rfl rfl rfl (e_call1 _ [_, _, _, _, _] rfl Tryz.func30 (by kernel_rfl) (pk1 1 rfl) (fun w hh hs => rentries_spec q S.mode m L S.base S.total _ w (by omega) hR.nd hq0 hs)) ?_
        rintro ve2 _ w13 ⟨_, rfl, es, hes, hse, rfl⟩
        refine ⟨_, pick_perm [2, 1, 1, 1, 1] _ rfl, ?_⟩
        have hen := entS_eq hR hU hes0 hes hse
        refine wd_ge rfl rfl rfl (e_call0 rfl Tryz.func18 (by kernel_rfl) (fun w hh => sameEntries_spec _ _ es0 es w (Rd.held0 hh (i := 6) rfl) (Rd.held0 hh (i := 5) rfl) (by omega) (by rw [← hen]; omega))) ?_
        rintro _ _ w14 ⟨_, rfl, rfl, rfl⟩
        refine ⟨_, List.Perm.refl _, ?_⟩
        rw [decide_eq_true hen]
        refine wd_gf rfl rfl rfl (f_eqv (v' := .bool false) (f_not rfl rfl) rfl) ?_
        refine wd_f rfl (f_pick0 rfl rfl) ?_
        refine wd_f rfl (f_move rfl) (wd_gf rfl rfl rfl (f_move rfl) ?_)
        refine wd_gf rfl rfl rfl (f_move rfl) ?_
        refine wd_ge rfl rfl rfl (e_call1 r [_, _, _, _, _, _] rfl Tryz.func15 (by kernel_rfl) (pk1 3 rfl) (fun w hh hs => tuntracked_spec hr hs)) ?_
        rintro _ _ w15 ⟨_, rfl, rfl, rfl⟩
        refine ⟨_, pick_perm [1, 1, 1, 0, 0] _ rfl, ?_⟩
        refine wd_ge rfl rfl rfl (e_call1 _ [_, _, _, _, _, _] rfl Tryz.func31 (by kernel_rfl) (pk1 1 rfl) (fun w hh hs => runtracked_spec q S.mode m L S.base S.total _ w hq0 hs)) ?_
        rintro _ _ w16 ⟨_, rfl, rfl, rfl⟩
        refine ⟨_, pick_perm [1, 0, 0, 0, 0] _ rfl, ?_⟩
        refine wd_gf rfl rfl rfl (f_eqv (v' := .bool false) (f_neq rfl rfl) (by simp)) ?_
        refine wd_f rfl (f_pick0 rfl rfl) ?_
        refine wd_f rfl (f_move rfl) (wd_gf rfl rfl rfl (f_move rfl) ?_)
        refine wd_gf rfl rfl rfl (f_move rfl) ?_
        refine wd_ge rfl rfl rfl (e_call1 r [_, _, _, _, _, _] rfl Tryz.func16 (by kernel_rfl) (pk1 3 rfl) (fun w hh hs => ttotal_spec hr hs)) ?_
        rintro _ _ w17 ⟨_, rfl, rfl, rfl⟩
        refine ⟨_, pick_perm [1, 1, 1, 0, 0] _ rfl, ?_⟩
        refine wd_ge rfl rfl rfl (e_call1 _ [_, _, _, _, _, _] rfl Tryz.func32 (by kernel_rfl) (pk1 1 rfl) (fun w hh hs => rtotal_spec q S.mode m L S.base S.total _ w hq0 hs)) ?_
        rintro _ _ w18 ⟨_, rfl, rfl, rfl⟩
        refine ⟨_, pick_perm [1, 0, 0, 0, 0] _ rfl, ?_⟩
        refine wd_gf rfl rfl rfl (f_eqv (v' := .bool false) (f_neq rfl rfl) (by simp)) ?_
        refine wd_f rfl (f_pick0 rfl rfl) ?_
        refine wd_f rfl (f_move rfl) (wd_gf rfl rfl rfl (f_move rfl) ?_)
        refine wd_gf rfl rfl rfl (f_move rfl) ?_
        refine wd_gf rfl rfl rfl (f_nilCheck rfl) ?_
        refine wd_gf rfl rfl rfl (f_fieldAddr 2 rfl Tryz.underlying65 rfl rfl (by kernel_rfl)) ?_
        refine wd_gf rfl rfl rfl (f_loadB 1 0 rfl rfl rfl Tryz.underlying42 rfl rfl) ?_
        refine wd_gf rfl rfl rfl (f_len rfl Tryz.underlying42) ?_
        refine wd_ge rfl rfl rfl (e_call1 r [_, _, _, _, _, _] rfl Tryz.func25 (by kernel_rfl) (pk1 3 rfl) (fun w hh hs => tlen_spec hr hs)) ?_
        rintro _ _ w19 ⟨_, rfl, rfl, rfl⟩
        refine ⟨_, pick_perm [1, 1, 1, 0, 0] _ rfl, ?_⟩
        refine wd_gf rfl rfl rfl (f_eqv (v' := .bool false) (f_neq rfl rfl) (by rw [hLl]; simp)) ?_
        refine wd_f rfl (f_pick0 rfl rfl) ?_
        refine wd_endp [(3, _), (11, _), (13, _), (15, _), (16, _), (193, _)] [3, 1, 2] ⟨rfl, rfl, rfl, rfl, rfl, rfl, trivial⟩ rfl ?_
        refine w_iff rfl ?_
        refine w_skip ?_
        refine w_reg (wl_f (f_move rfl) (wl_f (f_add rfl rfl (by omega)) ?_))
        refine wl_f (f_assign rfl) (wl_end [(3, _), (11, _), (13, _), (15, _), (16, _)] ⟨rfl, rfl, rfl, rfl, rfl, trivial⟩ ?_)
        exact ⟨kk - 1, by omega, i + 1, S, r, L, _, p, rfl, rfl, hr, hJ, hq0, hR, by omega, by omega, hp⟩
    · skip
      refine w_exit0 ?_
      refine w_seq (w_reg (wl_e (e_call0 rfl Tryz.func13 (by kernel_rfl) (fun w hh => awake15_spec w)) ?_))
      rintro _ _ w20 ⟨_, rfl, rfl⟩
      refine wl_f (f_assign rfl) (wl_end [(8, _)] ⟨rfl, trivial⟩ ?_)
      refine w_ret ?_
      refine ⟨_, _, fun a ha hh => results_tmps Tryz.results7 rfl a ha _, List.Sublist.refl _, ?_⟩
      rfl
end Go.Proofs.YtmagdjlcckgkpaaGreat
