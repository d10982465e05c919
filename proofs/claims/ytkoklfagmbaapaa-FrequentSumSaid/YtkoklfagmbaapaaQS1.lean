/- The law FrequentSum: the call returns true. -/
import Derived.Test.YtkoklfagmbaapaaQ12
namespace Go.Proofs.Ytkoklfagmbaapaa
open Go.RowKit

set_option maxHeartbeats 8000000 in
theorem frequentSum_spec (z : Nat) (A1 : Option Addr) (c1 : Nat) (L1 : List Int) (A2 : Option Addr) (c2 : Nat) (L2 : List Int) (w : World) (hz : z < 256)
    (h1 : Rd w Nil 1 (.slice A1 L1.length c1) L1.length (iv L1)) (hL1 : L1.length ≤ 140737488355328) (h2 : Rd w Nil 1 (.slice A2 L2.length c2) L2.length (iv L2)) (hL2 : L2.length ≤ 140737488355328) :
    Spec Try.prog 7 [.int .u8 z, .slice A1 L1.length c1, .slice A2 L2.length c2] w Nil fun r _ => r = .bool true := by
  obtain ⟨A', c', e, hxl, hxc, hxA⟩ := id h2
  injection e with e1 _ e3
  subst e1; subst e3
  refine enter (n := 120) Try.func7 rfl rfl [(0, _), (1, _), (2, _)] rfl ⟨rfl, rfl, rfl, trivial⟩ (Holds.start _ _) ?_
  refine w_seq ?_
  refine w_reg ?_
  refine wl_f (f_assign rfl) ?_
  refine wl_end [(0, _), (1, _), (2, _)] ⟨rfl, rfl, rfl, trivial⟩ ?_
  refine w_seq ?_
  refine w_reg ?_
  refine wl_f (f_move rfl) ?_
  refine wl_f (f_convi rfl Try.underlying5 Try.underlying3 (by omega)) ?_
  refine wl_f (f_rem rfl rfl (by omega)) ?_
  refine wl_f (f_eqv (v' := .int .i64 ((1 + z % 6 : Nat) : Int)) (f_add rfl rfl (by omega)) (by congr 1)) ?_
  obtain ⟨m, hm, hm1, hm6⟩ : ∃ m, 1 + z % 6 = m ∧ 1 ≤ m ∧ m ≤ 6 := ⟨_, rfl, by omega, by omega⟩
  rw [hm]
  refine wl_f (f_assign rfl) ?_
  refine wl_end [(1, _), (2, _), (7, _)] ⟨rfl, rfl, rfl, trivial⟩ ?_
  refine w_seq ?_
  refine w_reg ?_
  refine wl_f (f_move rfl) ?_
  refine wl_e (e_call0 rfl Try.func8 (by kernel_rfl) (fun w hh => frnew_ok m w hm1 (by omega))) ?_
  rintro _ _ w1 ⟨_, rfl, t, r0, rfl, rfl, hr0⟩
  refine wl_f (f_move rfl) ?_
  refine wl_f (f_extract rfl rfl) ?_
  refine wl_f (f_extract rfl rfl) ?_
  refine wl_f (f_assign rfl) ?_
  refine wl_f (f_assign rfl) ?_
  refine wl_end [(1, _), (2, _), (7, _), (8, _), (9, _)] ⟨rfl, rfl, rfl, rfl, rfl, trivial⟩ ?_
  refine w_seq ?_
  refine w_seq ?_
  refine w_reg ?_
  refine wl_f (f_move rfl) ?_
  refine wl_f (f_neq rfl rfl) ?_
  refine wl_f (f_move rfl) ?_
  refine wl_or (j := 2) (c := false) 2 [(1, _), (2, _), (7, _), (8, _)] ⟨rfl, rfl, rfl, rfl, trivial⟩ rfl rfl rfl rfl rfl (fun hg3_5 => ?_) (fun w3_5 => ?_)
  · skip
    refine wl_gf rfl rfl (f_move rfl) ?_
    refine wl_gf rfl rfl (f_eqlnil rfl rfl Try.underlying24) ?_
    exact wl_pend rfl rfl ⟨rfl, rfl, rfl, rfl, trivial⟩ (List.Sublist.refl _)
  refine wl_end [(1, _), (2, _), (7, _), (8, _), (31, _)] ⟨rfl, rfl, rfl, rfl, rfl, trivial⟩ ?_
  refine w_iff rfl ?_
  refine w_skip ?_
  refine w_seq ?_
  refine w_reg ?_
  refine wl_f (f_move rfl) ?_
  refine wl_e (e_call0 rfl Try.func9 (by kernel_rfl) (fun w hh => new_spec A1 L1.length c1 w)) ?_
  rintro _ _ w2 ⟨_, rfl, bd, rfl, rfl⟩
  refine wl_f (f_assign rfl) ?_
  refine wl_pick [1, 0] rfl ?_
  refine wl_end [(2, _), (7, _), (8, _), (10, _)] ⟨rfl, rfl, rfl, rfl, trivial⟩ ?_
  refine w_seq ?_
  refine w_seq ?_
  refine w_reg ?_
  refine wl_f (f_assign rfl) ?_
  refine wl_end [(2, _), (7, _), (8, _), (10, _), (11, _)] ⟨rfl, rfl, rfl, rfl, rfl, trivial⟩ ?_
  refine w_block ?_
  refine w_loop (fun kk m' H w' => ∃ (i : Nat) (M : UM) (base total : Nat) (r : Res) (p : Nat), m' = [(2, .slice A2 L2.length c2), (7, .int .i64 m), (8, .pointer (some ⟨t, 0, .none⟩)), (10, .pointer (some ⟨bd, 0, .none⟩)), (11, .int .i64 i)] ∧
    H = [r, deck bd (.slice A1 L1.length c1) p] ∧ FrR t m M base total r ∧ FInv m M base total ∧ kk + i = 80 ∧ i ≤ L2.length ∧ p ≤ L1.length) 80
    ⟨0, _, 0, 0, r0, 0, rfl, rfl, hr0, FInv.new m, rfl, Nat.zero_le _, Nat.zero_le _⟩ ?_
  rintro kk _ _ w3 ⟨i, M, base, total, r, p, rfl, rfl, hr, hI, hkk, hiL, hp⟩
  refine w_seq ?_
  refine w_seq ?_
  refine w_reg ?_
  refine wl_f (f_move rfl) ?_
  refine wl_f (f_move rfl) ?_
  refine wl_f (f_len rfl Try.underlying22) ?_
  refine wl_f (f_lss rfl rfl) ?_
  refine wl_f (f_move rfl) ?_
  refine wl_and (j := 4) (c := decide ((i : Int) < 80)) 2 [(2, _), (7, _), (8, _), (10, _), (11, _)] ⟨rfl, rfl, rfl, rfl, rfl, trivial⟩ rfl rfl rfl rfl rfl (fun hg7_7 => ?_) (fun w7_7 => ?_)
  · skip
    refine wl_gf rfl rfl (f_move rfl) ?_
    refine wl_gf rfl rfl (f_lss rfl rfl) ?_
    exact wl_pend rfl rfl ⟨rfl, rfl, rfl, rfl, rfl, trivial⟩ (List.Sublist.refl _)
  refine wl_end [(2, _), (7, _), (8, _), (10, _), (11, _), (41, _)] ⟨rfl, rfl, rfl, rfl, rfl, rfl, trivial⟩ ?_
  refine w_ifb rfl (fun hc2 => ?_) (fun hc2 => ?_)
  · skip
    simp only [Bool.and_eq_true, decide_eq_true_eq] at hc2
    have hi : i < L2.length := by omega
    obtain ⟨s, hsi⟩ : ∃ s, L2[i]? = some s := ⟨_, List.getElem?_eq_getElem hi⟩
    obtain ⟨b2, off, rfl, _, _, hcell⟩ := hxA.resolve_left (by omega)
    refine w_skip ?_
    refine w_seq ?_
    refine w_block ?_
    refine w_seq ?_
    refine w_seq ?_
    refine w_reg ?_
    refine wl_f (f_move rfl) ?_
    refine wl_f (f_move rfl) ?_
    refine wl_f (f_indexAddr 1 (i := i) rfl rfl Try.underlying22 (by kernel_rfl) rfl hi) ?_
    refine wl_f (f_loado (v := .int .i64 s) rfl Try.underlying3 rfl (hcell _ _ (by simp [iv, hsi])) id) ?_
    refine wl_f (f_assign rfl) ?_
    refine wl_end [(2, _), (7, _), (8, _), (10, _), (11, _), (12, _)] ⟨rfl, rfl, rfl, rfl, rfl, rfl, trivial⟩ ?_
    refine w_seq ?_
    refine w_reg ?_
    refine wl_f (f_move rfl) ?_
    refine wl_f (f_and rfl rfl rfl) ?_
    generalize bits .and .i64 s 7 = s7
    refine wl_end [(2, _), (7, _), (8, _), (10, _), (11, _), (12, _), (49, _)] ⟨rfl, rfl, rfl, rfl, rfl, rfl, rfl, trivial⟩ ?_
    refine w_post (fun m' H w' => ∃ (M : UM) (base total : Nat) (r : Res) (p : Nat), m' = [(2, .slice (some ⟨b2, off, .none⟩) L2.length c2), (7, .int .i64 m), (8, .pointer (some ⟨t, 0, .none⟩)), (10, .pointer (some ⟨bd, 0, .none⟩)), (11, .int .i64 i)] ∧
      H = [r, deck bd (.slice A1 L1.length c1) p] ∧ FrR t m M base total r ∧ FInv m M base total ∧ p ≤ L1.length) ?_ ?_
    · skip
      refine w_block ?_
      refine w_seq ?_
      refine w_reg ?_
      refine wl_f (f_eql rfl rfl) ?_
      refine wl_f (f_assign rfl) ?_
      refine wl_end [(2, _), (7, _), (8, _), (10, _), (11, _), (12, _), (49, _), (59, _)] ⟨rfl, rfl, rfl, rfl, rfl, rfl, rfl, rfl, trivial⟩ ?_
      refine w_ifd rfl (fun hc3 => ?_) (fun hc3 => ?_)
      · skip
        refine w_reg ?_
        refine wl_f (f_move rfl) ?_
        refine wl_f (f_move rfl) ?_
        refine wl_e (e_call1 (deck bd (.slice A1 L1.length c1) p) [_] rfl Try.func10 (by kernel_rfl) (pk1 1 rfl) (fun w hh hs' => short3_spec bd _ L1 p w ⟨h1.old1 hh (pk1 1 rfl), hL1, hp⟩ hs')) ?_
        rintro _ _ w4 ⟨_, rfl, k, p2, rfl, hk3, rfl, hp2⟩
        have hks : small k := small_of (by omega)
        refine wl_e (e_call1 r [_] rfl Try.func18 (by kernel_rfl) (pk1 1 rfl) (fun w hh hs => frtake_spec t m M base total k r w hks hr hs)) ?_
        rintro _ _ w5 ⟨_, rfl, rfl, r1, rfl, hr1⟩
        refine wl_end [(2, _), (7, _), (8, _), (10, _), (11, _)] ⟨rfl, rfl, rfl, rfl, rfl, trivial⟩ ?_
        exact ⟨_, base, total, r1, p2, rfl, rfl, hr1, hI.del, hp2⟩
      · skip
        refine w_seq ?_
        refine w_seq ?_
        refine w_reg ?_
        refine wl_f (f_eql rfl rfl) ?_
        refine wl_f (f_assign rfl) ?_
        refine wl_end [(2, _), (7, _), (8, _), (10, _), (11, _), (12, _), (49, _), (65, _)] ⟨rfl, rfl, rfl, rfl, rfl, rfl, rfl, rfl, trivial⟩ ?_
        refine w_post (fun m' H w' => ∃ bb : Bool, m' = [(2, .slice (some ⟨b2, off, .none⟩) L2.length c2), (7, .int .i64 m), (8, .pointer (some ⟨t, 0, .none⟩)), (10, .pointer (some ⟨bd, 0, .none⟩)), (11, .int .i64 i), (12, .int .i64 s), (65, .bool bb)] ∧ H = [r, deck bd (.slice A1 L1.length c1) p]) ?_ ?_
        · skip
          refine w_ifd rfl (fun hc4 => ?_) (fun hc4 => ?_)
          · skip
            refine w_sub [(2, _), (7, _), (8, _), (10, _), (11, _), (12, _), (65, _)] ⟨rfl, rfl, rfl, rfl, rfl, rfl, rfl, trivial⟩ (w_skip ?_)
            exact ⟨_, rfl, rfl⟩
          · skip
            refine w_reg ?_
            refine wl_f (f_eql rfl rfl) ?_
            refine wl_f (f_assign rfl) ?_
            refine wl_end [(2, _), (7, _), (8, _), (10, _), (11, _), (12, _), (65, _)] ⟨rfl, rfl, rfl, rfl, rfl, rfl, rfl, trivial⟩ ?_
            exact ⟨_, rfl, rfl⟩
        · rintro _ _ w10 ⟨bb, rfl, rfl⟩
          refine w_ifb rfl (fun hc5 => ?_) (fun hc5 => ?_)
          · skip
            refine w_seq ?_
            refine w_reg ?_
            refine wl_f (f_move rfl) ?_
            refine wl_e (e_call1 (deck bd (.slice A1 L1.length c1) p) [_] rfl Try.func24 (by kernel_rfl) (pk1 1 rfl) (fun w hh hs' => entry_spec bd _ L1 p w ⟨h1.old1 hh (pk1 1 rfl), hL1, hp⟩ hs')) ?_
            rintro _ _ w5 ⟨_, rfl, x, xo, xs, p3, rfl, hx3, hxo, hxs, rfl, hp3⟩
            have hxsm : small x := small_of (by omega)
            refine wl_e (e_allocs [.string ByteArray.empty, .int .u64 0, .int .u64 0] (by kernel_rfl)) ?_
            rintro _ _ w16_2 ⟨b16_2, rfl, rfl⟩
            (first | refine wl_e0 (e_store0 (us := [_, _, _]) rfl rfl rfl (by kernel_rfl) (by simp [Value.oneCell']) rfl rfl) ?_ | refine wl_e0 (e_store1 (us := [_, _, _]) rfl rfl rfl (by kernel_rfl) (by simp [Value.oneCell']) rfl rfl) ?_ | refine wl_e0 (e_store2 (us := [_, _, _]) rfl rfl rfl (by kernel_rfl) (by simp [Value.oneCell']) rfl rfl) ?_ | refine wl_e0 (e_store3 (us := [_, _, _]) rfl rfl rfl (by kernel_rfl) (by simp [Value.oneCell']) rfl rfl) ?_)
            rintro _ _ w16_3 rfl
            refine wl_end [(2, _), (7, _), (8, _), (10, _), (11, _), (13, _)] ⟨rfl, rfl, rfl, rfl, rfl, rfl, trivial⟩ ?_
            refine w_seq ?_
            refine w_drawk [(0, true), (1, true), (2, true), (3, false), (4, true), (5, true), (6, false)] ([(blk b16_2 [.string x, .int .u64 xo, .int .u64 xs] 36, some 6)]) ([deck bd (.slice A1 L1.length c1) p3, r]) mixed (by kernel_rfl) (by kernel_rfl) rfl rfl (pick_perm [0] _ rfl) (fun w17_ => ?_)
            refine wk_f rfl (f_fieldAddr 2 rfl Try.underlying36 rfl rfl (by kernel_rfl)) ?_
            (first | refine wk_f rfl (f_loadb 0 rfl Try.underlying33 rfl rfl rfl) ?_ | refine wk_f rfl (f_loadb 1 rfl Try.underlying33 rfl rfl rfl) ?_ | refine wk_f rfl (f_loadb 2 rfl Try.underlying33 rfl rfl rfl) ?_ | refine wk_f rfl (f_loadb 3 rfl Try.underlying33 rfl rfl rfl) ?_ | refine wk_f rfl (f_loadb 4 rfl Try.underlying33 rfl rfl rfl) ?_ | refine wk_f rfl (f_loadb 5 rfl Try.underlying33 rfl rfl rfl) ?_ | refine wk_f rfl (f_loadb 6 rfl Try.underlying33 rfl rfl rfl) ?_)
            refine wk_f rfl (f_move rfl) ?_
            refine wk_e rfl (e_call1 r [_, _] rfl Try.func13 (by kernel_rfl) (pk1 2 rfl) (fun w hh hs => fruntracked_spec t m M base total r w hr hs)) ?_
            rintro _ _ w6 ⟨_, rfl, rfl, rfl⟩
            refine ⟨_, List.Perm.swap .., ?_⟩
            refine wk_f rfl (f_min (r := ((min xs base : Nat) : Int)) rfl rfl (by split <;> omega)) ?_
            refine wk_f rfl (f_fieldAddr 2 rfl Try.underlying36 rfl rfl (by kernel_rfl)) ?_
            refine wk_e0 rfl (e_storeN 0 (us := [_]) rfl rfl rfl rfl (by kernel_rfl) (by simp [Value.oneCell']) rfl rfl) ?_
            rintro _ _ w17_6 rfl
            refine ⟨_, List.Perm.refl _, ?_⟩
            refine wk_end [(2, _), (7, _), (8, _), (10, _), (11, _), (13, _)] ⟨rfl, rfl, rfl, rfl, rfl, rfl, trivial⟩ ?_
            refine w_draw [(0, true), (1, true), (3, true), (2, false), (4, false)] ([_]) ([r, deck bd (.slice A1 L1.length c1) p3]) mixed (by kernel_rfl) (by kernel_rfl) rfl (List.Perm.refl _) (fun w18_ => ?_)
            refine wd_f rfl (f_move rfl) ?_
            refine wd_f rfl (f_move rfl) ?_
            (first | refine wd_f rfl (f_loadsb (cs := [_, _, _]) 0 rfl Try.underlying36 rfl (by kernel_rfl) rfl rfl) ?_ | refine wd_f rfl (f_loadsb (cs := [_, _, _]) 1 rfl Try.underlying36 rfl (by kernel_rfl) rfl rfl) ?_ | refine wd_f rfl (f_loadsb (cs := [_, _, _]) 2 rfl Try.underlying36 rfl (by kernel_rfl) rfl rfl) ?_ | refine wd_f rfl (f_loadsb (cs := [_, _, _]) 3 rfl Try.underlying36 rfl (by kernel_rfl) rfl rfl) ?_ | refine wd_f rfl (f_loadsb (cs := [_, _, _]) 4 rfl Try.underlying36 rfl (by kernel_rfl) rfl rfl) ?_ | refine wd_f rfl (f_loadsb (cs := [_, _, _]) 5 rfl Try.underlying36 rfl (by kernel_rfl) rfl rfl) ?_ | refine wd_f rfl (f_loadsb (cs := [_, _, _]) 6 rfl Try.underlying36 rfl (by kernel_rfl) rfl rfl) ?_)
            refine wd_e rfl (e_call1 (deck bd (.slice A1 L1.length c1) p3) [_, _] rfl Try.func10 (by kernel_rfl) (pk1 2 rfl) (fun w hh hs' => short3_spec bd _ L1 p3 w ⟨h1.old1 hh (pk1 2 rfl), hL1, hp3⟩ hs')) ?_
            rintro _ _ w7 ⟨_, rfl, k, p4, rfl, hk3, rfl, hp4⟩
            have hks : small k := small_of (by omega)
            refine ⟨_, List.Perm.swap .., ?_⟩
            refine wd_e rfl (e_call1 r [_, _] rfl Try.func19 (by kernel_rfl) (pk1 2 rfl) (fun w hh hs => frswap_spec t m M base total k x xo (min xs base) r w hks hxsm hr hs)) ?_
            rintro _ _ w8 ⟨_, rfl, r1, M1, rfl, hr1, hS⟩
            refine ⟨_, List.Perm.swap .., ?_⟩
            refine wd_endp [(2, _), (7, _), (8, _), (10, _), (11, _)] [1, 1] ⟨rfl, rfl, rfl, rfl, rfl, trivial⟩ rfl ?_
            exact ⟨M1, base, total, r1, p4, rfl, rfl, hr1, hI.swap hS, hp4⟩
          · skip
            refine w_reg ?_
            refine wl_f (f_move rfl) ?_
            refine wl_f (f_move rfl) ?_
            refine wl_e (e_call1 (deck bd (.slice A1 L1.length c1) p) [_] rfl Try.func10 (by kernel_rfl) (pk1 1 rfl) (fun w hh hs' => short3_spec bd _ L1 p w ⟨h1.old1 hh (pk1 1 rfl), hL1, hp⟩ hs')) ?_
            rintro _ _ w4 ⟨_, rfl, k, p2, rfl, hk3, rfl, hp2⟩
            have hks : small k := small_of (by omega)
            obtain ⟨wn, hwn, hwn32⟩ := mod32 (s.fdiv (2 ^ min ((3 : Int).toNat) (IntKind.bits .i64)))
            refine wl_f (f_move rfl) ?_
            refine wl_f (f_shr rfl rfl (by omega) rfl) ?_
            refine wl_f (f_and rfl rfl hwn) ?_
            refine wl_f (f_eqv (v' := .int .i64 ((1 + wn : Nat) : Int)) (f_add rfl rfl (by omega)) (by congr 1)) ?_
            refine wl_f (f_convu rfl Try.underlying3 Try.underlying33 (by omega)) ?_
            refine wl_e (e_call1 r [_] rfl Try.func11 (by kernel_rfl) (pk1 1 rfl) (fun w hh hs => fradd_spec t m M base total k (1 + wn) r w (by omega) hks (by omega) hI.ok hr hs)) ?_
            rintro _ _ w6 ⟨_, rfl, e1, M1, base1, total1, r1, rfl, rfl, hr1, hA⟩
            refine wl_end [(2, _), (7, _), (8, _), (10, _), (11, _)] ⟨rfl, rfl, rfl, rfl, rfl, trivial⟩ ?_
            exact ⟨M1, base1, total1, r1, p2, rfl, rfl, hr1, hI.add hA, hp2⟩
    · clear hr hI
      rintro _ _ w9 ⟨M, base, total, r, p, rfl, rfl, hr, hI, hp⟩
      refine w_seq ?_
      have hsumE := hI.sum
      have htop := hI.top
      obtain ⟨fb, hfb⟩ : ∃ fb, (m + 1) * base = fb := ⟨_, rfl⟩
      rw [hfb] at hsumE
      refine w_reg ?_
      refine wl_f (f_move rfl) ?_
      refine wl_f (f_eqv (v' := .int .i64 ((m + 1 : Nat) : Int)) (f_add rfl rfl (by omega)) (by congr 1)) ?_
      refine wl_f (f_convu rfl Try.underlying3 Try.underlying33 (by omega)) ?_
      refine wl_f (f_move rfl) ?_
      refine wl_e (e_call1 r [_] rfl Try.func13 (by kernel_rfl) (List.Perm.refl _) (fun w hh hs => fruntracked_spec t m M base total r w hr hs)) ?_
      rintro _ _ w11 ⟨_, rfl, rfl, rfl⟩
      refine wl_f (f_eqv (v' := .int .u64 (fb : Int)) (f_mulu rfl rfl (by rw [← Int.natCast_mul, hfb]; omega)) (by rw [← Int.natCast_mul, hfb])) ?_
      refine wl_f (f_assign rfl) ?_
      refine wl_end [(2, _), (7, _), (8, _), (10, _), (11, _), (14, _)] ⟨rfl, rfl, rfl, rfl, rfl, rfl, trivial⟩ ?_
      refine w_seq ?_
      refine w_seq ?_
      refine w_reg ?_
      refine wl_f (f_move rfl) ?_
      refine wl_e (e_call1 r [_] rfl Try.func14 (by kernel_rfl) (List.Perm.refl _) (fun w hh hs => frentries_spec t m M base total r w (by omega) hr hs)) ?_
      rintro ve _ w12 ⟨_, rfl, ks, hkp, hks, rfl⟩
      obtain ⟨es, hes⟩ : ∃ es, ks.map (fent M base) = es := ⟨_, rfl⟩
      rw [hes]
      have hsum : isum es = osum M := by rw [← hes]; exact isum_fent hI.nd hkp
      have hMl : M.length ≤ m := by
        obtain ⟨_, _, _, _, _, _, hX⟩ := id hr
        exact hX.len
      have hesl : es.length ≤ 6 := by
        have h5 : es.length = M.length := by rw [← hes, List.length_map, hkp.length_eq, keys, List.length_map]
        omega
      have hpos : ∀ x ∈ es, x.2.1 ≠ 0 ∧ x.2.2 = base := fun x hx => by
        rw [← hes] at hx
        obtain ⟨k, hk, rfl⟩ := List.mem_map.1 hx
        obtain ⟨o, ho⟩ := isSome_in (hkp.mem_iff.1 hk)
        refine ⟨?_, rfl⟩
        show (mget M k).getD 0 ≠ 0
        rw [ho]
        exact hI.pos k o ho
      refine wl_with fun hh => ?_
      obtain ⟨Ae, ce, rfl⟩ := row_slice hh (i := 0) rfl
      clear hh
      refine wl_f (f_len rfl Try.underlying40) ?_
      refine wl_f (f_move rfl) ?_
      refine wl_end [(2, _), (7, _), (8, _), (10, _), (11, _), (14, _), (88, _), (89, _), (90, _)] ⟨rfl, rfl, rfl, rfl, rfl, rfl, rfl, rfl, rfl, trivial⟩ ?_
      refine w_block ?_
      refine w_loop (fun kk m' H w' => ∃ j : Nat, m' = [(2, .slice (some ⟨b2, off, .none⟩) L2.length c2), (7, .int .i64 m), (8, .pointer (some ⟨t, 0, .none⟩)), (10, .pointer (some ⟨bd, 0, .none⟩)), (11, .int .i64 i), (14, .int .u64 ((fb + isum (es.take j) : Nat) : Int)), (88, .slice Ae es.length ce), (89, .int .i64 es.length), (90, .int .i64 j)] ∧
        H = [row (.slice Ae es.length ce) 36 3 es.length (encs es), r, deck bd (.slice A1 L1.length c1) p] ∧ kk + j = es.length) es.length ⟨0, rfl, rfl, rfl⟩ ?_
      rintro kk4 _ _ w13 ⟨j, rfl, rfl, hkk4⟩
      refine w_seq ?_
      refine w_reg ?_
      refine wl_f (f_lss rfl rfl) ?_
      refine wl_end [(2, _), (7, _), (8, _), (10, _), (11, _), (14, _), (88, _), (89, _), (90, _), (91, _)] ⟨rfl, rfl, rfl, rfl, rfl, rfl, rfl, rfl, rfl, rfl, trivial⟩ ?_
      refine w_seq ?_
      refine w_ifd rfl (fun hc6 => ?_) (fun hc6 => ?_)
      · skip
        have hj : j < es.length := by
          have : (j : Int) < (es.length : Int) := hc6
          omega
        obtain ⟨x, hx⟩ : ∃ x, es[j]? = some x := ⟨_, List.getElem?_eq_getElem hj⟩
        have hst := isum_take hx
        have hle := isum_take_le es (j + 1)
        obtain ⟨hx0, hxb⟩ := hpos x (List.mem_of_getElem? hx)
        refine w_with fun hh => ?_
        obtain ⟨ge, ce2, e⟩ := row_form hh (i := 0) rfl (by omega)
        cases e
        clear hh
        refine w_skip ?_
        refine w_seq ?_
        refine w_block ?_
        refine w_seq ?_
        refine w_reg ?_
        refine wl_f (f_indexAddr 3 (i := j) rfl rfl Try.underlying40 (by kernel_rfl) rfl hj) ?_
        refine wl_f (f_loadsr (cs := ecell (some x)) 0 rfl Try.underlying36 rfl (by kernel_rfl) rfl (encs_get hx)) ?_
        refine wl_e (e_allocs [.string ByteArray.empty, .int .u64 0, .int .u64 0] (by kernel_rfl)) ?_
        rintro _ _ w22_2 ⟨b22_2, rfl, rfl⟩
        (first | refine wl_e0 (e_store0 (us := [_, _, _]) rfl rfl rfl (by kernel_rfl) (by simp [Value.oneCell']) rfl rfl) ?_ | refine wl_e0 (e_store1 (us := [_, _, _]) rfl rfl rfl (by kernel_rfl) (by simp [Value.oneCell']) rfl rfl) ?_ | refine wl_e0 (e_store2 (us := [_, _, _]) rfl rfl rfl (by kernel_rfl) (by simp [Value.oneCell']) rfl rfl) ?_ | refine wl_e0 (e_store3 (us := [_, _, _]) rfl rfl rfl (by kernel_rfl) (by simp [Value.oneCell']) rfl rfl) ?_)
        rintro _ _ w22_3 rfl
        refine wl_end [(2, _), (7, _), (8, _), (10, _), (11, _), (14, _), (16, _), (88, _), (89, _), (90, _)] ⟨rfl, rfl, rfl, rfl, rfl, rfl, rfl, rfl, rfl, rfl, trivial⟩ ?_
        refine w_seq ?_
        refine w_seq ?_
        refine w_pick [0, 0, 1, 0] rfl ?_
        refine w_draw [(0, true), (1, true), (2, true), (3, true), (4, true), (5, true), (6, true), (7, false), (8, true), (9, true)] ([_, _, _]) ([_]) mixed (by kernel_rfl) (by kernel_rfl) rfl (List.Perm.refl _) (fun w23_ => ?_)
        refine wd_f rfl (f_fieldAddr 1 rfl Try.underlying36 rfl rfl (by kernel_rfl)) ?_
        (first | refine wd_f rfl (f_loadb 0 rfl Try.underlying33 rfl rfl rfl) ?_ | refine wd_f rfl (f_loadb 1 rfl Try.underlying33 rfl rfl rfl) ?_ | refine wd_f rfl (f_loadb 2 rfl Try.underlying33 rfl rfl rfl) ?_ | refine wd_f rfl (f_loadb 3 rfl Try.underlying33 rfl rfl rfl) ?_ | refine wd_f rfl (f_loadb 4 rfl Try.underlying33 rfl rfl rfl) ?_ | refine wd_f rfl (f_loadb 5 rfl Try.underlying33 rfl rfl rfl) ?_ | refine wd_f rfl (f_loadb 6 rfl Try.underlying33 rfl rfl rfl) ?_)
        refine wd_f rfl (f_eqv (v' := .bool false) (f_eql rfl rfl) (by rw [decide_eq_false (by omega)])) ?_
        refine wd_f rfl (f_move rfl) ?_
        refine wd_gf rfl rfl rfl (f_fieldAddr 2 rfl Try.underlying36 rfl rfl (by kernel_rfl)) ?_
        (first | refine wd_gf rfl rfl rfl (f_loadb 0 rfl Try.underlying33 rfl rfl rfl) ?_ | refine wd_gf rfl rfl rfl (f_loadb 1 rfl Try.underlying33 rfl rfl rfl) ?_ | refine wd_gf rfl rfl rfl (f_loadb 2 rfl Try.underlying33 rfl rfl rfl) ?_ | refine wd_gf rfl rfl rfl (f_loadb 3 rfl Try.underlying33 rfl rfl rfl) ?_ | refine wd_gf rfl rfl rfl (f_loadb 4 rfl Try.underlying33 rfl rfl rfl) ?_ | refine wd_gf rfl rfl rfl (f_loadb 5 rfl Try.underlying33 rfl rfl rfl) ?_ | refine wd_gf rfl rfl rfl (f_loadb 6 rfl Try.underlying33 rfl rfl rfl) ?_)
        refine wd_gf rfl rfl rfl (f_move rfl) ?_
        refine wd_ge rfl rfl rfl (e_call1 r [_, _, _] rfl Try.func13 (by kernel_rfl) (pk1 3 rfl) (fun w hh hs => fruntracked_spec t m M base total r w hr hs)) ?_
        rintro _ _ w14 ⟨_, rfl, rfl, rfl⟩
        refine ⟨_, List.perm_append_comm, ?_⟩
        refine wd_gf rfl rfl rfl (f_eqv (v' := .bool false) (f_neq rfl rfl) (by rw [hxb]; simp)) ?_
        refine wd_f rfl (f_pick0 rfl rfl) ?_
        refine wd_end [(2, _), (7, _), (8, _), (10, _), (11, _), (14, _), (16, _), (88, _), (89, _), (90, _), (103, _)] ⟨rfl, rfl, rfl, rfl, rfl, rfl, rfl, rfl, rfl, rfl, rfl, trivial⟩ ?_
        refine w_iff rfl ?_
        refine w_skip ?_
        refine w_reg ?_
        refine wl_f (f_move rfl) ?_
        refine wl_f (f_fieldAddr 1 rfl Try.underlying36 rfl rfl (by kernel_rfl)) ?_
        (first | refine wl_f (f_loadb 0 rfl Try.underlying33 rfl rfl rfl) ?_ | refine wl_f (f_loadb 1 rfl Try.underlying33 rfl rfl rfl) ?_ | refine wl_f (f_loadb 2 rfl Try.underlying33 rfl rfl rfl) ?_ | refine wl_f (f_loadb 3 rfl Try.underlying33 rfl rfl rfl) ?_ | refine wl_f (f_loadb 4 rfl Try.underlying33 rfl rfl rfl) ?_ | refine wl_f (f_loadb 5 rfl Try.underlying33 rfl rfl rfl) ?_ | refine wl_f (f_loadb 6 rfl Try.underlying33 rfl rfl rfl) ?_)
        refine wl_f (f_eqv (v' := .int .u64 ((fb + isum (es.take (j + 1)) : Nat) : Int)) (f_addu rfl rfl (by omega)) (by rw [hst, ← Nat.add_assoc]; exact congrArg (Value.int .u64) (Int.natCast_add _ _).symm)) ?_
        refine wl_f (f_assign rfl) ?_
        refine wl_pick [1, 2, 1] rfl ?_
        refine wl_end [(2, _), (7, _), (8, _), (10, _), (11, _), (14, _), (88, _), (89, _), (90, _)] ⟨rfl, rfl, rfl, rfl, rfl, rfl, rfl, rfl, rfl, trivial⟩ ?_
        refine w_reg ?_
        refine wl_f (f_add rfl rfl (by omega)) ?_
        refine wl_f (f_move rfl) ?_
        refine wl_end [(2, _), (7, _), (8, _), (10, _), (11, _), (14, _), (88, _), (89, _), (90, _)] ⟨rfl, rfl, rfl, rfl, rfl, rfl, rfl, rfl, rfl, trivial⟩ ?_
        exact ⟨kk4 - 1, by omega, j + 1, rfl, rfl, by omega⟩
      · skip
        have hj : j = es.length := by
          have : ¬ (j : Int) < (es.length : Int) := hc6
          omega
        subst hj
        rw [List.take_length, hsum]
        refine w_exit0 ?_
        refine w_seq ?_
        refine w_reg ?_
        refine wl_f (f_move rfl) ?_
        refine wl_e (e_call1 r [_, _] rfl Try.func20 (by kernel_rfl) (pk1 1 rfl) (fun w hh hs => frlen_spec t m M base total r w hr hs)) ?_
        rintro _ _ w15 ⟨_, rfl, rfl, rfl⟩
        refine wl_f (f_move rfl) ?_
        refine wl_f (f_eqv (v' := .bool false) (f_gtr rfl rfl) (by rw [decide_eq_false (by omega)])) ?_
        refine wl_f (f_move rfl) ?_
        refine wl_or (j := 4) (c := false) 4 [(2, _), (7, _), (8, _), (10, _), (11, _)] ⟨rfl, rfl, rfl, rfl, rfl, trivial⟩ rfl rfl rfl rfl rfl (fun hg27_9 => ?_) (fun w27_9 => ?_)
        · skip
          refine wl_gf rfl rfl (f_move rfl) ?_
          refine wl_gf rfl rfl (f_move rfl) ?_
          refine wl_ge rfl rfl (e_call1 r [_, _] rfl Try.func15 (by kernel_rfl) (List.Perm.refl _) (fun w hh hs => frtotal_spec t m M base total r w hr hs)) ?_
          rintro _ _ w16 ⟨_, rfl, rfl, rfl⟩
          refine wl_gf rfl rfl (f_eqv (v' := .bool false) (f_gtr rfl rfl) (by rw [decide_eq_false (by omega)])) ?_
          exact wl_pend rfl rfl ⟨rfl, rfl, rfl, rfl, rfl, trivial⟩ (List.Sublist.refl _)
        refine wl_pick [0, 1] rfl ?_
        refine wl_end [(2, _), (7, _), (8, _), (10, _), (11, _), (118, _)] ⟨rfl, rfl, rfl, rfl, rfl, rfl, trivial⟩ ?_
        refine w_iff rfl ?_
        refine w_skip ?_
        refine w_reg ?_
        refine wl_f (f_move rfl) ?_
        refine wl_f (f_add rfl rfl (by omega)) ?_
        refine wl_f (f_assign rfl) ?_
        refine wl_end [(2, _), (7, _), (8, _), (10, _), (11, _)] ⟨rfl, rfl, rfl, rfl, rfl, trivial⟩ ?_
        exact ⟨kk - 1, by omega, i + 1, M, base, total, r, p, rfl, rfl, hr, hI, by omega, by omega, hp⟩
  · skip
    refine w_exit0 ?_
    refine w_seq ?_
    refine w_reg ?_
    refine wl_e (e_call0 rfl Try.func16 (by kernel_rfl) (fun w hh => awake14_spec w)) ?_
    rintro _ _ w20 ⟨_, rfl, rfl⟩
    refine wl_f (f_assign rfl) ?_
    refine wl_end [(6, _)] ⟨rfl, trivial⟩ ?_
    refine w_ret ?_
    refine ⟨_, _, fun a ha hh => results_tmps Try.results7 rfl a ha _, List.Sublist.refl _, ?_⟩
    rfl
end Go.Proofs.Ytkoklfagmbaapaa
