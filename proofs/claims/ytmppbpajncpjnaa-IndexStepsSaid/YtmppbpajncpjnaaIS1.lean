/- The law IndexSteps: the call returns true. -/
import Derived.Test.YtmppbpajncpjnaaIR3
namespace Go.Proofs.Ytmppbpajncpjnaa
open Go.RowKit

theorem TbR.perm {α : Type} {K : VI α} {b n : Nat} {T : List Nat} {seed : Int} {M M' : List (ByteArray × α)} {r : Res} (h : TbR K b n T seed M r) (hp : M.Perm M') : TbR K b n T seed M' r := by
  obtain ⟨N, cs, hC, hI, hM, hle, hsm⟩ := h
  exact ⟨N, cs, hC, hI, hM.trans hp, hle, hsm⟩
theorem klen (M : KL) : (keys M).length = M.length := by simp [keys]

set_option maxHeartbeats 8000000 in
theorem indexSteps_spec (A1 : Option Addr) (c1 : Nat) (L1 : List Int) (A2 : Option Addr) (c2 : Nat) (L2 : List Int) (raw : ByteArray) (sd : Int) (w : World)
    (h1 : Rd w Nil 1 (.slice A1 L1.length c1) L1.length (iv L1)) (hL1 : L1.length ≤ 140737488355328) (h2 : Rd w Nil 1 (.slice A2 L2.length c2) L2.length (iv L2)) (hL2 : L2.length ≤ 140737488355328) (hraw : small raw) :
    Spec Try.prog 6 [.slice A1 L1.length c1, .slice A2 L2.length c2, .string raw, .int .u64 sd] w Nil fun r _ => r = .bool true := by
  obtain ⟨A', c', e, hxl, hxc, hxA⟩ := id h2
  injection e with e1 _ e3
  subst e1; subst e3
  refine enter (n := 150) Try.func6 rfl rfl [(0, _), (1, _), (2, _), (3, _)] rfl ⟨rfl, rfl, rfl, rfl, trivial⟩ (Holds.start _ _) ?_
  refine w_seq ?_
  refine w_reg ?_
  refine wl_f (f_assign rfl) ?_
  refine wl_end [(0, _), (1, _), (2, _), (3, _)] ⟨rfl, rfl, rfl, rfl, trivial⟩ ?_
  refine w_seq ?_
  refine w_reg ?_
  refine wl_f (f_move rfl) ?_
  refine wl_e (e_call0 rfl Try.func8 (by kernel_rfl) (fun w hh => new_spec A1 L1.length c1 w)) ?_
  rintro _ _ w1 ⟨_, rfl, bd, rfl, rfl⟩
  refine wl_f (f_assign rfl) ?_
  refine wl_end [(1, _), (2, _), (3, _), (9, _)] ⟨rfl, rfl, rfl, rfl, trivial⟩ ?_
  refine w_seq ?_
  refine w_reg ?_
  refine wl_f (f_move rfl) ?_
  refine wl_e (e_call1 (deck bd (.slice A1 L1.length c1) 0) [] rfl Try.func15 (by kernel_rfl) (List.Perm.refl _) (fun w hh hs' => next_spec bd _ L1 0 12 w ⟨h1.old1 hh (Hr := []) (List.Perm.refl _), hL1, Nat.zero_le _⟩ hs' (by omega))) ?_
  rintro _ _ w2 ⟨_, rfl, y, p0, rfl, hy, rfl, hp0⟩
  refine wl_f (f_eqv (v' := .int .i64 ((1 + y : Nat) : Int)) (f_add rfl rfl (by omega)) (by congr 1)) ?_
  obtain ⟨n, hn, hn1, hn12⟩ : ∃ n, 1 + y = n ∧ 1 ≤ n ∧ n ≤ 12 := ⟨_, rfl, by omega, by omega⟩
  rw [hn]
  refine wl_f (f_assign rfl) ?_
  refine wl_end [(1, _), (2, _), (3, _), (9, _), (10, _)] ⟨rfl, rfl, rfl, rfl, rfl, trivial⟩ ?_
  refine w_seq ?_
  refine w_reg ?_
  refine wl_f (f_move rfl) ?_
  refine wl_e (e_call1 (deck bd (.slice A1 L1.length c1) p0) [] rfl Try.func9 (by kernel_rfl) (List.Perm.refl _) (fun w hh hs' => table_spec bd _ L1 p0 w ⟨h1.old1 hh (Hr := []) (List.Perm.refl _), hL1, hp0⟩ hs')) ?_
  rintro _ _ w3 ⟨_, rfl, T, p1, A3, c3, rfl, hT, hTb, rfl, hp1⟩
  refine wl_f (f_assign rfl) ?_
  refine wl_end [(1, _), (2, _), (3, _), (9, _), (10, _), (11, _)] ⟨rfl, rfl, rfl, rfl, rfl, rfl, trivial⟩ ?_
  refine w_seq ?_
  refine w_reg ?_
  refine wl_f (f_move rfl) ?_
  refine wl_f (f_move rfl) ?_
  refine wl_f (f_move rfl) ?_
  refine wl_e (e_call0 rfl Try.func16 (by kernel_rfl) (fun w hh => ixnew_ok n T _ sd w hn1 (by omega) hT (Rd.held0 hh (i := 0) rfl))) ?_
  rintro _ _ w4 ⟨_, rfl, b, r0, rfl, rfl, hr0⟩
  refine wl_f (f_move rfl) ?_
  refine wl_f (f_extract rfl rfl) ?_
  refine wl_f (f_extract rfl rfl) ?_
  refine wl_f (f_assign rfl) ?_
  refine wl_f (f_assign rfl) ?_
  refine wl_end [(1, _), (2, _), (9, _), (10, _), (11, _), (12, _), (13, _)] ⟨rfl, rfl, rfl, rfl, rfl, rfl, rfl, trivial⟩ ?_
  refine w_seq ?_
  refine w_reg ?_
  refine wl_f (f_move rfl) ?_
  refine wl_f (f_move rfl) ?_
  refine wl_e (e_call0 rfl Try.func23 (by kernel_rfl) (fun w hh => rmnew_spec n A3 16 c3 w)) ?_
  rintro _ _ w5 ⟨_, rfl, ⟨hne, _⟩ | ⟨kn, q, rq0, hkn, _, _, _, rfl, rfl, hrq0⟩⟩
  · exfalso
    exact hne (by rw [newE, if_neg (by omega), if_pos rfl])
  obtain rfl : n = kn := by omega
  refine wl_f (f_move rfl) ?_
  refine wl_f (f_extract rfl rfl) ?_
  refine wl_f (f_extract rfl rfl) ?_
  refine wl_f (f_assign rfl) ?_
  refine wl_f (f_assign rfl) ?_
  refine wl_pick [1, 0, 1] rfl ?_
  refine wl_end [(1, _), (2, _), (9, _), (12, _), (13, _), (14, _), (15, _)] ⟨rfl, rfl, rfl, rfl, rfl, rfl, rfl, trivial⟩ ?_
  refine w_seq ?_
  refine w_seq ?_
  refine w_reg ?_
  refine wl_f (f_move rfl) ?_
  refine wl_f (f_neq rfl rfl) ?_
  refine wl_f (f_move rfl) ?_
  refine wl_or (j := 2) (c := false) 2 [(1, _), (2, _), (9, _), (12, _), (14, _)] ⟨rfl, rfl, rfl, rfl, rfl, trivial⟩ rfl rfl rfl rfl rfl (fun hg6_5 => ?_) (fun w6_5 => ?_)
  · skip
    refine wl_gf rfl rfl (f_move rfl) ?_
    refine wl_gf rfl rfl (f_neq rfl rfl) ?_
    exact wl_pend rfl rfl ⟨rfl, rfl, rfl, rfl, rfl, trivial⟩ (List.Sublist.refl _)
  refine wl_f (f_move rfl) ?_
  refine wl_or (j := 6) (c := false) 2 [(1, _), (2, _), (9, _), (12, _), (14, _)] ⟨rfl, rfl, rfl, rfl, rfl, trivial⟩ rfl rfl rfl rfl rfl (fun hg6_9 => ?_) (fun w6_9 => ?_)
  · skip
    refine wl_gf rfl rfl (f_move rfl) ?_
    refine wl_gf rfl rfl (f_eqlnil rfl rfl Try.underlying40) ?_
    exact wl_pend rfl rfl ⟨rfl, rfl, rfl, rfl, rfl, trivial⟩ (List.Sublist.refl _)
  refine wl_end [(1, _), (2, _), (9, _), (12, _), (14, _), (57, _)] ⟨rfl, rfl, rfl, rfl, rfl, rfl, trivial⟩ ?_
  refine w_iff rfl ?_
  refine w_skip ?_
  refine w_seq ?_
  refine w_seq ?_
  refine w_reg ?_
  refine wl_f (f_assign rfl) ?_
  refine wl_end [(1, _), (2, _), (9, _), (12, _), (14, _), (16, _)] ⟨rfl, rfl, rfl, rfl, rfl, rfl, trivial⟩ ?_
  refine w_block ?_
  refine w_loop (fun kk m H w' => ∃ (i : Nat) (M : KL) (r rq : Res) (p : Nat), m = [(1, .slice A2 L2.length c2), (2, .string raw), (9, .pointer (some ⟨bd, 0, .none⟩)), (12, .pointer (some ⟨b, 0, .none⟩)), (14, .pointer (some ⟨q, 0, .none⟩)), (16, .int .i64 i)] ∧
    H = [r, rq, deck bd (.slice A1 L1.length c1) p] ∧ TbR xInt b n T sd M r ∧ RmR q n M rq ∧ SrtK M ∧ kk + i = 80 ∧ i ≤ L2.length ∧ p ≤ L1.length) 80 ⟨0, [], r0, rq0, p1, rfl, rfl, hr0, hrq0, List.Pairwise.nil, rfl, Nat.zero_le _, hp1⟩ ?_
  rintro kk _ _ w6 ⟨i, M, r, rq, p, rfl, rfl, hr, hrq, hSM, hkk, hiL, hp⟩
  refine w_seq ?_
  refine w_seq ?_
  refine w_reg ?_
  refine wl_f (f_move rfl) ?_
  refine wl_f (f_move rfl) ?_
  refine wl_f (f_len rfl Try.underlying23) ?_
  refine wl_f (f_lss rfl rfl) ?_
  refine wl_f (f_move rfl) ?_
  refine wl_and (j := 4) (c := decide ((i : Int) < 80)) 2 [(1, _), (2, _), (9, _), (12, _), (14, _), (16, _)] ⟨rfl, rfl, rfl, rfl, rfl, rfl, trivial⟩ rfl rfl rfl rfl rfl (fun hg9_7 => ?_) (fun w9_7 => ?_)
  · skip
    refine wl_gf rfl rfl (f_move rfl) ?_
    refine wl_gf rfl rfl (f_lss rfl rfl) ?_
    exact wl_pend rfl rfl ⟨rfl, rfl, rfl, rfl, rfl, rfl, trivial⟩ (List.Sublist.refl _)
  refine wl_end [(1, _), (2, _), (9, _), (12, _), (14, _), (16, _), (65, _)] ⟨rfl, rfl, rfl, rfl, rfl, rfl, rfl, trivial⟩ ?_
  refine w_ifb rfl (fun hc2 => ?_) (fun hc2 => ?_)
  · skip
    simp only [Bool.and_eq_true, decide_eq_true_eq] at hc2
    have hi : i < L2.length := by omega
    obtain ⟨s, hsi⟩ : ∃ s, L2[i]? = some s := ⟨_, List.getElem?_eq_getElem hi⟩
    obtain ⟨b2, off, rfl, _, _, hcell⟩ := hxA.resolve_left (by omega)
    have hMl := hr.len
    refine w_skip ?_
    refine w_seq ?_
    refine w_block ?_
    refine w_seq ?_
    refine w_reg ?_
    refine wl_f (f_move rfl) ?_
    refine wl_f (f_move rfl) ?_
    refine wl_f (f_indexAddr 1 (i := i) rfl rfl Try.underlying23 (by kernel_rfl) rfl hi) ?_
    refine wl_f (f_loado (v := .int .i64 s) rfl Try.underlying3 rfl (hcell _ _ (by simp [iv, hsi])) id) ?_
    refine wl_f (f_assign rfl) ?_
    refine wl_end [(1, _), (2, _), (9, _), (12, _), (14, _), (16, _), (17, _)] ⟨rfl, rfl, rfl, rfl, rfl, rfl, rfl, trivial⟩ ?_
    refine w_seq ?_
    refine w_reg ?_
    refine wl_f (f_move rfl) ?_
    refine wl_e (e_call1 (deck bd (.slice A1 L1.length c1) p) [_, _] rfl Try.func17 (by kernel_rfl) (pk1 2 rfl) (fun w hh hs' => short_spec bd _ L1 p w ⟨h1.old1 hh (pk1 2 rfl), hL1, hp⟩ hs')) ?_
    rintro _ _ w7 ⟨_, rfl, k0, p2, rfl, hk9, rfl, hp2⟩
    have hk0 : small k0 := small_of (by omega)
    refine wl_f (f_assign rfl) ?_
    refine wl_pick [1, 1, 0] rfl ?_
    refine wl_end [(1, _), (2, _), (9, _), (12, _), (14, _), (16, _), (17, _), (18, _)] ⟨rfl, rfl, rfl, rfl, rfl, rfl, rfl, rfl, trivial⟩ ?_
    refine w_seq ?_
    refine w_seq ?_
    refine w_reg ?_
    refine wl_f (f_move rfl) ?_
    refine wl_f (f_shr rfl rfl (by omega) rfl) ?_
    refine wl_f (f_and rfl rfl rfl) ?_
    refine wl_f (f_eql rfl rfl) ?_
    refine wl_end [(1, _), (2, _), (9, _), (12, _), (14, _), (16, _), (17, _), (18, _), (77, _)] ⟨rfl, rfl, rfl, rfl, rfl, rfl, rfl, rfl, rfl, trivial⟩ ?_
    refine w_post (fun m H w' => ∃ k : ByteArray, m = [(1, .slice (some ⟨b2, off, .none⟩) L2.length c2), (2, .string raw), (9, .pointer (some ⟨bd, 0, .none⟩)), (12, .pointer (some ⟨b, 0, .none⟩)), (14, .pointer (some ⟨q, 0, .none⟩)), (16, .int .i64 i), (17, .int .i64 s), (18, .string k)] ∧ H = [r, rq, deck bd (.slice A1 L1.length c1) p2] ∧ small k) ?_ ?_
    · skip
      refine w_ifd rfl (fun hc3 => ?_) (fun hc3 => ?_)
      · skip
        refine w_reg ?_
        refine wl_f (f_move rfl) ?_
        refine wl_f (f_assign rfl) ?_
        refine wl_end [(1, _), (2, _), (9, _), (12, _), (14, _), (16, _), (17, _), (18, _)] ⟨rfl, rfl, rfl, rfl, rfl, rfl, rfl, rfl, trivial⟩ ?_
        exact ⟨raw, rfl, rfl, hraw⟩
      · skip
        refine w_sub [(1, _), (2, _), (9, _), (12, _), (14, _), (16, _), (17, _), (18, _)] ⟨rfl, rfl, rfl, rfl, rfl, rfl, rfl, rfl, trivial⟩ (w_skip ?_)
        exact ⟨k0, rfl, rfl, hk0⟩
    · rintro _ _ w8 ⟨k, rfl, rfl, hk⟩
      refine w_seq ?_
      refine w_seq ?_
      refine w_reg ?_
      refine wl_f (f_move rfl) ?_
      refine wl_f (f_and rfl rfl rfl) ?_
      generalize bits .and .i64 s 3 = s3
      refine wl_end [(1, _), (2, _), (9, _), (12, _), (14, _), (16, _), (17, _), (18, _), (80, _)] ⟨rfl, rfl, rfl, rfl, rfl, rfl, rfl, rfl, rfl, trivial⟩ ?_
      refine w_post (fun m H w' => ∃ (M : KL) (r rq : Res), m = [(1, .slice (some ⟨b2, off, .none⟩) L2.length c2), (2, .string raw), (9, .pointer (some ⟨bd, 0, .none⟩)), (12, .pointer (some ⟨b, 0, .none⟩)), (14, .pointer (some ⟨q, 0, .none⟩)), (16, .int .i64 i)] ∧ H = [r, rq, deck bd (.slice A1 L1.length c1) p2] ∧ TbR xInt b n T sd M r ∧ RmR q n M rq ∧ SrtK M) ?_ ?_
      · skip
        refine w_block ?_
        refine w_seq ?_
        refine w_seq ?_
        refine w_reg ?_
        refine wl_f (f_eql rfl rfl) ?_
        refine wl_f (f_assign rfl) ?_
        refine wl_end [(1, _), (2, _), (9, _), (12, _), (14, _), (16, _), (17, _), (18, _), (80, _), (101, _)] ⟨rfl, rfl, rfl, rfl, rfl, rfl, rfl, rfl, rfl, rfl, trivial⟩ ?_
        refine w_post (fun m H w' => ∃ bb : Bool, m = [(1, .slice (some ⟨b2, off, .none⟩) L2.length c2), (2, .string raw), (9, .pointer (some ⟨bd, 0, .none⟩)), (12, .pointer (some ⟨b, 0, .none⟩)), (14, .pointer (some ⟨q, 0, .none⟩)), (16, .int .i64 i), (17, .int .i64 s), (18, .string k), (80, .int .i64 s3), (101, .bool bb)] ∧ H = [r, rq, deck bd (.slice A1 L1.length c1) p2]) ?_ ?_
        · skip
          refine w_ifd rfl (fun hc4 => ?_) (fun hc4 => ?_)
          · skip
            refine w_sub [(1, _), (2, _), (9, _), (12, _), (14, _), (16, _), (17, _), (18, _), (80, _), (101, _)] ⟨rfl, rfl, rfl, rfl, rfl, rfl, rfl, rfl, rfl, rfl, trivial⟩ (w_skip ?_)
            exact ⟨_, rfl, rfl⟩
          · skip
            refine w_reg ?_
            refine wl_f (f_eql rfl rfl) ?_
            refine wl_f (f_assign rfl) ?_
            refine wl_end [(1, _), (2, _), (9, _), (12, _), (14, _), (16, _), (17, _), (18, _), (80, _), (101, _)] ⟨rfl, rfl, rfl, rfl, rfl, rfl, rfl, rfl, rfl, rfl, trivial⟩ ?_
            exact ⟨_, rfl, rfl⟩
        · rintro _ _ w10 ⟨bb, rfl, rfl⟩
          refine w_ifb rfl (fun hc5 => ?_) (fun hc5 => ?_)
          · skip
            refine w_seq ?_
            refine w_reg ?_
            refine wl_f (f_move rfl) ?_
            refine wl_f (f_move rfl) ?_
            refine wl_f (f_move rfl) ?_
            refine wl_e (e_call1 r [_, _] rfl Try.func18 (by kernel_rfl) (List.Perm.refl _) (fun w hh hs => ixput_spec b n T sd M r k s w hk hr hs)) ?_
            rintro _ _ w11 ⟨_, rfl, rfl, r1, rfl, hr1⟩
            refine wl_f (f_move rfl) ?_
            refine wl_f (f_move rfl) ?_
            refine wl_f (f_move rfl) ?_
            refine wl_e (e_call1 rq [_, _] rfl Try.func25 (by kernel_rfl) (pk1 1 rfl) (fun w hh hs => rmput_spec q n M rq k s w (by omega) hMl hSM hrq hs)) ?_
            rintro _ _ w12 ⟨_, rfl, rfl, M', rq1, rfl, h4, h5, hpm⟩
            have h3 := hr1.perm hpm.symm
            refine wl_f (f_neq rfl rfl) ?_
            refine wl_pick [1, 0, 0] rfl ?_
            refine wl_end [(1, _), (2, _), (9, _), (12, _), (14, _), (16, _), (112, _)] ⟨rfl, rfl, rfl, rfl, rfl, rfl, rfl, trivial⟩ ?_
            refine w_ifd rfl (fun h => absurd rfl h) (fun _ => ?_)
            refine w_sub [(1, _), (2, _), (9, _), (12, _), (14, _), (16, _)] ⟨rfl, rfl, rfl, rfl, rfl, rfl, trivial⟩ (w_skip ?_)
            exact ⟨_, _, _, rfl, rfl, h3, h4, h5⟩
          · skip
            refine w_seq ?_
            refine w_reg ?_
            refine wl_f (f_eql rfl rfl) ?_
            refine wl_f (f_assign rfl) ?_
            refine wl_end [(1, _), (2, _), (9, _), (12, _), (14, _), (16, _), (18, _), (113, _)] ⟨rfl, rfl, rfl, rfl, rfl, rfl, rfl, rfl, trivial⟩ ?_
            refine w_ifd rfl (fun hc7 => ?_) (fun hc7 => ?_)
            · skip
              refine w_seq ?_
              refine w_reg ?_
              refine wl_f (f_move rfl) ?_
              refine wl_f (f_move rfl) ?_
              refine wl_e (e_call1 r [_, _] rfl Try.func19 (by kernel_rfl) (List.Perm.refl _) (fun w hh hs => ixdelete_spec b n T sd M r k w hk hr hs)) ?_
              rintro _ _ w11 ⟨_, rfl, rfl, r1, rfl, hr1⟩
              refine wl_f (f_move rfl) ?_
              refine wl_f (f_extract rfl rfl) ?_
              refine wl_f (f_extract rfl rfl) ?_
              refine wl_f (f_assign rfl) ?_
              refine wl_f (f_assign rfl) ?_
              refine wl_end [(1, _), (2, _), (9, _), (12, _), (14, _), (16, _), (18, _), (19, _), (20, _)] ⟨rfl, rfl, rfl, rfl, rfl, rfl, rfl, rfl, rfl, trivial⟩ ?_
              refine w_seq ?_
              refine w_reg ?_
              refine wl_f (f_move rfl) ?_
              refine wl_f (f_move rfl) ?_
              refine wl_e (e_call1 rq [_, _] rfl Try.func26 (by kernel_rfl) (pk1 1 rfl) (fun w hh hs => rmdelete_spec q n M rq k w (by omega) hMl hSM hrq hs)) ?_
              rintro _ _ w12 ⟨_, rfl, rfl, M', rq1, rfl, h4, h5, hpm⟩
              have h3 := hr1.perm hpm.symm
              refine wl_f (f_move rfl) ?_
              refine wl_f (f_extract rfl rfl) ?_
              refine wl_f (f_extract rfl rfl) ?_
              refine wl_f (f_assign rfl) ?_
              refine wl_f (f_assign rfl) ?_
              refine wl_pick [1, 0, 0] rfl ?_
              refine wl_end [(1, _), (2, _), (9, _), (12, _), (14, _), (16, _), (19, _), (20, _), (21, _), (22, _)] ⟨rfl, rfl, rfl, rfl, rfl, rfl, rfl, rfl, rfl, rfl, trivial⟩ ?_
              refine w_seq ?_
              refine w_reg ?_
              refine wl_f (f_move rfl) ?_
              refine wl_f (f_move rfl) ?_
              refine wl_f (f_neq rfl rfl) ?_
              refine wl_f (f_move rfl) ?_
              refine wl_or (j := 3) (c := ((mget M k).isSome != (mget M k).isSome)) 3 [(1, _), (2, _), (9, _), (12, _), (14, _), (16, _)] ⟨rfl, rfl, rfl, rfl, rfl, rfl, trivial⟩ rfl rfl rfl rfl rfl (fun hg27_7 => ?_) (fun w27_7 => ?_)
              · skip
                refine wl_gf rfl rfl (f_move rfl) ?_
                refine wl_gf rfl rfl (f_move rfl) ?_
                refine wl_gf rfl rfl (f_neqb rfl rfl Try.underlying4) ?_
                exact wl_pend rfl rfl ⟨rfl, rfl, rfl, rfl, rfl, rfl, trivial⟩ (List.Sublist.refl _)
              refine wl_end [(1, _), (2, _), (9, _), (12, _), (14, _), (16, _), (134, _)] ⟨rfl, rfl, rfl, rfl, rfl, rfl, rfl, trivial⟩ ?_
              refine w_ifb rfl (fun h => absurd h (by simp [xInt])) (fun _ => ?_)
              refine w_sub [(1, _), (2, _), (9, _), (12, _), (14, _), (16, _)] ⟨rfl, rfl, rfl, rfl, rfl, rfl, trivial⟩ (w_skip ?_)
              exact ⟨_, _, _, rfl, rfl, h3, h4, h5⟩
            · skip
              refine w_seq ?_
              refine w_reg ?_
              refine wl_f (f_move rfl) ?_
              refine wl_f (f_move rfl) ?_
              refine wl_e (e_call1 r [_, _] rfl Try.func20 (by kernel_rfl) (List.Perm.refl _) (fun w hh hs => ixget_spec b n T sd M r k w hk hr hs)) ?_
              rintro _ _ w11 ⟨_, rfl, rfl, rfl⟩
              refine wl_f (f_move rfl) ?_
              refine wl_f (f_extract rfl rfl) ?_
              refine wl_f (f_extract rfl rfl) ?_
              refine wl_f (f_assign rfl) ?_
              refine wl_f (f_assign rfl) ?_
              refine wl_end [(1, _), (2, _), (9, _), (12, _), (14, _), (16, _), (18, _), (23, _), (24, _)] ⟨rfl, rfl, rfl, rfl, rfl, rfl, rfl, rfl, rfl, trivial⟩ ?_
              refine w_seq ?_
              refine w_reg ?_
              refine wl_f (f_move rfl) ?_
              refine wl_f (f_move rfl) ?_
              refine wl_e (e_call1 rq [_, _] rfl Try.func27 (by kernel_rfl) (pk1 1 rfl) (fun w hh hs => rmget_spec q n M rq k w (by omega) hMl hSM hrq hs)) ?_
              rintro _ _ w12 ⟨_, rfl, rfl, rfl⟩
              have h3 := hr
              have h4 := hrq
              have h5 := hSM
              refine wl_f (f_move rfl) ?_
              refine wl_f (f_extract rfl rfl) ?_
              refine wl_f (f_extract rfl rfl) ?_
              refine wl_f (f_assign rfl) ?_
              refine wl_f (f_assign rfl) ?_
              refine wl_pick [1, 0, 0] rfl ?_
              refine wl_end [(1, _), (2, _), (9, _), (12, _), (14, _), (16, _), (23, _), (24, _), (25, _), (26, _)] ⟨rfl, rfl, rfl, rfl, rfl, rfl, rfl, rfl, rfl, rfl, trivial⟩ ?_
              refine w_seq ?_
              refine w_reg ?_
              refine wl_f (f_move rfl) ?_
              refine wl_f (f_move rfl) ?_
              refine wl_f (f_neq rfl rfl) ?_
              refine wl_f (f_move rfl) ?_
              refine wl_or (j := 3) (c := ((mget M k).isSome != (mget M k).isSome)) 3 [(1, _), (2, _), (9, _), (12, _), (14, _), (16, _)] ⟨rfl, rfl, rfl, rfl, rfl, rfl, trivial⟩ rfl rfl rfl rfl rfl (fun hg18_7 => ?_) (fun w18_7 => ?_)
              · skip
                refine wl_gf rfl rfl (f_move rfl) ?_
                refine wl_gf rfl rfl (f_move rfl) ?_
                refine wl_gf rfl rfl (f_neqb rfl rfl Try.underlying4) ?_
                exact wl_pend rfl rfl ⟨rfl, rfl, rfl, rfl, rfl, rfl, trivial⟩ (List.Sublist.refl _)
              refine wl_end [(1, _), (2, _), (9, _), (12, _), (14, _), (16, _), (100, _)] ⟨rfl, rfl, rfl, rfl, rfl, rfl, rfl, trivial⟩ ?_
              refine w_ifb rfl (fun h => absurd h (by simp [xInt])) (fun _ => ?_)
              refine w_sub [(1, _), (2, _), (9, _), (12, _), (14, _), (16, _)] ⟨rfl, rfl, rfl, rfl, rfl, rfl, trivial⟩ (w_skip ?_)
              exact ⟨_, _, _, rfl, rfl, h3, h4, h5⟩
      · clear hr hrq hSM
        rintro _ _ w9 ⟨M2, r2, q2, rfl, rfl, h3, h4, h5⟩
        have hM2l := h3.len
        refine w_seq ?_
        refine w_reg ?_
        refine wl_f (f_move rfl) ?_
        refine wl_e (e_call1 r2 [_, _] rfl Try.func22 (by kernel_rfl) (List.Perm.refl _) (fun w hh hs => ikeys_spec b n T sd M2 r2 w (by omega) h3 hs)) ?_
        rintro vk _ w13 ⟨_, rfl, l, rfl, hl, hsl⟩
        obtain rfl := srts_unique hsl h5 hl
        refine wl_with fun hh => ?_
        obtain ⟨Ak, ck, rfl⟩ := row_slice hh (i := 0) rfl
        clear hh
        refine wl_f (f_assign rfl) ?_
        refine wl_end [(1, _), (2, _), (9, _), (12, _), (14, _), (16, _), (27, _)] ⟨rfl, rfl, rfl, rfl, rfl, rfl, rfl, trivial⟩ ?_
        refine w_seq ?_
        refine w_reg ?_
        refine wl_f (f_move rfl) ?_
        refine wl_f (f_move rfl) ?_
        refine wl_e (e_call1 q2 [_, _, _] rfl Try.func28 (by kernel_rfl) (pk1 2 rfl) (fun w hh hs => rmkeys_spec q n M2 q2 w (by omega) h4 hs)) ?_
        rintro vq _ w14 ⟨_, rfl, rfl⟩
        rw [← klen M2]
        refine wl_e (e_call0 rfl Try.func21 (by kernel_rfl) (fun w hh => sameTexts_spec _ _ (keys M2) (keys M2) w (Rd.held0 hh (i := 2) rfl) (Rd.held0 hh (i := 0) rfl) (by rw [klen]; omega) (by rw [klen]; omega))) ?_
        rintro _ _ w15 ⟨_, rfl, rfl, rfl⟩
        refine wl_f (f_eqv (v' := .bool false) (f_not rfl rfl) (by simp)) ?_
        refine wl_f (f_move rfl) ?_
        refine wl_or (j := 5) (c := false) 5 [(1, _), (2, _), (9, _), (12, _), (14, _), (16, _)] ⟨rfl, rfl, rfl, rfl, rfl, rfl, trivial⟩ rfl rfl rfl rfl rfl (fun hg30_11 => ?_) (fun w30_11 => ?_)
        · skip
          refine wl_gf rfl rfl (f_move rfl) ?_
          refine wl_ge rfl rfl (e_call1 r2 [_, _, _, _] rfl Try.func24 (by kernel_rfl) (pk1 3 rfl) (fun w hh hs => ixlen_spec b n T sd M2 r2 w h3 hs)) ?_
          rintro _ _ w16 ⟨_, rfl, rfl, rfl⟩
          refine wl_gf rfl rfl (f_move rfl) ?_
          refine wl_gf rfl rfl (f_len rfl Try.underlying22) ?_
          refine wl_gf rfl rfl (f_eqv (v' := .bool false) (f_neq rfl rfl) (by simp [keys])) ?_
          refine wl_pick [1, 1, 1, 0, 0] rfl ?_
          exact wl_pend rfl rfl ⟨rfl, rfl, rfl, rfl, rfl, rfl, trivial⟩ (List.Sublist.refl _)
        refine wl_pick [3, 1, 2] rfl ?_
        refine wl_end [(1, _), (2, _), (9, _), (12, _), (14, _), (16, _), (148, _)] ⟨rfl, rfl, rfl, rfl, rfl, rfl, rfl, trivial⟩ ?_
        refine w_iff rfl ?_
        refine w_skip ?_
        refine w_reg ?_
        refine wl_f (f_move rfl) ?_
        refine wl_f (f_add rfl rfl (by omega)) ?_
        refine wl_f (f_assign rfl) ?_
        refine wl_end [(1, _), (2, _), (9, _), (12, _), (14, _), (16, _)] ⟨rfl, rfl, rfl, rfl, rfl, rfl, trivial⟩ ?_
        exact ⟨kk - 1, by omega, i + 1, M2, r2, q2, p2, rfl, rfl, h3, h4, h5, by omega, by omega, hp2⟩
  · skip
    refine w_exit0 ?_
    refine w_seq ?_
    refine w_reg ?_
    refine wl_e (e_call0 rfl Try.func14 (by kernel_rfl) (fun w hh => awake10_spec w)) ?_
    rintro _ _ w20 ⟨_, rfl, rfl⟩
    refine wl_f (f_assign rfl) ?_
    refine wl_end [(8, _)] ⟨rfl, trivial⟩ ?_
    refine w_ret ?_
    refine ⟨_, _, fun a ha hh => results_tmps Try.results6 rfl a ha _, List.Sublist.refl _, ?_⟩
    rfl
end Go.Proofs.Ytmppbpajncpjnaa
