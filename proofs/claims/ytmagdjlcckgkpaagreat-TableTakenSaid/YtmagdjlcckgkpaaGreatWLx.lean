/- The law TableLimit: the call returns true. -/
import Derived.Test.YtmagdjlcckgkpaaGreatMA11
import Derived.Test.YtmagdjlcckgkpaaGreatMA8
namespace Go.Proofs.YtmagdjlcckgkpaaGreat
open Go.RowKit

def TS.mode : TS → Nat
  | .sv _ _ _ _ => 1
  | .fr _ _ _ => 2
section
variable {m : Nat} {S S' : TS} {k x : ByteArray} {v : Nat} {e : Int}
theorem TS.new_mode {mode m : Nat} (h : mode = 1 ∨ mode = 2) : (TS.new mode m).mode = mode := by
  rcases h with rfl | rfl <;> rfl
theorem AddS.mode (h : AddS m k v e S S') : S'.mode = S.mode := by
  cases S <;> cases S' <;> first | rfl | cases h
theorem TakeS.mode {u : Value} (h : TakeS k u S S') : S'.mode = S.mode := by
  cases S <;> cases S' <;> first | rfl | cases h
theorem SwapS.mode {xo xs : Nat} {u : Value} (h : SwapS k x xo xs u S S') : S'.mode = S.mode := by
  cases S <;> cases S' <;> first | rfl | cases h
theorem TsI.top (h : TsI m S) : S.total ≤ 9223372036854775808 := by
  cases S with
  | sv E l base total => exact h.2.2.2.2
  | fr M ded total => exact h.2.top
theorem TsI.limit (h : TsI m S) (hm : m ≤ 64) : S.base ≤ tabL S.mode m S.total := by
  cases S with
  | sv E l base total =>
    obtain ⟨h1, h2, h3, h4, h5⟩ := h
    have h6 := h3.mbase
    rw [h2, Nat.mul_comm] at h6
    have e : tabL (TS.sv E l base total).mode m total = total / m := (if_neg (by omega)).trans (if_pos rfl)
    show base ≤ tabL (TS.sv E l base total).mode m total
    rw [e]
    exact (Nat.le_div_iff_mul_le (by omega)).2 h6
  | fr M ded total =>
    obtain ⟨h1, h2⟩ := h
    have h6 := h2.sum
    have e : tabL (TS.fr M ded total).mode m total = total / (m + 1) := (if_neg (by omega)).trans ((if_neg (show ¬ ((2 : Nat) : Int) = 1 by decide)).trans (if_pos rfl))
    show ded ≤ tabL (TS.fr M ded total).mode m total
    rw [e]
    exact (Nat.le_div_iff_mul_le (by omega)).2 (by rw [Nat.mul_comm]; omega)
theorem TsI.slack {k' : ByteArray} {o s : Nat} {is : Bool} (h : TsI m S) (hg : GetS k k' o s is S) (his : is = true) : s ≤ S.base := by
  cases S with
  | sv E l base total =>
    obtain ⟨i, hi, _⟩ := hg.1 his
    exact h.2.2.2.1 k i o s hi
  | fr M ded total =>
    obtain ⟨_, h1, _⟩ := hg.1 his
    exact Nat.le_of_eq h1
end
set_option maxHeartbeats 8000000 in
theorem tableLimit_spec (sv : Bool) (z : Nat) (A1 : Option Addr) (c1 : Nat) (L1 : List Int) (A2 : Option Addr) (c2 : Nat) (L2 : List Int) (w : World) (hz : z < 256)
    (h1 : Rd w Nil 1 (.slice A1 L1.length c1) L1.length (iv L1)) (hL1 : L1.length ≤ 140737488355328) (h2 : Rd w Nil 1 (.slice A2 L2.length c2) L2.length (iv L2)) (hL2 : L2.length ≤ 140737488355328) :
    Spec Tryz.prog 5 [.bool sv, .int .u8 z, .slice A1 L1.length c1, .slice A2 L2.length c2] w Nil fun r _ => r = .bool true := by
  obtain ⟨A', c', e, hxl, hxc, hxA⟩ := id h2
  injection e with e1 _ e3
  subst e1; subst e3
  refine enter (n := 118) Tryz.func5 rfl rfl [(0, _), (1, _), (2, _), (3, _)] rfl ⟨rfl, rfl, rfl, rfl, trivial⟩ (Holds.start _ _) ?_
  refine w_seq ?_
  refine w_reg ?_
  refine wl_f (f_assign rfl) ?_
  refine wl_end [(0, _), (1, _), (2, _), (3, _)] ⟨rfl, rfl, rfl, rfl, trivial⟩ ?_
  refine w_seq ?_
  refine w_reg ?_
  refine wl_f (f_move rfl) ?_
  refine wl_f (f_convi rfl Tryz.underlying5 Tryz.underlying3 (by omega)) ?_
  refine wl_f (f_rem rfl rfl (by omega)) ?_
  refine wl_f (f_eqv (v' := .int .i64 ((1 + z % 6 : Nat) : Int)) (f_add rfl rfl (by omega)) (by congr 1)) ?_
  obtain ⟨m, hm, hm1, hm6⟩ : ∃ m, 1 + z % 6 = m ∧ 1 ≤ m ∧ m ≤ 6 := ⟨_, rfl, by omega, by omega⟩
  rw [hm]
  refine wl_f (f_assign rfl) ?_
  refine wl_f (f_assign rfl) ?_
  refine wl_end [(0, _), (2, _), (3, _), (9, _), (10, _)] ⟨rfl, rfl, rfl, rfl, rfl, trivial⟩ ?_
  refine w_seq ?_
  refine w_seq ?_
  refine w_reg ?_
  refine wl_f (f_move rfl) ?_
  refine wl_end [(2, _), (3, _), (9, _), (10, _), (25, _)] ⟨rfl, rfl, rfl, rfl, rfl, trivial⟩ ?_
  refine w_post (fun m' H w' => ∃ mode : Nat, m' = [(2, .slice A1 L1.length c1), (3, .slice A2 L2.length c2), (9, .int .i64 mode), (10, .int .i64 m)] ∧ H = [] ∧ (mode = 1 ∨ mode = 2)) ?_ ?_
  · skip
    refine w_ifb rfl (fun hc1 => ?_) (fun hc1 => ?_)
    · skip
      refine w_reg ?_
      refine wl_f (f_assign rfl) ?_
      refine wl_end [(2, _), (3, _), (9, _), (10, _)] ⟨rfl, rfl, rfl, rfl, trivial⟩ ?_
      exact ⟨1, rfl, rfl, .inl rfl⟩
    · skip
      refine w_sub [(2, _), (3, _), (9, _), (10, _)] ⟨rfl, rfl, rfl, rfl, trivial⟩ (w_skip ?_)
      exact ⟨2, rfl, rfl, .inr rfl⟩
  · rintro _ _ w0 ⟨mode, rfl, rfl, hmode⟩
    refine w_seq ?_
    refine w_reg ?_
    refine wl_f (f_move rfl) ?_
    refine wl_f (f_move rfl) ?_
    refine wl_e (e_call0 rfl Tryz.func8 (by kernel_rfl) (fun w hh => tnew_ok mode m w hmode hm1 (by omega))) ?_
    rintro _ _ w1 ⟨_, rfl, t, r0, rfl, rfl, hr0⟩
    refine wl_f (f_move rfl) ?_
    refine wl_f (f_extract rfl rfl) ?_
    refine wl_f (f_extract rfl rfl) ?_
    refine wl_f (f_assign rfl) ?_
    refine wl_f (f_assign rfl) ?_
    refine wl_end [(2, _), (3, _), (9, _), (10, _), (11, _), (12, _)] ⟨rfl, rfl, rfl, rfl, rfl, rfl, trivial⟩ ?_
    refine w_seq ?_
    refine w_seq ?_
    refine w_reg ?_
    refine wl_f (f_move rfl) ?_
    refine wl_f (f_neq rfl rfl) ?_
    refine wl_f (f_move rfl) ?_
    refine wl_or (j := 2) (c := false) 2 [(2, _), (3, _), (9, _), (10, _), (11, _)] ⟨rfl, rfl, rfl, rfl, rfl, trivial⟩ rfl rfl rfl rfl rfl (fun hg5_5 => ?_) (fun w5_5 => ?_)
    · skip
      refine wl_gf rfl rfl (f_move rfl) ?_
      refine wl_gf rfl rfl (f_eqlnil rfl rfl Tryz.underlying24) ?_
      exact wl_pend rfl rfl ⟨rfl, rfl, rfl, rfl, rfl, trivial⟩ (List.Sublist.refl _)
    refine wl_end [(2, _), (3, _), (9, _), (10, _), (11, _), (37, _)] ⟨rfl, rfl, rfl, rfl, rfl, rfl, trivial⟩ ?_
    refine w_iff rfl ?_
    refine w_skip ?_
    refine w_seq ?_
    refine w_reg ?_
    refine wl_f (f_move rfl) ?_
    refine wl_e (e_call0 rfl Tryz.func9 (by kernel_rfl) (fun w hh => new_spec A1 L1.length c1 w)) ?_
    rintro _ _ w2 ⟨_, rfl, bd, rfl, rfl⟩
    refine wl_f (f_assign rfl) ?_
    refine wl_pick [1, 0] rfl ?_
    refine wl_end [(3, _), (9, _), (10, _), (11, _), (13, _)] ⟨rfl, rfl, rfl, rfl, rfl, trivial⟩ ?_
    refine w_seq ?_
    refine w_seq ?_
    refine w_reg ?_
    refine wl_f (f_assign rfl) ?_
    refine wl_end [(3, _), (9, _), (10, _), (11, _), (13, _), (14, _)] ⟨rfl, rfl, rfl, rfl, rfl, rfl, trivial⟩ ?_
    refine w_block ?_
    refine w_loop (fun kk m' H w' => ∃ (i : Nat) (S : TS) (r : Res) (p : Nat), m' = [(3, .slice A2 L2.length c2), (9, .int .i64 mode), (10, .int .i64 m), (11, .pointer (some ⟨t, 0, .none⟩)), (13, .pointer (some ⟨bd, 0, .none⟩)), (14, .int .i64 i)] ∧
      H = [r, deck bd (.slice A1 L1.length c1) p] ∧ TbS t m S r ∧ TsI m S ∧ S.mode = mode ∧ kk + i = 80 ∧ i ≤ L2.length ∧ p ≤ L1.length) 80
      ⟨0, _, r0, 0, rfl, rfl, hr0, TsI.new mode m hm1, TS.new_mode hmode, rfl, Nat.zero_le _, Nat.zero_le _⟩ ?_
    rintro kk _ _ w3 ⟨i, S, r, p, rfl, rfl, hr, hI, hSm, hkk, hiL, hp⟩
    refine w_seq ?_
    refine w_seq ?_
    refine w_reg ?_
    refine wl_f (f_move rfl) ?_
    refine wl_f (f_move rfl) ?_
    refine wl_f (f_len rfl Tryz.underlying22) ?_
    refine wl_f (f_lss rfl rfl) ?_
    refine wl_f (f_move rfl) ?_
    refine wl_and (j := 4) (c := decide ((i : Int) < 80)) 2 [(3, _), (9, _), (10, _), (11, _), (13, _), (14, _)] ⟨rfl, rfl, rfl, rfl, rfl, rfl, trivial⟩ rfl rfl rfl rfl rfl (fun hg9_7 => ?_) (fun w9_7 => ?_)
    · skip
      refine wl_gf rfl rfl (f_move rfl) ?_
      refine wl_gf rfl rfl (f_lss rfl rfl) ?_
      exact wl_pend rfl rfl ⟨rfl, rfl, rfl, rfl, rfl, rfl, trivial⟩ (List.Sublist.refl _)
    refine wl_end [(3, _), (9, _), (10, _), (11, _), (13, _), (14, _), (47, _)] ⟨rfl, rfl, rfl, rfl, rfl, rfl, rfl, trivial⟩ ?_
    refine w_ifb rfl (fun hc3 => ?_) (fun hc3 => ?_)
    · skip
      simp only [Bool.and_eq_true, decide_eq_true_eq] at hc3
      have hi : i < L2.length := by omega
      obtain ⟨s, hsi⟩ : ∃ s, L2[i]? = some s := ⟨_, List.getElem?_eq_getElem hi⟩
      obtain ⟨b2, off, rfl, _, _, hcell⟩ := hxA.resolve_left (by omega)
      refine w_skip ?_
      refine w_seq ?_
      refine w_block ?_
      refine w_seq ?_
      refine w_draw [(0, true), (1, true), (2, true), (3, true), (4, true), (5, false), (6, true), (7, true)] ([]) ([_, _]) mixed (by kernel_rfl) (by kernel_rfl) rfl (List.Perm.refl _) (fun w11_ => ?_)
      refine wd_f rfl (f_move rfl) ?_
      refine wd_f rfl (f_move rfl) ?_
      refine wd_f rfl (f_indexAddr 1 (i := i) rfl rfl Tryz.underlying22 (by kernel_rfl) rfl hi) ?_
      refine wd_f rfl (f_loado (v := .int .i64 s) rfl Tryz.underlying3 rfl (hcell _ _ (by simp [iv, hsi])) id) ?_
      refine wd_f rfl (f_move rfl) ?_
      refine wd_e rfl (e_call1 (deck bd (.slice A1 L1.length c1) p) [_] rfl Tryz.func10 (by kernel_rfl) (pk1 1 rfl) (fun w hh hs' => short3_spec bd _ L1 p w ⟨h1.old1 hh (pk1 1 rfl), hL1, hp⟩ hs')) ?_
      rintro _ _ w4 ⟨_, rfl, key, p2, rfl, hk3, rfl, hp2⟩
      have hks : small key := small_of (by omega)
      refine ⟨_, List.Perm.swap .., ?_⟩
      refine wd_f rfl (f_assign rfl) ?_
      refine wd_f rfl (f_assign rfl) ?_
      refine wd_end [(3, _), (9, _), (10, _), (11, _), (13, _), (14, _), (15, _), (16, _)] ⟨rfl, rfl, rfl, rfl, rfl, rfl, rfl, rfl, trivial⟩ ?_
      refine w_seq ?_
      refine w_seq ?_
      refine w_reg ?_
      refine wl_f (f_move rfl) ?_
      refine wl_f (f_and rfl rfl rfl) ?_
      generalize bits .and .i64 s 7 = s7
      refine wl_end [(3, _), (9, _), (10, _), (11, _), (13, _), (14, _), (15, _), (16, _), (57, _)] ⟨rfl, rfl, rfl, rfl, rfl, rfl, rfl, rfl, rfl, trivial⟩ ?_
      refine w_post (fun m' H w' => ∃ (S : TS) (r : Res) (p : Nat), m' = [(3, .slice (some ⟨b2, off, .none⟩) L2.length c2), (9, .int .i64 mode), (10, .int .i64 m), (11, .pointer (some ⟨t, 0, .none⟩)), (13, .pointer (some ⟨bd, 0, .none⟩)), (14, .int .i64 i), (16, .string key)] ∧
        H = [r, deck bd (.slice A1 L1.length c1) p] ∧ TbS t m S r ∧ TsI m S ∧ S.mode = mode ∧ p ≤ L1.length) ?_ ?_
      · skip
        refine w_block ?_
        refine w_seq ?_
        refine w_reg ?_
        refine wl_f (f_eql rfl rfl) ?_
        refine wl_f (f_assign rfl) ?_
        refine wl_end [(3, _), (9, _), (10, _), (11, _), (13, _), (14, _), (15, _), (16, _), (57, _), (66, _)] ⟨rfl, rfl, rfl, rfl, rfl, rfl, rfl, rfl, rfl, rfl, trivial⟩ ?_
        refine w_ifd rfl (fun hc4 => ?_) (fun hc4 => ?_)
        · skip
          refine w_reg ?_
          refine wl_f (f_move rfl) ?_
          refine wl_f (f_move rfl) ?_
          refine wl_e (e_call1 r [_] rfl Tryz.func17 (by kernel_rfl) (List.Perm.refl _) (fun w hh hs => ttake_spec key hks hr hs)) ?_
          rintro _ _ w5 ⟨_, rfl, k', o', s', is, S1, r1, rfl, rfl, hr1, hg, hT⟩
          refine wl_end [(3, _), (9, _), (10, _), (11, _), (13, _), (14, _), (16, _)] ⟨rfl, rfl, rfl, rfl, rfl, rfl, rfl, trivial⟩ ?_
          exact ⟨S1, r1, p2, rfl, rfl, hr1, hI.take hT, by rw [hT.mode]; exact hSm, hp2⟩
        · skip
          refine w_seq ?_
          refine w_seq ?_
          refine w_reg ?_
          refine wl_f (f_eql rfl rfl) ?_
          refine wl_f (f_assign rfl) ?_
          refine wl_end [(3, _), (9, _), (10, _), (11, _), (13, _), (14, _), (15, _), (16, _), (57, _), (71, _)] ⟨rfl, rfl, rfl, rfl, rfl, rfl, rfl, rfl, rfl, rfl, trivial⟩ ?_
          refine w_post (fun m' H w' => ∃ bb : Bool, m' = [(3, .slice (some ⟨b2, off, .none⟩) L2.length c2), (9, .int .i64 mode), (10, .int .i64 m), (11, .pointer (some ⟨t, 0, .none⟩)), (13, .pointer (some ⟨bd, 0, .none⟩)), (14, .int .i64 i), (15, .int .i64 s), (16, .string key), (71, .bool bb)] ∧ H = [r, deck bd (.slice A1 L1.length c1) p2]) ?_ ?_
          · skip
            refine w_ifd rfl (fun hc5 => ?_) (fun hc5 => ?_)
            · skip
              refine w_sub [(3, _), (9, _), (10, _), (11, _), (13, _), (14, _), (15, _), (16, _), (71, _)] ⟨rfl, rfl, rfl, rfl, rfl, rfl, rfl, rfl, rfl, trivial⟩ (w_skip ?_)
              exact ⟨_, rfl, rfl⟩
            · skip
              refine w_reg ?_
              refine wl_f (f_eql rfl rfl) ?_
              refine wl_f (f_assign rfl) ?_
              refine wl_end [(3, _), (9, _), (10, _), (11, _), (13, _), (14, _), (15, _), (16, _), (71, _)] ⟨rfl, rfl, rfl, rfl, rfl, rfl, rfl, rfl, rfl, trivial⟩ ?_
              exact ⟨_, rfl, rfl⟩
          · rintro _ _ w10 ⟨bb, rfl, rfl⟩
            refine w_ifb rfl (fun hc6 => ?_) (fun hc6 => ?_)
            · skip
              refine w_seq ?_
              refine w_reg ?_
              refine wl_f (f_move rfl) ?_
              refine wl_e (e_call1 (deck bd (.slice A1 L1.length c1) p2) [_] rfl Tryz.func19 (by kernel_rfl) (pk1 1 rfl) (fun w hh hs' => entry_spec bd _ L1 p2 w ⟨h1.old1 hh (pk1 1 rfl), hL1, hp2⟩ hs')) ?_
              rintro _ _ w5 ⟨_, rfl, x, xo, xs, p3, rfl, hx3, hxo, hxs, rfl, hp3⟩
              have hxsm : small x := small_of (by omega)
              refine wl_e (e_allocs [.string ByteArray.empty, .int .u64 0, .int .u64 0] (by kernel_rfl)) ?_
              rintro _ _ w18_2 ⟨b18_2, rfl, rfl⟩
              (first | refine wl_e0 (e_store0 (us := [_, _, _]) rfl rfl rfl (by kernel_rfl) (by simp [Value.oneCell']) rfl rfl) ?_ | refine wl_e0 (e_store1 (us := [_, _, _]) rfl rfl rfl (by kernel_rfl) (by simp [Value.oneCell']) rfl rfl) ?_ | refine wl_e0 (e_store2 (us := [_, _, _]) rfl rfl rfl (by kernel_rfl) (by simp [Value.oneCell']) rfl rfl) ?_ | refine wl_e0 (e_store3 (us := [_, _, _]) rfl rfl rfl (by kernel_rfl) (by simp [Value.oneCell']) rfl rfl) ?_)
              rintro _ _ w18_3 rfl
              refine wl_end [(3, _), (9, _), (10, _), (11, _), (13, _), (14, _), (16, _), (17, _)] ⟨rfl, rfl, rfl, rfl, rfl, rfl, rfl, rfl, trivial⟩ ?_
              refine w_seq ?_
              refine w_drawk [(0, true), (1, true), (2, true), (3, false), (4, true), (5, true), (6, false)] ([(blk b18_2 [.string x, .int .u64 xo, .int .u64 xs] 46, some 6)]) ([deck bd (.slice A1 L1.length c1) p3, r]) mixed (by kernel_rfl) (by kernel_rfl) rfl rfl (pick_perm [0] _ rfl) (fun w19_ => ?_)
              refine wk_f rfl (f_fieldAddr 2 rfl Tryz.underlying46 rfl rfl (by kernel_rfl)) ?_
              (first | refine wk_f rfl (f_loadb 0 rfl Tryz.underlying33 rfl rfl rfl) ?_ | refine wk_f rfl (f_loadb 1 rfl Tryz.underlying33 rfl rfl rfl) ?_ | refine wk_f rfl (f_loadb 2 rfl Tryz.underlying33 rfl rfl rfl) ?_ | refine wk_f rfl (f_loadb 3 rfl Tryz.underlying33 rfl rfl rfl) ?_ | refine wk_f rfl (f_loadb 4 rfl Tryz.underlying33 rfl rfl rfl) ?_ | refine wk_f rfl (f_loadb 5 rfl Tryz.underlying33 rfl rfl rfl) ?_ | refine wk_f rfl (f_loadb 6 rfl Tryz.underlying33 rfl rfl rfl) ?_)
              refine wk_f rfl (f_move rfl) ?_
              refine wk_e rfl (e_call1 r [_, _] rfl Tryz.func15 (by kernel_rfl) (pk1 2 rfl) (fun w hh hs => tuntracked_spec hr hs)) ?_
              rintro _ _ w6 ⟨_, rfl, rfl, rfl⟩
              refine ⟨_, List.Perm.swap .., ?_⟩
              refine wk_f rfl (f_min (r := ((min xs S.base : Nat) : Int)) rfl rfl (by split <;> omega)) ?_
              refine wk_f rfl (f_fieldAddr 2 rfl Tryz.underlying46 rfl rfl (by kernel_rfl)) ?_
              refine wk_e0 rfl (e_storeN 0 (us := [_]) rfl rfl rfl rfl (by kernel_rfl) (by simp [Value.oneCell']) rfl rfl) ?_
              rintro _ _ w19_6 rfl
              refine ⟨_, List.Perm.refl _, ?_⟩
              refine wk_end [(3, _), (9, _), (10, _), (11, _), (13, _), (14, _), (16, _), (17, _)] ⟨rfl, rfl, rfl, rfl, rfl, rfl, rfl, rfl, trivial⟩ ?_
              refine w_reg ?_
              refine wl_f (f_move rfl) ?_
              refine wl_f (f_move rfl) ?_
              (first | refine wl_f (f_loadsb (cs := [_, _, _]) 0 rfl Tryz.underlying46 rfl (by kernel_rfl) rfl rfl) ?_ | refine wl_f (f_loadsb (cs := [_, _, _]) 1 rfl Tryz.underlying46 rfl (by kernel_rfl) rfl rfl) ?_ | refine wl_f (f_loadsb (cs := [_, _, _]) 2 rfl Tryz.underlying46 rfl (by kernel_rfl) rfl rfl) ?_ | refine wl_f (f_loadsb (cs := [_, _, _]) 3 rfl Tryz.underlying46 rfl (by kernel_rfl) rfl rfl) ?_ | refine wl_f (f_loadsb (cs := [_, _, _]) 4 rfl Tryz.underlying46 rfl (by kernel_rfl) rfl rfl) ?_ | refine wl_f (f_loadsb (cs := [_, _, _]) 5 rfl Tryz.underlying46 rfl (by kernel_rfl) rfl rfl) ?_ | refine wl_f (f_loadsb (cs := [_, _, _]) 6 rfl Tryz.underlying46 rfl (by kernel_rfl) rfl rfl) ?_)
              refine wl_e (e_call1 r [_, _] rfl Tryz.func20 (by kernel_rfl) (pk1 1 rfl) (fun w hh hs => tswap_spec key x xo (min xs S.base) hks hxsm (by omega) (by omega) hI.j hr hs)) ?_
              rintro _ _ w8 ⟨_, rfl, k', o', s', e', S1, r1, rfl, rfl, hr1, hW⟩
              refine wl_pick [0, 1] rfl ?_
              refine wl_end [(3, _), (9, _), (10, _), (11, _), (13, _), (14, _), (16, _)] ⟨rfl, rfl, rfl, rfl, rfl, rfl, rfl, trivial⟩ ?_
              exact ⟨S1, r1, p3, rfl, rfl, hr1, hI.swap (by omega) hW, by rw [hW.mode]; exact hSm, hp3⟩
            · skip
              obtain ⟨wn, hwn, hwn32⟩ := mod32 (s.fdiv (2 ^ min ((3 : Int).toNat) (IntKind.bits .i64)))
              refine w_reg ?_
              refine wl_f (f_move rfl) ?_
              refine wl_f (f_move rfl) ?_
              refine wl_f (f_move rfl) ?_
              refine wl_f (f_shr rfl rfl (by omega) rfl) ?_
              refine wl_f (f_and rfl rfl hwn) ?_
              refine wl_f (f_eqv (v' := .int .i64 ((1 + wn : Nat) : Int)) (f_add rfl rfl (by omega)) (by congr 1)) ?_
              refine wl_f (f_convu rfl Tryz.underlying3 Tryz.underlying33 (by omega)) ?_
              refine wl_e (e_call1 r [_] rfl Tryz.func11 (by kernel_rfl) (List.Perm.refl _) (fun w hh hs => tadd_spec key (1 + wn) (by omega) hks (by omega) hI.j hr hs)) ?_
              rintro _ _ w6 ⟨_, rfl, e1, S1, r1, rfl, rfl, hr1, hA⟩
              refine wl_end [(3, _), (9, _), (10, _), (11, _), (13, _), (14, _), (16, _)] ⟨rfl, rfl, rfl, rfl, rfl, rfl, rfl, trivial⟩ ?_
              exact ⟨S1, r1, p2, rfl, rfl, hr1, hI.add hA, by rw [hA.mode]; exact hSm, hp2⟩
      · clear hr hI hSm
        rintro _ _ w9 ⟨S, r, p, rfl, rfl, hr, hI, hSm, hp⟩
        refine w_seq ?_
        refine w_reg ?_
        refine wl_f (f_move rfl) ?_
        refine wl_f (f_move rfl) ?_
        refine wl_f (f_move rfl) ?_
        refine wl_e (e_call1 r [_] rfl Tryz.func16 (by kernel_rfl) (List.Perm.refl _) (fun w hh hs => ttotal_spec hr hs)) ?_
        rintro _ _ w11 ⟨_, rfl, rfl, rfl⟩
        have htop := hI.top
        refine wl_e (e_call0 rfl Tryz.func21 (by kernel_rfl) (fun w hh => tlimit_spec mode m S.total w (by omega))) ?_
        rintro _ _ w12 ⟨_, rfl, rfl, rfl⟩
        have hlim := hI.limit (by omega)
        rw [hSm] at hlim
        generalize tabL mode m S.total = lim at hlim ⊢
        refine wl_f (f_assign rfl) ?_
        refine wl_end [(3, _), (9, _), (10, _), (11, _), (13, _), (14, _), (16, _), (18, _)] ⟨rfl, rfl, rfl, rfl, rfl, rfl, rfl, rfl, trivial⟩ ?_
        refine w_seq ?_
        refine w_reg ?_
        refine wl_f (f_move rfl) ?_
        refine wl_f (f_move rfl) ?_
        refine wl_e (e_call1 r [_] rfl Tryz.func12 (by kernel_rfl) (List.Perm.refl _) (fun w hh hs => tbounds_spec key hks hI.j hr hs)) ?_
        rintro _ _ w13 ⟨_, rfl, k', o', s', is, rfl, rfl, hg⟩
        have hfit := hI.fits hg
        obtain ⟨lo, hi', hlo, hhi, hbd⟩ : ∃ lo hi', (if is then o' else 0) = lo ∧ (if is then o' + s' else S.base) = hi' ∧ lo ≤ hi' ∧ hi' - lo ≤ lim ∧ hi' < 18446744073709551616 := by
          refine ⟨_, _, rfl, rfl, ?_⟩
          cases is with
          | true => have := hI.slack hg rfl; simp only [if_true]; omega
          | false =>
            have hb : S.base < 18446744073709551616 := by
              cases S with
              | sv E l base total => obtain ⟨h1', h2', h3', h4', h5'⟩ := id hI; have := (h3'.tok (by omega) h5').2.1; show base < _; omega
              | fr M ded total => have := hI.2.ded_le; have := hI.2.top; show ded < _; omega
            simp only [Bool.false_eq_true, if_false]; omega
        rw [hlo, hhi]
        refine wl_f (f_move rfl) ?_
        refine wl_f (f_extract rfl rfl) ?_
        refine wl_f (f_extract rfl rfl) ?_
        refine wl_e (e_allocs [.int .u64 0, .int .u64 0] (by kernel_rfl)) ?_
        rintro _ _ w22_6 ⟨b22_6, rfl, rfl⟩
        (first | refine wl_e0 (e_store0 (us := [_, _]) rfl rfl rfl (by kernel_rfl) (by simp [Value.oneCell']) rfl rfl) ?_ | refine wl_e0 (e_store1 (us := [_, _]) rfl rfl rfl (by kernel_rfl) (by simp [Value.oneCell']) rfl rfl) ?_ | refine wl_e0 (e_store2 (us := [_, _]) rfl rfl rfl (by kernel_rfl) (by simp [Value.oneCell']) rfl rfl) ?_ | refine wl_e0 (e_store3 (us := [_, _]) rfl rfl rfl (by kernel_rfl) (by simp [Value.oneCell']) rfl rfl) ?_)
        rintro _ _ w22_7 rfl
        refine wl_f (f_assign rfl) ?_
        refine wl_end [(3, _), (9, _), (10, _), (11, _), (13, _), (14, _), (18, _), (19, _)] ⟨rfl, rfl, rfl, rfl, rfl, rfl, rfl, rfl, trivial⟩ ?_
        refine w_seq ?_
        refine w_reg ?_
        refine wl_f (f_move rfl) ?_
        refine wl_e (e_call1 r [_, _] rfl Tryz.func15 (by kernel_rfl) (pk1 1 rfl) (fun w hh hs => tuntracked_spec hr hs)) ?_
        rintro _ _ w14 ⟨_, rfl, rfl, rfl⟩
        refine wl_f (f_move rfl) ?_
        refine wl_f (f_eqv (v' := .bool false) (f_gtr rfl rfl) (by rw [decide_eq_false (by omega)])) ?_
        refine wl_f (f_move rfl) ?_
        refine wl_or (j := 4) (c := false) 5 [(3, _), (9, _), (10, _), (11, _), (13, _), (14, _), (18, _), (19, _)] ⟨rfl, rfl, rfl, rfl, rfl, rfl, rfl, rfl, trivial⟩ rfl rfl rfl rfl rfl (fun hg23_10 => ?_) (fun w23_10 => ?_)
        · skip
          refine wl_gf rfl rfl (f_fieldAddr 0 rfl Tryz.underlying36 rfl rfl (by kernel_rfl)) ?_
          (first | refine wl_gf rfl rfl (f_loadb 0 rfl Tryz.underlying33 rfl rfl rfl) ?_ | refine wl_gf rfl rfl (f_loadb 1 rfl Tryz.underlying33 rfl rfl rfl) ?_ | refine wl_gf rfl rfl (f_loadb 2 rfl Tryz.underlying33 rfl rfl rfl) ?_ | refine wl_gf rfl rfl (f_loadb 3 rfl Tryz.underlying33 rfl rfl rfl) ?_ | refine wl_gf rfl rfl (f_loadb 4 rfl Tryz.underlying33 rfl rfl rfl) ?_ | refine wl_gf rfl rfl (f_loadb 5 rfl Tryz.underlying33 rfl rfl rfl) ?_ | refine wl_gf rfl rfl (f_loadb 6 rfl Tryz.underlying33 rfl rfl rfl) ?_)
          refine wl_gf rfl rfl (f_fieldAddr 1 rfl Tryz.underlying36 rfl rfl (by kernel_rfl)) ?_
          (first | refine wl_gf rfl rfl (f_loadb 0 rfl Tryz.underlying33 rfl rfl rfl) ?_ | refine wl_gf rfl rfl (f_loadb 1 rfl Tryz.underlying33 rfl rfl rfl) ?_ | refine wl_gf rfl rfl (f_loadb 2 rfl Tryz.underlying33 rfl rfl rfl) ?_ | refine wl_gf rfl rfl (f_loadb 3 rfl Tryz.underlying33 rfl rfl rfl) ?_ | refine wl_gf rfl rfl (f_loadb 4 rfl Tryz.underlying33 rfl rfl rfl) ?_ | refine wl_gf rfl rfl (f_loadb 5 rfl Tryz.underlying33 rfl rfl rfl) ?_ | refine wl_gf rfl rfl (f_loadb 6 rfl Tryz.underlying33 rfl rfl rfl) ?_)
          refine wl_gf rfl rfl (f_eqv (v' := .bool false) (f_gtr rfl rfl) (by rw [decide_eq_false (by omega)])) ?_
          exact wl_pend rfl rfl ⟨rfl, rfl, rfl, rfl, rfl, rfl, rfl, rfl, trivial⟩ (List.Sublist.refl _)
        refine wl_f (f_move rfl) ?_
        refine wl_or (j := 11) (c := false) 7 [(3, _), (9, _), (10, _), (11, _), (13, _), (14, _)] ⟨rfl, rfl, rfl, rfl, rfl, rfl, trivial⟩ rfl rfl rfl rfl rfl (fun hg23_19 => ?_) (fun w23_19 => ?_)
        · skip
          refine wl_gf rfl rfl (f_fieldAddr 1 rfl Tryz.underlying36 rfl rfl (by kernel_rfl)) ?_
          (first | refine wl_gf rfl rfl (f_loadb 0 rfl Tryz.underlying33 rfl rfl rfl) ?_ | refine wl_gf rfl rfl (f_loadb 1 rfl Tryz.underlying33 rfl rfl rfl) ?_ | refine wl_gf rfl rfl (f_loadb 2 rfl Tryz.underlying33 rfl rfl rfl) ?_ | refine wl_gf rfl rfl (f_loadb 3 rfl Tryz.underlying33 rfl rfl rfl) ?_ | refine wl_gf rfl rfl (f_loadb 4 rfl Tryz.underlying33 rfl rfl rfl) ?_ | refine wl_gf rfl rfl (f_loadb 5 rfl Tryz.underlying33 rfl rfl rfl) ?_ | refine wl_gf rfl rfl (f_loadb 6 rfl Tryz.underlying33 rfl rfl rfl) ?_)
          refine wl_gf rfl rfl (f_fieldAddr 0 rfl Tryz.underlying36 rfl rfl (by kernel_rfl)) ?_
          (first | refine wl_gf rfl rfl (f_loadb 0 rfl Tryz.underlying33 rfl rfl rfl) ?_ | refine wl_gf rfl rfl (f_loadb 1 rfl Tryz.underlying33 rfl rfl rfl) ?_ | refine wl_gf rfl rfl (f_loadb 2 rfl Tryz.underlying33 rfl rfl rfl) ?_ | refine wl_gf rfl rfl (f_loadb 3 rfl Tryz.underlying33 rfl rfl rfl) ?_ | refine wl_gf rfl rfl (f_loadb 4 rfl Tryz.underlying33 rfl rfl rfl) ?_ | refine wl_gf rfl rfl (f_loadb 5 rfl Tryz.underlying33 rfl rfl rfl) ?_ | refine wl_gf rfl rfl (f_loadb 6 rfl Tryz.underlying33 rfl rfl rfl) ?_)
          refine wl_gf rfl rfl (f_eqv (v' := .int .u64 ((hi' - lo : Nat) : Int)) (f_subu rfl rfl (by omega)) (by congr 1; omega)) ?_
          refine wl_gf rfl rfl (f_move rfl) ?_
          refine wl_gf rfl rfl (f_eqv (v' := .bool false) (f_gtr rfl rfl) (by rw [decide_eq_false (by omega)])) ?_
          exact wl_pend rfl rfl ⟨rfl, rfl, rfl, rfl, rfl, rfl, trivial⟩ (List.Sublist.refl _)
        refine wl_pick [0, 1] rfl ?_
        refine wl_end [(3, _), (9, _), (10, _), (11, _), (13, _), (14, _), (116, _)] ⟨rfl, rfl, rfl, rfl, rfl, rfl, rfl, trivial⟩ ?_
        refine w_iff rfl ?_
        refine w_skip ?_
        refine w_reg ?_
        refine wl_f (f_move rfl) ?_
        refine wl_f (f_add rfl rfl (by omega)) ?_
        refine wl_f (f_assign rfl) ?_
        refine wl_end [(3, _), (9, _), (10, _), (11, _), (13, _), (14, _)] ⟨rfl, rfl, rfl, rfl, rfl, rfl, trivial⟩ ?_
        exact ⟨kk - 1, by omega, i + 1, S, r, p, rfl, rfl, hr, hI, hSm, by omega, by omega, hp⟩
    · skip
      refine w_exit0 ?_
      refine w_seq ?_
      refine w_reg ?_
      refine wl_e (e_call0 rfl Tryz.func13 (by kernel_rfl) (fun w hh => awake15_spec w)) ?_
      rintro _ _ w20 ⟨_, rfl, rfl⟩
      refine wl_f (f_assign rfl) ?_
      refine wl_end [(8, _)] ⟨rfl, trivial⟩ ?_
      refine w_ret ?_
      refine ⟨_, _, fun a ha hh => results_tmps Tryz.results5 rfl a ha _, List.Sublist.refl _, ?_⟩
      rfl
end Go.Proofs.YtmagdjlcckgkpaaGreat
