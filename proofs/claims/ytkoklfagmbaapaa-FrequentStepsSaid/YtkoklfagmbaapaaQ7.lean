/- Tables by the method of Misra and Gries: exchanging. -/
import Derived.Test.YtkoklfagmbaapaaQ6
namespace Go.Proofs.Ytkoklfagmbaapaa
open Go.RowKit

def FSwapG (M : UM) (ded : Nat) (k x : ByteArray) (xo xs : Nat) (v : Value) (M' : UM) : Prop :=
  (∃ e : Int, v = .tuple [enZ, .int .i64 e].toArray ∧ M' = M ∧ (mget M k = none ∧ e = 8 ∨ ∃ o, mget M k = some o ∧ (x = ByteArray.empty ∧ e = 3 ∨ x ≠ ByteArray.empty ∧
    ((mget M x).isSome = true ∧ e = 10 ∨ mget M x = none ∧ (xo = 0 ∨ o < xo ∨ ded < xs) ∧ e = 1)))) ∨
  (∃ o, mget M k = some o ∧ x ≠ ByteArray.empty ∧ mget M x = none ∧ ¬ (xo = 0 ∨ o < xo ∨ ded < xs) ∧ v = .tuple [enV k o ded, .int .i64 0].toArray ∧ M' = (x, xo) :: mdel M k)
theorem mdel_lt {α : Type} {M : List (ByteArray × α)} {k : ByteArray} (h : k ∈ keys M) : (mdel M k).length < M.length := by
  obtain ⟨v, hv⟩ := mem_keys.1 h
  exact List.length_filter_lt_length_iff_exists.2 ⟨_, hv, by simp⟩
theorem keys_none {α : Type} {M : List (ByteArray × α)} {k : ByteArray} (h : mget M k = none) : k ∉ keys M := fun hk => by have := mget_in hk; rw [h] at this; cases this

set_option maxHeartbeats 8000000 in
theorem frswap_spec (t m : Nat) (M : UM) (ded total : Nat) (k x : ByteArray) (xo xs : Nat) (r : Res) (w : World) (hk : small k) (hx : small x) (hr : FrR t m M ded total r) (hs : Holds w r.foot [r] w) :
    Spec Try.prog 19 [.pointer (some ⟨t, 0, .none⟩), .string k, .agg #[.string x, .int .u64 (xo : Int), .int .u64 (xs : Int)]] w r.foot fun v H => ∃ r' M', H = [r'] ∧ FrR t m M' ded total r' ∧ FSwapG M ded k x xo xs v M' := by
  have hr0 := hr
  obtain ⟨k', o, s, hf⟩ := fget_form M ded k
  obtain ⟨hm1, hm2, bX, rX, T, rfl, hX⟩ := hr
  refine enter (n := 73) Try.func19 rfl rfl [(0, _), (1, _), (2, _)] rfl ⟨rfl, rfl, rfl, trivial⟩ hs ?_
  refine w_seq ?_
  refine w_reg ?_
  refine wl_e (e_box (cs := [_, _, _]) rfl rfl) ?_
  rintro _ _ w0_0 ⟨b0_0, rfl, rfl⟩
  refine wl_e (e_allocs [.string ByteArray.empty, .int .u64 0, .int .u64 0] (by kernel_rfl)) ?_
  rintro _ _ w0_1 ⟨b0_1, rfl, rfl⟩
  refine wl_f (f_assign rfl) ?_
  refine wl_end [(0, _), (1, _), (5, _), (6, _)] ⟨rfl, rfl, rfl, rfl, trivial⟩ ?_
  refine w_seq ?_
  refine w_reg ?_
  refine wl_f (f_move rfl) ?_
  refine wl_f (f_move rfl) ?_
  refine wl_e (e_call1 _ [_, _] rfl Try.func12 (by kernel_rfl) (pk1 2 rfl) (fun w hh hs' => frget_spec t m M ded total k _ w hk hr0 hs')) ?_
  rintro _ _ w1 ⟨_, rfl, rfl, rfl⟩
  rw [hf]
  refine wl_f (f_move rfl) ?_
  refine wl_f (f_extract rfl rfl) ?_
  refine wl_f (f_extract rfl rfl) ?_
  refine wl_e (e_allocs [.string ByteArray.empty, .int .u64 0, .int .u64 0] (by kernel_rfl)) ?_
  rintro _ _ w1_6 ⟨b1_6, rfl, rfl⟩
  (first | refine wl_e0 (e_store0 (us := [_, _, _]) rfl rfl rfl (by kernel_rfl) (by simp [Value.oneCell']) rfl rfl) ?_ | refine wl_e0 (e_store1 (us := [_, _, _]) rfl rfl rfl (by kernel_rfl) (by simp [Value.oneCell']) rfl rfl) ?_ | refine wl_e0 (e_store2 (us := [_, _, _]) rfl rfl rfl (by kernel_rfl) (by simp [Value.oneCell']) rfl rfl) ?_ | refine wl_e0 (e_store3 (us := [_, _, _]) rfl rfl rfl (by kernel_rfl) (by simp [Value.oneCell']) rfl rfl) ?_)
  rintro _ _ w1_7 rfl
  refine wl_f (f_assign rfl) ?_
  refine wl_end [(0, _), (1, _), (5, _), (6, _), (8, _), (9, _)] ⟨rfl, rfl, rfl, rfl, rfl, rfl, trivial⟩ ?_
  refine w_seq ?_
  refine w_seq ?_
  refine w_reg ?_
  refine wl_f (f_move rfl) ?_
  refine wl_f (f_not rfl rfl) ?_
  refine wl_end [(0, _), (1, _), (5, _), (6, _), (8, _), (19, _)] ⟨rfl, rfl, rfl, rfl, rfl, rfl, trivial⟩ ?_
  refine w_ifb rfl (fun hc1 => ?_) (fun hc1 => ?_)
  · skip
    have hno : mget M k = none := by
      cases h : mget M k with
      | none => rfl
      | some o => rw [h] at hc1; cases hc1
    refine w_seq ?_
    refine w_reg ?_
    refine wl_f (f_build rfl build_entry0) ?_
    (first | refine wl_e0 (e_store0 (us := [_, _, _]) rfl rfl rfl (by kernel_rfl) (by simp [Value.oneCell']) rfl rfl) ?_ | refine wl_e0 (e_store1 (us := [_, _, _]) rfl rfl rfl (by kernel_rfl) (by simp [Value.oneCell']) rfl rfl) ?_ | refine wl_e0 (e_store2 (us := [_, _, _]) rfl rfl rfl (by kernel_rfl) (by simp [Value.oneCell']) rfl rfl) ?_ | refine wl_e0 (e_store3 (us := [_, _, _]) rfl rfl rfl (by kernel_rfl) (by simp [Value.oneCell']) rfl rfl) ?_)
    rintro _ _ w3_1 rfl
    refine wl_f (f_assign rfl) ?_
    refine wl_end [(6, _), (7, _)] ⟨rfl, rfl, trivial⟩ ?_
    refine w_pick [2, 0, 1, 0] rfl ?_
    refine w_ret ?_
    refine ⟨_, _, fun a ha hh => results_mix Try.results19 (rm_cell (cell_agg 0 rfl Try.underlying36 rfl (by kernel_rfl) rfl) (rm_tmp rfl rm_nil)) a ha _ hh, ((List.sublist_cons_self ..).trans (List.sublist_cons_self ..)).trans (List.sublist_cons_self ..), ?_⟩
    exact ⟨_, M, rfl, hr0, .inl ⟨8, rfl, rfl, .inl ⟨hno, rfl⟩⟩⟩
  · skip
    obtain ⟨ov, ho⟩ : ∃ o, mget M k = some o := by
      cases h : mget M k with
      | none => rw [h] at hc1; exact absurd rfl hc1
      | some o => exact ⟨o, rfl⟩
    have hf2 := hf
    rw [fget, ho] at hf2
    simp [enV] at hf2
    obtain ⟨rfl, hoo, hss⟩ := hf2
    have hoo : ov = o := by omega
    have hss : ded = s := by omega
    subst hoo
    subst hss
    refine w_skip ?_
    refine w_seq ?_
    refine w_seq ?_
    refine w_reg ?_
    refine wl_f (f_fieldAddr 0 rfl Try.underlying36 rfl rfl (by kernel_rfl)) ?_
    (first | refine wl_f (f_loadb 0 rfl Try.underlying9 rfl rfl rfl) ?_ | refine wl_f (f_loadb 1 rfl Try.underlying9 rfl rfl rfl) ?_ | refine wl_f (f_loadb 2 rfl Try.underlying9 rfl rfl rfl) ?_ | refine wl_f (f_loadb 3 rfl Try.underlying9 rfl rfl rfl) ?_ | refine wl_f (f_loadb 4 rfl Try.underlying9 rfl rfl rfl) ?_ | refine wl_f (f_loadb 5 rfl Try.underlying9 rfl rfl rfl) ?_ | refine wl_f (f_loadb 6 rfl Try.underlying9 rfl rfl rfl) ?_)
    refine wl_f (f_eqls rfl rfl) ?_
    refine wl_end [(0, _), (1, _), (5, _), (6, _), (8, _), (23, _)] ⟨rfl, rfl, rfl, rfl, rfl, rfl, trivial⟩ ?_
    refine w_ifd rfl (fun hc2 => ?_) (fun hc2 => ?_)
    · skip
      have hx0 : x = ByteArray.empty := hc2
      refine w_seq ?_
      refine w_reg ?_
      refine wl_f (f_build rfl build_entry0) ?_
      (first | refine wl_e0 (e_store0 (us := [_, _, _]) rfl rfl rfl (by kernel_rfl) (by simp [Value.oneCell']) rfl rfl) ?_ | refine wl_e0 (e_store1 (us := [_, _, _]) rfl rfl rfl (by kernel_rfl) (by simp [Value.oneCell']) rfl rfl) ?_ | refine wl_e0 (e_store2 (us := [_, _, _]) rfl rfl rfl (by kernel_rfl) (by simp [Value.oneCell']) rfl rfl) ?_ | refine wl_e0 (e_store3 (us := [_, _, _]) rfl rfl rfl (by kernel_rfl) (by simp [Value.oneCell']) rfl rfl) ?_)
      rintro _ _ w5_1 rfl
      refine wl_f (f_assign rfl) ?_
      refine wl_end [(6, _), (7, _)] ⟨rfl, rfl, trivial⟩ ?_
      refine w_pick [2, 0, 1, 0] rfl ?_
      refine w_ret ?_
      refine ⟨_, _, fun a ha hh => results_mix Try.results19 (rm_cell (cell_agg 0 rfl Try.underlying36 rfl (by kernel_rfl) rfl) (rm_tmp rfl rm_nil)) a ha _ hh, ((List.sublist_cons_self ..).trans (List.sublist_cons_self ..)).trans (List.sublist_cons_self ..), ?_⟩
      exact ⟨_, M, rfl, hr0, .inl ⟨3, rfl, rfl, .inr ⟨ov, ho, .inl ⟨hx0, rfl⟩⟩⟩⟩
    · skip
      have hx0 : x ≠ ByteArray.empty := hc2
      refine w_skip ?_
      refine w_seq ?_
      refine w_seq ?_
      refine w_pick [1, 0, 0, 0] rfl ?_
      refine w_unb [_, _] ?_
      refine w_pick [0, 1, 1, 1, 0] rfl ?_
      refine w_draw [(0, true), (1, true), (2, true), (3, true), (4, true), (5, true), (6, false), (7, true), (8, true), (9, true), (10, true), (11, true)] ([_, _, _, _]) ([_]) mixed (by kernel_rfl) (by kernel_rfl) rfl (List.Perm.refl _) (fun w6_ => ?_)
      refine wd_f rfl (f_move rfl) ?_
      refine wd_f rfl (f_nilCheck rfl) ?_
      refine wd_f rfl (f_fieldAddr 1 rfl Try.underlying66 rfl rfl (by kernel_rfl)) ?_
      (first | refine wd_f rfl (f_loadb 0 rfl Try.underlying61 rfl rfl rfl) ?_ | refine wd_f rfl (f_loadb 1 rfl Try.underlying61 rfl rfl rfl) ?_ | refine wd_f rfl (f_loadb 2 rfl Try.underlying61 rfl rfl rfl) ?_ | refine wd_f rfl (f_loadb 3 rfl Try.underlying61 rfl rfl rfl) ?_ | refine wd_f rfl (f_loadb 4 rfl Try.underlying61 rfl rfl rfl) ?_ | refine wd_f rfl (f_loadb 5 rfl Try.underlying61 rfl rfl rfl) ?_ | refine wd_f rfl (f_loadb 6 rfl Try.underlying61 rfl rfl rfl) ?_)
      refine wd_f rfl (f_fieldAddr 0 rfl Try.underlying36 rfl rfl (by kernel_rfl)) ?_
      (first | refine wd_f rfl (f_loadb 0 rfl Try.underlying9 rfl rfl rfl) ?_ | refine wd_f rfl (f_loadb 1 rfl Try.underlying9 rfl rfl rfl) ?_ | refine wd_f rfl (f_loadb 2 rfl Try.underlying9 rfl rfl rfl) ?_ | refine wd_f rfl (f_loadb 3 rfl Try.underlying9 rfl rfl rfl) ?_ | refine wd_f rfl (f_loadb 4 rfl Try.underlying9 rfl rfl rfl) ?_ | refine wd_f rfl (f_loadb 5 rfl Try.underlying9 rfl rfl rfl) ?_ | refine wd_f rfl (f_loadb 6 rfl Try.underlying9 rfl rfl rfl) ?_)
      refine wd_e rfl (e_call1 rX [_, _, _, _] rfl Try.func34 (by kernel_rfl) (pk1 4 rfl) (fun w hh hs' => uxget_spec bX m T 0 M rX x w hx hX hs')) ?_
      rintro _ _ w6 ⟨_, rfl, rfl, rfl⟩
      refine ⟨_, List.perm_append_comm, ?_⟩
      refine wd_f rfl (f_move rfl) ?_
      refine wd_f rfl (f_extract rfl rfl) ?_
      refine wd_f rfl (f_extract rfl rfl) ?_
      refine wd_f rfl (f_assign rfl) ?_
      refine wd_f rfl (f_assign rfl) ?_
      refine wd_end [(0, _), (1, _), (5, _), (6, _), (8, _), (11, _)] ⟨rfl, rfl, rfl, rfl, rfl, rfl, trivial⟩ ?_
      refine w_seq ?_
      refine w_reg ?_
      refine wl_f (f_move rfl) ?_
      refine wl_end [(0, _), (1, _), (5, _), (6, _), (8, _), (35, _)] ⟨rfl, rfl, rfl, rfl, rfl, rfl, trivial⟩ ?_
      refine w_ifb rfl (fun hc3 => ?_) (fun hc3 => ?_)
      · skip
        refine w_seq ?_
        refine w_reg ?_
        refine wl_f (f_build rfl build_entry0) ?_
        (first | refine wl_e0 (e_store0 (us := [_, _, _]) rfl rfl rfl (by kernel_rfl) (by simp [Value.oneCell']) rfl rfl) ?_ | refine wl_e0 (e_store1 (us := [_, _, _]) rfl rfl rfl (by kernel_rfl) (by simp [Value.oneCell']) rfl rfl) ?_ | refine wl_e0 (e_store2 (us := [_, _, _]) rfl rfl rfl (by kernel_rfl) (by simp [Value.oneCell']) rfl rfl) ?_ | refine wl_e0 (e_store3 (us := [_, _, _]) rfl rfl rfl (by kernel_rfl) (by simp [Value.oneCell']) rfl rfl) ?_)
        rintro _ _ w8_1 rfl
        refine wl_f (f_assign rfl) ?_
        refine wl_end [(6, _), (7, _)] ⟨rfl, rfl, trivial⟩ ?_
        refine w_pick [0, 3, 1, 0, 0] rfl ?_
        refine w_bun (H := [_, _, _]) [_, _] ?_
        refine w_pick [1, 1, 1, 0] rfl ?_
        refine w_ret ?_
        refine ⟨_, _, fun a ha hh => results_mix Try.results19 (rm_cell (cell_agg 0 rfl Try.underlying36 rfl (by kernel_rfl) rfl) (rm_tmp rfl rm_nil)) a ha _ hh, ((List.sublist_cons_self ..).trans (List.sublist_cons_self ..)).trans (List.sublist_cons_self ..), ?_⟩
        exact ⟨_, M, rfl, hr0, .inl ⟨10, rfl, rfl, .inr ⟨ov, ho, .inr ⟨hx0, .inl ⟨hc3, rfl⟩⟩⟩⟩⟩
      · skip
        have hno : mget M x = none := by
          cases h : mget M x with
          | none => rfl
          | some o => rw [h] at hc3; exact absurd rfl hc3
        refine w_skip ?_
        refine w_seq ?_
        refine w_seq ?_
        refine w_post (fun m' H w' => m' = [(0, .pointer (some ⟨t, 0, .none⟩)), (1, .string k), (5, .pointer (some ⟨b0_0, 0, .none⟩)), (6, .pointer (some ⟨b0_1, 0, .none⟩)), (8, .pointer (some ⟨b1_6, 0, .none⟩)), (55, .bool (decide (xo = 0 ∨ ov < xo ∨ ded < xs)))] ∧
          H = [ftab t bX m ded total, blk b1_6 [.string k, .int .u64 (ov : Int), .int .u64 (ded : Int)] 36, blk b0_1 [.string ByteArray.empty, .int .u64 0, .int .u64 0] 36, blk b0_0 [.string x, .int .u64 (xo : Int), .int .u64 (xs : Int)] 36, rX]) ?_ ?_
        · by_cases hz : xo = 0
          · refine w_draw [(0, true), (1, true), (2, true), (3, true), (4, true), (5, true), (6, true), (7, true), (8, true), (9, true), (10, true), (11, true), (12, true), (13, true), (14, true), (15, true), (16, true), (17, true), (18, true)] (_) ([]) mixed (by kernel_rfl) (by kernel_rfl) rfl (perm_all _) (fun w9_ => ?_)
            refine wd_f rfl (f_fieldAddr 1 rfl Try.underlying36 rfl rfl (by kernel_rfl)) ?_
            refine wd_f rfl (f_loadb 3 rfl Try.underlying33 rfl rfl rfl) ?_
            refine wd_f rfl (f_eqv (v' := .bool true) (f_eql rfl rfl) (by rw [decide_eq_true (show (xo : Int) = 0 by omega)])) ?_
            refine wd_f rfl (f_move rfl) ?_
            refine wd_gs rfl rfl rfl ?_
            refine wd_gs rfl rfl rfl ?_
            refine wd_gs rfl rfl rfl ?_
            refine wd_gs rfl rfl rfl ?_
            refine wd_gs rfl rfl rfl ?_
            refine wd_f rfl (f_pick rfl rfl rfl) ?_
            refine wd_f rfl (f_move rfl) ?_
            refine wd_gs rfl rfl rfl ?_
            refine wd_gs rfl rfl rfl ?_
            refine wd_gs rfl rfl rfl ?_
            refine wd_gs rfl rfl rfl ?_
            refine wd_gs rfl rfl rfl ?_
            refine wd_gs rfl rfl rfl ?_
            refine wd_gs rfl rfl rfl ?_
            refine wd_f rfl (f_pick rfl rfl rfl) ?_
            refine wd_end [(0, _), (1, _), (5, _), (6, _), (8, _), (55, _)] ⟨rfl, rfl, rfl, rfl, rfl, rfl, trivial⟩ ?_
            exact ⟨by rw [decide_eq_true (show xo = 0 ∨ ov < xo ∨ ded < xs by omega)]; rfl, rfl⟩
          · by_cases hl : ov < xo
            · refine w_draw [(0, true), (1, true), (2, true), (3, true), (4, true), (5, true), (6, true), (7, true), (8, true), (9, true), (10, true), (11, true), (12, true), (13, true), (14, true), (15, true), (16, true), (17, true), (18, true)] (_) ([]) mixed (by kernel_rfl) (by kernel_rfl) rfl (perm_all _) (fun w9_ => ?_)
              refine wd_f rfl (f_fieldAddr 1 rfl Try.underlying36 rfl rfl (by kernel_rfl)) ?_
              refine wd_f rfl (f_loadb 3 rfl Try.underlying33 rfl rfl rfl) ?_
              refine wd_f rfl (f_eqv (v' := .bool false) (f_eql rfl rfl) (by rw [decide_eq_false (show ¬ (xo : Int) = 0 by omega)])) ?_
              refine wd_f rfl (f_move rfl) ?_
              refine wd_gf rfl rfl rfl (f_fieldAddr 1 rfl Try.underlying36 rfl rfl (by kernel_rfl)) ?_
              refine wd_gf rfl rfl rfl (f_loadb 3 rfl Try.underlying33 rfl rfl rfl) ?_
              refine wd_gf rfl rfl rfl (f_fieldAddr 1 rfl Try.underlying36 rfl rfl (by kernel_rfl)) ?_
              refine wd_gf rfl rfl rfl (f_loadb 1 rfl Try.underlying33 rfl rfl rfl) ?_
              refine wd_gf rfl rfl rfl (f_eqv (v' := .bool true) (f_gtr rfl rfl) (by rw [decide_eq_true (show (ov : Int) < (xo : Int) by omega)])) ?_
              refine wd_f rfl (f_pick rfl rfl rfl) ?_
              refine wd_f rfl (f_move rfl) ?_
              refine wd_gs rfl rfl rfl ?_
              refine wd_gs rfl rfl rfl ?_
              refine wd_gs rfl rfl rfl ?_
              refine wd_gs rfl rfl rfl ?_
              refine wd_gs rfl rfl rfl ?_
              refine wd_gs rfl rfl rfl ?_
              refine wd_gs rfl rfl rfl ?_
              refine wd_f rfl (f_pick rfl rfl rfl) ?_
              refine wd_end [(0, _), (1, _), (5, _), (6, _), (8, _), (55, _)] ⟨rfl, rfl, rfl, rfl, rfl, rfl, trivial⟩ ?_
              exact ⟨by rw [decide_eq_true (show xo = 0 ∨ ov < xo ∨ ded < xs by omega)]; rfl, rfl⟩
            · refine w_draw [(0, true), (1, true), (2, true), (3, true), (4, true), (5, true), (6, true), (7, true), (8, true), (9, true), (10, true), (11, true), (12, true), (13, true), (14, true), (15, true), (16, true), (17, true), (18, true)] (_) ([]) mixed (by kernel_rfl) (by kernel_rfl) rfl (perm_all _) (fun w9_ => ?_)
              refine wd_f rfl (f_fieldAddr 1 rfl Try.underlying36 rfl rfl (by kernel_rfl)) ?_
              refine wd_f rfl (f_loadb 3 rfl Try.underlying33 rfl rfl rfl) ?_
              refine wd_f rfl (f_eqv (v' := .bool false) (f_eql rfl rfl) (by rw [decide_eq_false (show ¬ (xo : Int) = 0 by omega)])) ?_
              refine wd_f rfl (f_move rfl) ?_
              refine wd_gf rfl rfl rfl (f_fieldAddr 1 rfl Try.underlying36 rfl rfl (by kernel_rfl)) ?_
              refine wd_gf rfl rfl rfl (f_loadb 3 rfl Try.underlying33 rfl rfl rfl) ?_
              refine wd_gf rfl rfl rfl (f_fieldAddr 1 rfl Try.underlying36 rfl rfl (by kernel_rfl)) ?_
              refine wd_gf rfl rfl rfl (f_loadb 1 rfl Try.underlying33 rfl rfl rfl) ?_
              refine wd_gf rfl rfl rfl (f_eqv (v' := .bool false) (f_gtr rfl rfl) (by rw [decide_eq_false (show ¬ (ov : Int) < (xo : Int) by omega)])) ?_
              refine wd_f rfl (f_pick rfl rfl rfl) ?_
              refine wd_f rfl (f_move rfl) ?_
              refine wd_gf rfl rfl rfl (f_fieldAddr 2 rfl Try.underlying36 rfl rfl (by kernel_rfl)) ?_
              refine wd_gf rfl rfl rfl (f_loadb 3 rfl Try.underlying33 rfl rfl rfl) ?_
              refine wd_gf rfl rfl rfl (f_move rfl) ?_
              refine wd_gf rfl rfl rfl (f_nilCheck rfl) ?_
              refine wd_gf rfl rfl rfl (f_fieldAddr 2 rfl Try.underlying66 rfl rfl (by kernel_rfl)) ?_
              refine wd_gf rfl rfl rfl (f_loadb 0 rfl Try.underlying33 rfl rfl rfl) ?_
              refine wd_gf rfl rfl rfl (f_eqv (v' := .bool (decide (xo = 0 ∨ ov < xo ∨ ded < xs))) (f_gtr rfl rfl) (congrArg Value.bool (decide_eq_decide.2 (by omega)))) ?_
              refine wd_f rfl (f_pick rfl rfl rfl) ?_
              refine wd_end [(0, _), (1, _), (5, _), (6, _), (8, _), (55, _)] ⟨rfl, rfl, rfl, rfl, rfl, rfl, trivial⟩ ?_
              exact ⟨rfl, rfl⟩
        rintro _ _ w9 ⟨rfl, rfl⟩
        refine w_ifd rfl (fun hc4 => ?_) (fun hc4 => ?_)
        · skip
          refine w_seq ?_
          refine w_reg ?_
          refine wl_f (f_build rfl build_entry0) ?_
          (first | refine wl_e0 (e_store0 (us := [_, _, _]) rfl rfl rfl (by kernel_rfl) (by simp [Value.oneCell']) rfl rfl) ?_ | refine wl_e0 (e_store1 (us := [_, _, _]) rfl rfl rfl (by kernel_rfl) (by simp [Value.oneCell']) rfl rfl) ?_ | refine wl_e0 (e_store2 (us := [_, _, _]) rfl rfl rfl (by kernel_rfl) (by simp [Value.oneCell']) rfl rfl) ?_ | refine wl_e0 (e_store3 (us := [_, _, _]) rfl rfl rfl (by kernel_rfl) (by simp [Value.oneCell']) rfl rfl) ?_)
          rintro _ _ w10_1 rfl
          refine wl_f (f_assign rfl) ?_
          refine wl_end [(6, _), (7, _)] ⟨rfl, rfl, trivial⟩ ?_
          refine w_pick [0, 3, 1, 0, 0] rfl ?_
          refine w_bun (H := [_, _, _]) [_, _] ?_
          refine w_pick [1, 1, 1, 0] rfl ?_
          refine w_ret ?_
          refine ⟨_, _, fun a ha hh => results_mix Try.results19 (rm_cell (cell_agg 0 rfl Try.underlying36 rfl (by kernel_rfl) rfl) (rm_tmp rfl rm_nil)) a ha _ hh, ((List.sublist_cons_self ..).trans (List.sublist_cons_self ..)).trans (List.sublist_cons_self ..), ?_⟩
          exact ⟨_, M, rfl, hr0, .inl ⟨1, rfl, rfl, .inr ⟨ov, ho, .inr ⟨hx0, .inr ⟨hno, hc4, rfl⟩⟩⟩⟩⟩
        · skip
          refine w_skip ?_
          refine w_seq ?_
          refine w_reg ?_
          refine wl_f (f_move rfl) ?_
          refine wl_f (f_nilCheck rfl) ?_
          refine wl_f (f_fieldAddr 1 rfl Try.underlying66 rfl rfl (by kernel_rfl)) ?_
          (first | refine wl_f (f_loadb 0 rfl Try.underlying61 rfl rfl rfl) ?_ | refine wl_f (f_loadb 1 rfl Try.underlying61 rfl rfl rfl) ?_ | refine wl_f (f_loadb 2 rfl Try.underlying61 rfl rfl rfl) ?_ | refine wl_f (f_loadb 3 rfl Try.underlying61 rfl rfl rfl) ?_ | refine wl_f (f_loadb 4 rfl Try.underlying61 rfl rfl rfl) ?_ | refine wl_f (f_loadb 5 rfl Try.underlying61 rfl rfl rfl) ?_ | refine wl_f (f_loadb 6 rfl Try.underlying61 rfl rfl rfl) ?_)
          refine wl_f (f_move rfl) ?_
          refine wl_e (e_call1 rX [_, _, _, _] rfl Try.func39 (by kernel_rfl) (pk1 4 rfl) (fun w hh hs' => uxdelete_spec bX m T 0 M rX k w hk hX hs')) ?_
          rintro _ _ w11 ⟨_, rfl, _, rX2, rfl, hX2⟩
          refine wl_pick [1, 1, 1, 1, 0] rfl ?_
          have hput : mput m (mdel M k) x xo = (0, (x, xo) :: mdel M k) := by
            refine mput_new (fun hxk => ?_) (by have := mdel_lt (mget_key ho); have := hX.len; omega)
            obtain ⟨v, hv⟩ := mem_keys.1 hxk
            exact keys_none hno (mem_keys.2 ⟨v, (List.mem_filter.1 hv).1⟩)
          refine wl_end [(0, _), (5, _), (6, _), (8, _)] ⟨rfl, rfl, rfl, rfl, trivial⟩ ?_
          refine w_seq ?_
          refine w_draw [(0, true), (1, true), (2, true), (3, true), (4, true), (5, true), (6, true), (7, true), (8, false)] ([_, _, _, _]) ([_]) mixed (by kernel_rfl) (by kernel_rfl) rfl (List.Perm.refl _) (fun w12_ => ?_)
          refine wd_f rfl (f_move rfl) ?_
          refine wd_f rfl (f_nilCheck rfl) ?_
          refine wd_f rfl (f_fieldAddr 1 rfl Try.underlying66 rfl rfl (by kernel_rfl)) ?_
          (first | refine wd_f rfl (f_loadb 0 rfl Try.underlying61 rfl rfl rfl) ?_ | refine wd_f rfl (f_loadb 1 rfl Try.underlying61 rfl rfl rfl) ?_ | refine wd_f rfl (f_loadb 2 rfl Try.underlying61 rfl rfl rfl) ?_ | refine wd_f rfl (f_loadb 3 rfl Try.underlying61 rfl rfl rfl) ?_ | refine wd_f rfl (f_loadb 4 rfl Try.underlying61 rfl rfl rfl) ?_ | refine wd_f rfl (f_loadb 5 rfl Try.underlying61 rfl rfl rfl) ?_ | refine wd_f rfl (f_loadb 6 rfl Try.underlying61 rfl rfl rfl) ?_)
          refine wd_f rfl (f_fieldAddr 0 rfl Try.underlying36 rfl rfl (by kernel_rfl)) ?_
          (first | refine wd_f rfl (f_loadb 0 rfl Try.underlying9 rfl rfl rfl) ?_ | refine wd_f rfl (f_loadb 1 rfl Try.underlying9 rfl rfl rfl) ?_ | refine wd_f rfl (f_loadb 2 rfl Try.underlying9 rfl rfl rfl) ?_ | refine wd_f rfl (f_loadb 3 rfl Try.underlying9 rfl rfl rfl) ?_ | refine wd_f rfl (f_loadb 4 rfl Try.underlying9 rfl rfl rfl) ?_ | refine wd_f rfl (f_loadb 5 rfl Try.underlying9 rfl rfl rfl) ?_ | refine wd_f rfl (f_loadb 6 rfl Try.underlying9 rfl rfl rfl) ?_)
          refine wd_f rfl (f_fieldAddr 1 rfl Try.underlying36 rfl rfl (by kernel_rfl)) ?_
          (first | refine wd_f rfl (f_loadb 0 rfl Try.underlying33 rfl rfl rfl) ?_ | refine wd_f rfl (f_loadb 1 rfl Try.underlying33 rfl rfl rfl) ?_ | refine wd_f rfl (f_loadb 2 rfl Try.underlying33 rfl rfl rfl) ?_ | refine wd_f rfl (f_loadb 3 rfl Try.underlying33 rfl rfl rfl) ?_ | refine wd_f rfl (f_loadb 4 rfl Try.underlying33 rfl rfl rfl) ?_ | refine wd_f rfl (f_loadb 5 rfl Try.underlying33 rfl rfl rfl) ?_ | refine wd_f rfl (f_loadb 6 rfl Try.underlying33 rfl rfl rfl) ?_)
          refine wd_e rfl (e_call1 rX2 [_, _, _, _] rfl Try.func36 (by kernel_rfl) (pk1 4 rfl) (fun w hh hs' => uxput_spec bX m T 0 (mdel M k) rX2 x xo w hx hX2 hs')) ?_
          rw [hput]
          rintro _ _ w12 ⟨_, rfl, _, rX3, rfl, hX3⟩
          refine ⟨_, List.perm_append_comm, ?_⟩
          refine wd_end [(6, _), (8, _)] ⟨rfl, rfl, trivial⟩ ?_
          refine w_seq ?_
          refine w_reg ?_
          (first | refine wl_f (f_loadsb (cs := [_, _, _]) 0 rfl Try.underlying36 rfl (by kernel_rfl) rfl rfl) ?_ | refine wl_f (f_loadsb (cs := [_, _, _]) 1 rfl Try.underlying36 rfl (by kernel_rfl) rfl rfl) ?_ | refine wl_f (f_loadsb (cs := [_, _, _]) 2 rfl Try.underlying36 rfl (by kernel_rfl) rfl rfl) ?_ | refine wl_f (f_loadsb (cs := [_, _, _]) 3 rfl Try.underlying36 rfl (by kernel_rfl) rfl rfl) ?_ | refine wl_f (f_loadsb (cs := [_, _, _]) 4 rfl Try.underlying36 rfl (by kernel_rfl) rfl rfl) ?_ | refine wl_f (f_loadsb (cs := [_, _, _]) 5 rfl Try.underlying36 rfl (by kernel_rfl) rfl rfl) ?_ | refine wl_f (f_loadsb (cs := [_, _, _]) 6 rfl Try.underlying36 rfl (by kernel_rfl) rfl rfl) ?_)
          (first | refine wl_e0 (e_store0 (us := [_, _, _]) rfl rfl rfl (by kernel_rfl) (by simp [Value.oneCell']) rfl rfl) ?_ | refine wl_e0 (e_store1 (us := [_, _, _]) rfl rfl rfl (by kernel_rfl) (by simp [Value.oneCell']) rfl rfl) ?_ | refine wl_e0 (e_store2 (us := [_, _, _]) rfl rfl rfl (by kernel_rfl) (by simp [Value.oneCell']) rfl rfl) ?_ | refine wl_e0 (e_store3 (us := [_, _, _]) rfl rfl rfl (by kernel_rfl) (by simp [Value.oneCell']) rfl rfl) ?_)
          rintro _ _ w13_1 rfl
          refine wl_f (f_assign rfl) ?_
          refine wl_end [(6, _), (7, _)] ⟨rfl, rfl, trivial⟩ ?_
          refine w_pick [0, 3, 1, 0, 0] rfl ?_
          refine w_bun (H := [_, _, _]) [_, _] ?_
          refine w_pick [1, 1, 1, 0] rfl ?_
          refine w_ret ?_
          refine ⟨_, _, fun a ha hh => results_mix Try.results19 (rm_cell (cell_agg 0 rfl Try.underlying36 rfl (by kernel_rfl) rfl) (rm_tmp rfl rm_nil)) a ha _ hh, ((List.sublist_cons_self ..).trans (List.sublist_cons_self ..)).trans (List.sublist_cons_self ..), ?_⟩
          exact ⟨_, (x, xo) :: mdel M k, rfl, ⟨hm1, hm2, bX, rX3, T, rfl, hX3⟩, .inr ⟨ov, ho, hx0, hno, hc4, rfl, rfl⟩⟩
end Go.Proofs.Ytkoklfagmbaapaa
