/- Tables of tracked keys: exchanging entries; the number of keys; the deck's entries. -/
import Derived.Test.YtbcfdgnpdaaleaaS7
namespace Go.Proofs.Ytbcfdgnpdaaleaa
open Go.RowKit

theorem satsub_spec (a b : Nat) (w : World) (ha : a < 18446744073709551616) : Spec Try.prog 33 [.int .u64 (a : Int), .int .u64 (b : Int)] w Nil fun r H =>
    r = .tuple #[.int .u64 ((a - b : Nat) : Int), .bool (decide (b ≤ a))] ∧ H = [] := by
  refine enter (n := 12) Try.func33 rfl rfl [(0, _), (1, _)] rfl ⟨rfl, rfl, trivial⟩ (Holds.start _ _) ?_
  refine w_seq ?_
  refine w_reg ?_
  refine wl_f (f_assign rfl) ?_
  refine wl_f (f_assign rfl) ?_
  refine wl_end [(0, _), (1, _)] ⟨rfl, rfl, trivial⟩ ?_
  refine w_seq ?_
  refine w_seq ?_
  refine w_reg ?_
  refine wl_f (f_move rfl) ?_
  refine wl_f (f_move rfl) ?_
  refine wl_f (f_lss rfl rfl) ?_
  refine wl_end [(0, _), (1, _), (8, _)] ⟨rfl, rfl, rfl, trivial⟩ ?_
  refine w_ifd rfl (fun hc1 => ?_) (fun hc1 => ?_)
  · skip
    have hlt : a < b := by
      have : (a : Int) < (b : Int) := hc1
      omega
    refine w_seq ?_
    refine w_reg ?_
    refine wl_f (f_assign rfl) ?_
    refine wl_f (f_assign rfl) ?_
    refine wl_end [(4, _), (5, _)] ⟨rfl, rfl, trivial⟩ ?_
    refine w_ret ?_
    refine ⟨_, _, fun a ha hh => results_tmps Try.results33 rfl a ha _, List.Sublist.refl _, ?_⟩
    exact ⟨by rw [Nat.sub_eq_zero_of_le (by omega), decide_eq_false (by omega)]; rfl, rfl⟩
  · skip
    have hle : b ≤ a := by
      have : ¬ (a : Int) < (b : Int) := hc1
      omega
    refine w_skip ?_
    refine w_seq ?_
    refine w_reg ?_
    refine wl_f (f_move rfl) ?_
    refine wl_f (f_move rfl) ?_
    refine wl_f (f_eqv (v' := .int .u64 ((a - b : Nat) : Int)) (f_subu rfl rfl (by omega)) (by congr 1; omega)) ?_
    refine wl_f (f_assign rfl) ?_
    refine wl_f (f_assign rfl) ?_
    refine wl_end [(4, _), (5, _)] ⟨rfl, rfl, trivial⟩ ?_
    refine w_ret ?_
    refine ⟨_, _, fun a ha hh => results_tmps Try.results33 rfl a ha _, List.Sublist.refl _, ?_⟩
    exact ⟨by rw [decide_eq_true hle]; rfl, rfl⟩

/-- What an exchange returns and leaves. -/
def SwapG (E : List (Option En)) (base : Nat) (k x : ByteArray) (xo xs : Nat) (v : Value) (E' : List (Option En)) : Prop :=
  (∃ e : Int, v = .tuple [enZ, .int .i64 e].toArray ∧ E' = E ∧ (Hasnt E k ∧ e = 8 ∨
    ∃ i o s, Has E k i o s ∧ (x = ByteArray.empty ∧ e = 3 ∨ x ≠ ByteArray.empty ∧ ((∃ i o s, Has E x i o s) ∧ e = 10 ∨ Hasnt E x ∧ o + s < xo + xs ∧ e = 1)))) ∨
  (∃ i o s, Has E k i o s ∧ x ≠ ByteArray.empty ∧ Hasnt E x ∧ xo + xs ≤ o + s ∧ v = .tuple [enV k o s, .int .i64 0].toArray ∧ E' = E.set i (some (x, xo, max xs (base - xo))))

set_option maxHeartbeats 8000000 in
theorem svswap_spec (t m : Nat) (E : List (Option En)) (base total : Nat) (k x : ByteArray) (xo xs : Nat) (r : Res) (w : World) (hk : small k) (hx : small x) (hxo : xo < 18446744073709551616) (hxs : xs < 18446744073709551616)
    (ht : TOk E base total) (hge : ∀ k i o s, Has E k i o s → base ≤ o + s) (hr : SvR t m E base total r) (hs : Holds w r.foot [r] w) :
    Spec Try.prog 18 [.pointer (some ⟨t, 0, .none⟩), .string k, .agg #[.string x, .int .u64 (xo : Int), .int .u64 (xs : Int)]] w r.foot fun v H => ∃ r' E', H = [r'] ∧ SvR t m E' base total r' ∧ SwapG E base k x xo xs v E' := by
  have hr0 := hr
  obtain ⟨L, rfl, hm1, hm2, bR, bX, eV, rR, rX, l, M, T, rfl, hR, hX, hI⟩ := hr
  have hEl := hI.len
  have hO := hR.inv
  obtain ⟨ht1, ht2, ht3⟩ := id ht
  refine enter (n := 102) Try.func18 rfl rfl [(0, _), (1, _), (2, _)] rfl ⟨rfl, rfl, rfl, trivial⟩ hs ?_
  refine w_seq ?_
  refine w_reg ?_
  refine wl_e (e_box (cs := [_, _, _]) rfl rfl) ?_
  rintro _ _ w0_0 ⟨b0_0, rfl, rfl⟩
  refine wl_e (e_allocs [.string ByteArray.empty, .int .u64 0, .int .u64 0] (by kernel_rfl)) ?_
  rintro _ _ w0_1 ⟨b0_1, rfl, rfl⟩
  refine wl_f (f_assign rfl) ?_
  refine wl_end [(0, _), (1, _), (5, _), (6, _)] ⟨rfl, rfl, rfl, rfl, trivial⟩ ?_
  refine w_seq ?_
  refine w_seq ?_
  refine w_reg ?_
  refine wl_f (f_move rfl) ?_
  refine wl_f (f_eqlnil rfl rfl Try.underlying24) ?_
  refine wl_end [(0, _), (1, _), (5, _), (6, _), (20, _)] ⟨rfl, rfl, rfl, rfl, rfl, trivial⟩ ?_
  refine w_iff rfl ?_
  refine w_skip ?_
  refine w_seq ?_
  refine w_pick [2, 0, 0] rfl ?_
  refine w_unb (svl t m bR bX eV E base total rR rX) ?_
  refine w_pick [4, 4, 0, 0, 0, 0] rfl ?_
  refine w_reg ?_
  refine wl_f (f_move rfl) ?_
  refine wl_f (f_nilCheck rfl) ?_
  refine wl_f (f_fieldAddr 1 rfl Try.underlying68 rfl rfl (by kernel_rfl)) ?_
  refine wl_f (f_fieldAddr 0 rfl Try.underlying66 rfl rfl (by kernel_rfl)) ?_
  (first | refine wl_f (f_loadb 0 rfl Try.underlying59 rfl rfl rfl) ?_ | refine wl_f (f_loadb 1 rfl Try.underlying59 rfl rfl rfl) ?_ | refine wl_f (f_loadb 2 rfl Try.underlying59 rfl rfl rfl) ?_ | refine wl_f (f_loadb 3 rfl Try.underlying59 rfl rfl rfl) ?_ | refine wl_f (f_loadb 4 rfl Try.underlying59 rfl rfl rfl) ?_ | refine wl_f (f_loadb 5 rfl Try.underlying59 rfl rfl rfl) ?_ | refine wl_f (f_loadb 6 rfl Try.underlying59 rfl rfl rfl) ?_)
  refine wl_f (f_move rfl) ?_
  refine wl_e (e_call1 rX [_, _, _, _, _] rfl Try.func24 (by kernel_rfl) (pk1 5 rfl) (fun w hh hs' => ixget_spec bX m T 0 M rX k w hk hX hs')) ?_
  rintro _ _ w3 ⟨_, rfl, rfl, rfl⟩
  refine wl_pick [1, 1, 1, 1, 1, 0] rfl ?_
  refine wl_f (f_move rfl) ?_
  refine wl_f (f_extract rfl rfl) ?_
  refine wl_f (f_extract rfl rfl) ?_
  refine wl_f (f_assign rfl) ?_
  refine wl_f (f_assign rfl) ?_
  refine wl_end [(0, _), (5, _), (6, _), (8, _), (9, _)] ⟨rfl, rfl, rfl, rfl, rfl, trivial⟩ ?_
  refine w_seq ?_
  refine w_seq ?_
  refine w_reg ?_
  refine wl_f (f_move rfl) ?_
  refine wl_f (f_not rfl rfl) ?_
  refine wl_end [(0, _), (5, _), (6, _), (8, _), (33, _)] ⟨rfl, rfl, rfl, rfl, rfl, trivial⟩ ?_
  refine w_ifb rfl (fun hc2 => ?_) (fun hc2 => ?_)
  · skip
    have hno : Hasnt E k := by
      rcases hI.get hX.nd k with ⟨_, _, _, _, h⟩ | ⟨h, _⟩
      · rw [h] at hc2; cases hc2
      · exact h
    refine w_seq ?_
    refine w_reg ?_
    refine wl_f (f_build rfl build_entry0) ?_
    (first | refine wl_e0 (e_store0 (us := [_, _, _]) rfl rfl rfl (by kernel_rfl) (by simp [Value.oneCell']) rfl rfl) ?_ | refine wl_e0 (e_store1 (us := [_, _, _]) rfl rfl rfl (by kernel_rfl) (by simp [Value.oneCell']) rfl rfl) ?_ | refine wl_e0 (e_store2 (us := [_, _, _]) rfl rfl rfl (by kernel_rfl) (by simp [Value.oneCell']) rfl rfl) ?_ | refine wl_e0 (e_store3 (us := [_, _, _]) rfl rfl rfl (by kernel_rfl) (by simp [Value.oneCell']) rfl rfl) ?_)
    rintro _ _ w5_1 rfl
    refine wl_f (f_assign rfl) ?_
    refine wl_end [(6, _), (7, _)] ⟨rfl, rfl, trivial⟩ ?_
    refine w_pick [2, 2, 2, 2, 0, 0] rfl ?_
    refine w_bun (H := [_, _]) [_, _, _, _] ?_
    refine w_pick [1, 1, 0] rfl ?_
    refine w_ret ?_
    refine ⟨_, _, fun a ha hh => results_mix Try.results18 (rm_cell (cell_agg 0 rfl Try.underlying34 rfl (by kernel_rfl) rfl) (rm_tmp rfl rm_nil)) a ha _ hh, (List.sublist_cons_self ..).trans (List.sublist_cons_self ..), ?_⟩
    exact ⟨_, E, rfl, hr0, .inl ⟨8, rfl, rfl, .inl ⟨hno, rfl⟩⟩⟩
  · skip
    obtain ⟨i, o, s, hi, hg⟩ : ∃ i o s, Has E k i o s ∧ mget M k = some (i : Int) := by
      rcases hI.get hX.nd k with h | ⟨_, h⟩
      · exact h
      · rw [h] at hc2; exact absurd rfl hc2
    rw [hg]
    have hil : i < E.length := (List.getElem?_eq_some_iff.1 hi).1
    have hos := ht3 i k o s hi
    have hbs := hge k i o s hi
    have hlk := look_of_mem hO.nd ((hI.ord i (o + s)).2 ⟨k, o, s, hi, rfl⟩)
    refine w_skip ?_
    refine w_seq ?_
    refine w_seq ?_
    refine w_reg ?_
    refine wl_f (f_fieldAddr 0 rfl Try.underlying34 rfl rfl (by kernel_rfl)) ?_
    (first | refine wl_f (f_loadb 0 rfl Try.underlying9 rfl rfl rfl) ?_ | refine wl_f (f_loadb 1 rfl Try.underlying9 rfl rfl rfl) ?_ | refine wl_f (f_loadb 2 rfl Try.underlying9 rfl rfl rfl) ?_ | refine wl_f (f_loadb 3 rfl Try.underlying9 rfl rfl rfl) ?_ | refine wl_f (f_loadb 4 rfl Try.underlying9 rfl rfl rfl) ?_ | refine wl_f (f_loadb 5 rfl Try.underlying9 rfl rfl rfl) ?_ | refine wl_f (f_loadb 6 rfl Try.underlying9 rfl rfl rfl) ?_)
    refine wl_f (f_eqls rfl rfl) ?_
    refine wl_end [(0, _), (5, _), (6, _), (8, _), (37, _)] ⟨rfl, rfl, rfl, rfl, rfl, trivial⟩ ?_
    refine w_ifd rfl (fun hc3 => ?_) (fun hc3 => ?_)
    · skip
      have hx0 : x = ByteArray.empty := hc3
      refine w_seq ?_
      refine w_reg ?_
      refine wl_f (f_build rfl build_entry0) ?_
      (first | refine wl_e0 (e_store0 (us := [_, _, _]) rfl rfl rfl (by kernel_rfl) (by simp [Value.oneCell']) rfl rfl) ?_ | refine wl_e0 (e_store1 (us := [_, _, _]) rfl rfl rfl (by kernel_rfl) (by simp [Value.oneCell']) rfl rfl) ?_ | refine wl_e0 (e_store2 (us := [_, _, _]) rfl rfl rfl (by kernel_rfl) (by simp [Value.oneCell']) rfl rfl) ?_ | refine wl_e0 (e_store3 (us := [_, _, _]) rfl rfl rfl (by kernel_rfl) (by simp [Value.oneCell']) rfl rfl) ?_)
      rintro _ _ w7_1 rfl
      refine wl_f (f_assign rfl) ?_
      refine wl_end [(6, _), (7, _)] ⟨rfl, rfl, trivial⟩ ?_
      refine w_pick [2, 2, 2, 2, 0, 0] rfl ?_
      refine w_bun (H := [_, _]) [_, _, _, _] ?_
      refine w_pick [1, 1, 0] rfl ?_
      refine w_ret ?_
      refine ⟨_, _, fun a ha hh => results_mix Try.results18 (rm_cell (cell_agg 0 rfl Try.underlying34 rfl (by kernel_rfl) rfl) (rm_tmp rfl rm_nil)) a ha _ hh, (List.sublist_cons_self ..).trans (List.sublist_cons_self ..), ?_⟩
      exact ⟨_, E, rfl, hr0, .inl ⟨3, rfl, rfl, .inr ⟨i, o, s, hi, .inl ⟨hx0, rfl⟩⟩⟩⟩
    · skip
      have hx0 : x ≠ ByteArray.empty := hc3
      refine w_skip ?_
      refine w_seq ?_
      refine w_seq ?_
      refine w_draw [(0, true), (1, true), (2, true), (3, true), (4, true), (5, true), (6, true), (7, false), (8, true), (9, true), (10, true), (11, true), (12, true)] ([_, _, _, _, _]) ([_]) mixed (by kernel_rfl) (by kernel_rfl) rfl (List.Perm.refl _) (fun w8_ => ?_)
      refine wd_f rfl (f_move rfl) ?_
      refine wd_f rfl (f_nilCheck rfl) ?_
      refine wd_f rfl (f_fieldAddr 1 rfl Try.underlying68 rfl rfl (by kernel_rfl)) ?_
      refine wd_f rfl (f_fieldAddr 0 rfl Try.underlying66 rfl rfl (by kernel_rfl)) ?_
      (first | refine wd_f rfl (f_loadb 0 rfl Try.underlying59 rfl rfl rfl) ?_ | refine wd_f rfl (f_loadb 1 rfl Try.underlying59 rfl rfl rfl) ?_ | refine wd_f rfl (f_loadb 2 rfl Try.underlying59 rfl rfl rfl) ?_ | refine wd_f rfl (f_loadb 3 rfl Try.underlying59 rfl rfl rfl) ?_ | refine wd_f rfl (f_loadb 4 rfl Try.underlying59 rfl rfl rfl) ?_ | refine wd_f rfl (f_loadb 5 rfl Try.underlying59 rfl rfl rfl) ?_ | refine wd_f rfl (f_loadb 6 rfl Try.underlying59 rfl rfl rfl) ?_)
      refine wd_f rfl (f_fieldAddr 0 rfl Try.underlying34 rfl rfl (by kernel_rfl)) ?_
      (first | refine wd_f rfl (f_loadb 0 rfl Try.underlying9 rfl rfl rfl) ?_ | refine wd_f rfl (f_loadb 1 rfl Try.underlying9 rfl rfl rfl) ?_ | refine wd_f rfl (f_loadb 2 rfl Try.underlying9 rfl rfl rfl) ?_ | refine wd_f rfl (f_loadb 3 rfl Try.underlying9 rfl rfl rfl) ?_ | refine wd_f rfl (f_loadb 4 rfl Try.underlying9 rfl rfl rfl) ?_ | refine wd_f rfl (f_loadb 5 rfl Try.underlying9 rfl rfl rfl) ?_ | refine wd_f rfl (f_loadb 6 rfl Try.underlying9 rfl rfl rfl) ?_)
      refine wd_e rfl (e_call1 rX [_, _, _, _, _] rfl Try.func24 (by kernel_rfl) (pk1 5 rfl) (fun w hh hs' => ixget_spec bX m T 0 M rX x w hx hX hs')) ?_
      rintro _ _ w8 ⟨_, rfl, rfl, rfl⟩
      refine ⟨_, List.perm_append_comm, ?_⟩
      refine wd_f rfl (f_move rfl) ?_
      refine wd_f rfl (f_extract rfl rfl) ?_
      refine wd_f rfl (f_extract rfl rfl) ?_
      refine wd_f rfl (f_assign rfl) ?_
      refine wd_f rfl (f_assign rfl) ?_
      refine wd_end [(0, _), (5, _), (6, _), (8, _), (11, _)] ⟨rfl, rfl, rfl, rfl, rfl, trivial⟩ ?_
      refine w_seq ?_
      refine w_reg ?_
      refine wl_f (f_move rfl) ?_
      refine wl_end [(0, _), (5, _), (6, _), (8, _), (50, _)] ⟨rfl, rfl, rfl, rfl, rfl, trivial⟩ ?_
      refine w_ifb rfl (fun hc4 => ?_) (fun hc4 => ?_)
      · skip
        have hyes : ∃ i o s, Has E x i o s := by
          rcases hI.get hX.nd x with ⟨i, o, s, h, _⟩ | ⟨_, h⟩
          · exact ⟨i, o, s, h⟩
          · rw [h] at hc4; cases hc4
        refine w_seq ?_
        refine w_reg ?_
        refine wl_f (f_build rfl build_entry0) ?_
        (first | refine wl_e0 (e_store0 (us := [_, _, _]) rfl rfl rfl (by kernel_rfl) (by simp [Value.oneCell']) rfl rfl) ?_ | refine wl_e0 (e_store1 (us := [_, _, _]) rfl rfl rfl (by kernel_rfl) (by simp [Value.oneCell']) rfl rfl) ?_ | refine wl_e0 (e_store2 (us := [_, _, _]) rfl rfl rfl (by kernel_rfl) (by simp [Value.oneCell']) rfl rfl) ?_ | refine wl_e0 (e_store3 (us := [_, _, _]) rfl rfl rfl (by kernel_rfl) (by simp [Value.oneCell']) rfl rfl) ?_)
        rintro _ _ w10_1 rfl
        refine wl_f (f_assign rfl) ?_
        refine wl_end [(6, _), (7, _)] ⟨rfl, rfl, trivial⟩ ?_
        refine w_pick [2, 2, 2, 2, 0, 0] rfl ?_
        refine w_bun (H := [_, _]) [_, _, _, _] ?_
        refine w_pick [1, 1, 0] rfl ?_
        refine w_ret ?_
        refine ⟨_, _, fun a ha hh => results_mix Try.results18 (rm_cell (cell_agg 0 rfl Try.underlying34 rfl (by kernel_rfl) rfl) (rm_tmp rfl rm_nil)) a ha _ hh, (List.sublist_cons_self ..).trans (List.sublist_cons_self ..), ?_⟩
        exact ⟨_, E, rfl, hr0, .inl ⟨10, rfl, rfl, .inr ⟨i, o, s, hi, .inr ⟨hx0, .inl ⟨hyes, rfl⟩⟩⟩⟩⟩
      · skip
        have hno : Hasnt E x := by
          rcases hI.get hX.nd x with ⟨_, _, _, _, h⟩ | ⟨h, _⟩
          · rw [h] at hc4; exact absurd rfl hc4
          · exact h
        refine w_skip ?_
        refine w_seq ?_
        refine w_reg ?_
        refine wl_f (f_move rfl) ?_
        refine wl_f (f_nilCheck rfl) ?_
        refine wl_f (f_fieldAddr 0 rfl Try.underlying68 rfl rfl (by kernel_rfl)) ?_
        refine wl_f (f_fieldAddr 0 rfl Try.underlying64 rfl rfl (by kernel_rfl)) ?_
        (first | refine wl_f (f_loadb 0 rfl Try.underlying56 rfl rfl rfl) ?_ | refine wl_f (f_loadb 1 rfl Try.underlying56 rfl rfl rfl) ?_ | refine wl_f (f_loadb 2 rfl Try.underlying56 rfl rfl rfl) ?_ | refine wl_f (f_loadb 3 rfl Try.underlying56 rfl rfl rfl) ?_ | refine wl_f (f_loadb 4 rfl Try.underlying56 rfl rfl rfl) ?_ | refine wl_f (f_loadb 5 rfl Try.underlying56 rfl rfl rfl) ?_ | refine wl_f (f_loadb 6 rfl Try.underlying56 rfl rfl rfl) ?_)
        refine wl_f (f_move rfl) ?_
        refine wl_e (e_call1 rR [_, _, _, _, _] rfl Try.func31 (by kernel_rfl) (pk1 4 rfl) (fun w hh hs' => rkcount_spec bR m l rR i w hR hs')) ?_
        rintro _ _ w11 ⟨_, rfl, rfl, rfl⟩
        rw [hlk]
        refine wl_pick [1, 1, 1, 1, 0, 0] rfl ?_
        refine wl_f (f_move rfl) ?_
        refine wl_f (f_extract rfl rfl) ?_
        refine wl_f (f_extract rfl rfl) ?_
        refine wl_f (f_assign rfl) ?_
        refine wl_f (f_assign rfl) ?_
        refine wl_end [(0, _), (5, _), (6, _), (8, _), (12, _)] ⟨rfl, rfl, rfl, rfl, rfl, trivial⟩ ?_
        refine w_seq ?_
        refine w_seq ?_
        refine w_reg ?_
        refine wl_f (f_fieldAddr 1 rfl Try.underlying34 rfl rfl (by kernel_rfl)) ?_
        (first | refine wl_f (f_loadb 0 rfl Try.underlying30 rfl rfl rfl) ?_ | refine wl_f (f_loadb 1 rfl Try.underlying30 rfl rfl rfl) ?_ | refine wl_f (f_loadb 2 rfl Try.underlying30 rfl rfl rfl) ?_ | refine wl_f (f_loadb 3 rfl Try.underlying30 rfl rfl rfl) ?_ | refine wl_f (f_loadb 4 rfl Try.underlying30 rfl rfl rfl) ?_ | refine wl_f (f_loadb 5 rfl Try.underlying30 rfl rfl rfl) ?_ | refine wl_f (f_loadb 6 rfl Try.underlying30 rfl rfl rfl) ?_)
        refine wl_f (f_fieldAddr 2 rfl Try.underlying34 rfl rfl (by kernel_rfl)) ?_
        (first | refine wl_f (f_loadb 0 rfl Try.underlying30 rfl rfl rfl) ?_ | refine wl_f (f_loadb 1 rfl Try.underlying30 rfl rfl rfl) ?_ | refine wl_f (f_loadb 2 rfl Try.underlying30 rfl rfl rfl) ?_ | refine wl_f (f_loadb 3 rfl Try.underlying30 rfl rfl rfl) ?_ | refine wl_f (f_loadb 4 rfl Try.underlying30 rfl rfl rfl) ?_ | refine wl_f (f_loadb 5 rfl Try.underlying30 rfl rfl rfl) ?_ | refine wl_f (f_loadb 6 rfl Try.underlying30 rfl rfl rfl) ?_)
        refine wl_e (e_call0 rfl Try.func32 (by kernel_rfl) (fun w hh => satadd_spec xo xs w hxo hxs)) ?_
        rintro _ _ w12 ⟨_, rfl, rfl, rfl⟩
        refine wl_f (f_move rfl) ?_
        refine wl_f (f_extract rfl rfl) ?_
        refine wl_f (f_extract rfl rfl) ?_
        refine wl_f (f_assign rfl) ?_
        refine wl_f (f_assign rfl) ?_
        refine wl_end [(0, _), (5, _), (6, _), (8, _), (12, _), (14, _), (15, _)] ⟨rfl, rfl, rfl, rfl, rfl, rfl, rfl, trivial⟩ ?_
        refine w_seq ?_
        refine w_reg ?_
        refine wl_f (f_move rfl) ?_
        refine wl_f (f_not rfl rfl) ?_
        refine wl_f (f_move rfl) ?_
        refine wl_or (j := 2) (c := decide (((o + s : Nat) : Int) < (if xo + xs < 18446744073709551616 then ((xo + xs : Nat) : Int) else 18446744073709551615))) 3 [(0, _), (5, _), (6, _), (8, _)] ⟨rfl, rfl, rfl, rfl, trivial⟩ rfl rfl rfl rfl rfl (fun hg13_6 => ?_) (fun w13_6 => ?_)
        · skip
          refine wl_gf rfl rfl (f_move rfl) ?_
          refine wl_gf rfl rfl (f_move rfl) ?_
          refine wl_gf rfl rfl (f_gtr rfl rfl) ?_
          exact wl_pend rfl rfl ⟨rfl, rfl, rfl, rfl, trivial⟩ (List.Sublist.refl _)
        refine wl_end [(0, _), (5, _), (6, _), (8, _), (76, _)] ⟨rfl, rfl, rfl, rfl, rfl, trivial⟩ ?_
        refine w_ifb rfl (fun hc5 => ?_) (fun hc5 => ?_)
        · skip
          have hgt : o + s < xo + xs := by
            by_cases h : xo + xs < 18446744073709551616
            · rw [if_pos h, decide_eq_true h] at hc5
              have : ((o + s : Nat) : Int) < ((xo + xs : Nat) : Int) := by simpa using hc5
              omega
            · omega
          refine w_seq ?_
          refine w_reg ?_
          refine wl_f (f_build rfl build_entry0) ?_
          (first | refine wl_e0 (e_store0 (us := [_, _, _]) rfl rfl rfl (by kernel_rfl) (by simp [Value.oneCell']) rfl rfl) ?_ | refine wl_e0 (e_store1 (us := [_, _, _]) rfl rfl rfl (by kernel_rfl) (by simp [Value.oneCell']) rfl rfl) ?_ | refine wl_e0 (e_store2 (us := [_, _, _]) rfl rfl rfl (by kernel_rfl) (by simp [Value.oneCell']) rfl rfl) ?_ | refine wl_e0 (e_store3 (us := [_, _, _]) rfl rfl rfl (by kernel_rfl) (by simp [Value.oneCell']) rfl rfl) ?_)
          rintro _ _ w14_1 rfl
          refine wl_f (f_assign rfl) ?_
          refine wl_end [(6, _), (7, _)] ⟨rfl, rfl, trivial⟩ ?_
          refine w_pick [2, 2, 2, 2, 0, 0] rfl ?_
          refine w_bun (H := [_, _]) [_, _, _, _] ?_
          refine w_pick [1, 1, 0] rfl ?_
          refine w_ret ?_
          refine ⟨_, _, fun a ha hh => results_mix Try.results18 (rm_cell (cell_agg 0 rfl Try.underlying34 rfl (by kernel_rfl) rfl) (rm_tmp rfl rm_nil)) a ha _ hh, (List.sublist_cons_self ..).trans (List.sublist_cons_self ..), ?_⟩
          exact ⟨_, E, rfl, hr0, .inl ⟨1, rfl, rfl, .inr ⟨i, o, s, hi, .inr ⟨hx0, .inr ⟨hno, hgt, rfl⟩⟩⟩⟩⟩
        · skip
          have hle : xo + xs ≤ o + s := by
            by_cases h : xo + xs < 18446744073709551616
            · rw [if_pos h, decide_eq_true h] at hc5
              have : ¬ ((o + s : Nat) : Int) < ((xo + xs : Nat) : Int) := by simpa using hc5
              omega
            · rw [decide_eq_false h] at hc5; exact absurd rfl hc5
          refine w_skip ?_
          refine w_seq ?_
          refine w_seq ?_
          refine w_draw [(0, true), (1, true), (2, true), (3, true), (4, true), (5, true), (6, false), (7, true), (8, true), (9, true), (10, true), (11, true)] (_) ([]) mixed (by kernel_rfl) (by kernel_rfl) rfl (perm_all _) (fun w15_ => ?_)
          refine wd_f rfl (f_move rfl) ?_
          refine wd_f rfl (f_nilCheck rfl) ?_
          refine wd_f rfl (f_fieldAddr 4 rfl Try.underlying68 rfl rfl (by kernel_rfl)) ?_
          (first | refine wd_f rfl (f_loadb 0 rfl Try.underlying30 rfl rfl rfl) ?_ | refine wd_f rfl (f_loadb 1 rfl Try.underlying30 rfl rfl rfl) ?_ | refine wd_f rfl (f_loadb 2 rfl Try.underlying30 rfl rfl rfl) ?_ | refine wd_f rfl (f_loadb 3 rfl Try.underlying30 rfl rfl rfl) ?_ | refine wd_f rfl (f_loadb 4 rfl Try.underlying30 rfl rfl rfl) ?_ | refine wd_f rfl (f_loadb 5 rfl Try.underlying30 rfl rfl rfl) ?_ | refine wd_f rfl (f_loadb 6 rfl Try.underlying30 rfl rfl rfl) ?_)
          refine wd_f rfl (f_fieldAddr 1 rfl Try.underlying34 rfl rfl (by kernel_rfl)) ?_
          (first | refine wd_f rfl (f_loadb 0 rfl Try.underlying30 rfl rfl rfl) ?_ | refine wd_f rfl (f_loadb 1 rfl Try.underlying30 rfl rfl rfl) ?_ | refine wd_f rfl (f_loadb 2 rfl Try.underlying30 rfl rfl rfl) ?_ | refine wd_f rfl (f_loadb 3 rfl Try.underlying30 rfl rfl rfl) ?_ | refine wd_f rfl (f_loadb 4 rfl Try.underlying30 rfl rfl rfl) ?_ | refine wd_f rfl (f_loadb 5 rfl Try.underlying30 rfl rfl rfl) ?_ | refine wd_f rfl (f_loadb 6 rfl Try.underlying30 rfl rfl rfl) ?_)
          refine wd_e rfl (e_call0 rfl Try.func33 (by kernel_rfl) (fun w hh => satsub_spec base xo w (by omega))) ?_
          rintro _ _ w15 ⟨_, rfl, rfl, rfl⟩
          refine ⟨_, List.perm_append_comm_assoc _ _ _, ?_⟩
          refine wd_f rfl (f_move rfl) ?_
          refine wd_f rfl (f_extract rfl rfl) ?_
          refine wd_f rfl (f_extract rfl rfl) ?_
          refine wd_f rfl (f_assign rfl) ?_
          refine wd_f rfl (f_assign rfl) ?_
          refine wd_end [(0, _), (5, _), (6, _), (8, _), (16, _), (17, _)] ⟨rfl, rfl, rfl, rfl, rfl, rfl, trivial⟩ ?_
          refine w_seq ?_
          refine w_reg ?_
          refine wl_f (f_move rfl) ?_
          refine wl_end [(0, _), (5, _), (6, _), (8, _), (16, _), (88, _)] ⟨rfl, rfl, rfl, rfl, rfl, rfl, trivial⟩ ?_
          refine w_post (fun m' H w' => m' = [(0, .pointer (some ⟨t, 0, .none⟩)), (5, .pointer (some ⟨b0_0, 0, .none⟩)), (6, .pointer (some ⟨b0_1, 0, .none⟩)), (8, .int .i64 (i : Int))] ∧
            H = [blk b0_1 [.string ByteArray.empty, .int .u64 0, .int .u64 0] 34, blk b0_0 [.string x, .int .u64 (xo : Int), .int .u64 ((max xs (base - xo) : Nat) : Int)] 34, blk t [.pointer (some ⟨bR, 0, .none⟩), .pointer (some ⟨bX, 0, .none⟩), .int .i64 (m : Int), eV, .int .u64 (base : Int), .int .u64 (total : Int)] 68, row eV 34 3 m (ecells E), rR, rX]) ?_ ?_
          · skip
            refine w_ifd rfl (fun hc6 => ?_) (fun hc6 => ?_)
            · skip
              refine w_reg ?_
              refine wl_f (f_fieldAddr 2 rfl Try.underlying34 rfl rfl (by kernel_rfl)) ?_
              (first | refine wl_f (f_loadb 0 rfl Try.underlying30 rfl rfl rfl) ?_ | refine wl_f (f_loadb 1 rfl Try.underlying30 rfl rfl rfl) ?_ | refine wl_f (f_loadb 2 rfl Try.underlying30 rfl rfl rfl) ?_ | refine wl_f (f_loadb 3 rfl Try.underlying30 rfl rfl rfl) ?_ | refine wl_f (f_loadb 4 rfl Try.underlying30 rfl rfl rfl) ?_ | refine wl_f (f_loadb 5 rfl Try.underlying30 rfl rfl rfl) ?_ | refine wl_f (f_loadb 6 rfl Try.underlying30 rfl rfl rfl) ?_)
              refine wl_f (f_move rfl) ?_
              refine wl_f (f_max (r := ((max xs (base - xo) : Nat) : Int)) rfl rfl (by split <;> omega)) ?_
              refine wl_f (f_fieldAddr 2 rfl Try.underlying34 rfl rfl (by kernel_rfl)) ?_
              (first | refine wl_e0 (e_store0 (us := [_]) rfl rfl rfl (by kernel_rfl) (by simp [Value.oneCell']) rfl rfl) ?_ | refine wl_e0 (e_store1 (us := [_]) rfl rfl rfl (by kernel_rfl) (by simp [Value.oneCell']) rfl rfl) ?_ | refine wl_e0 (e_store2 (us := [_]) rfl rfl rfl (by kernel_rfl) (by simp [Value.oneCell']) rfl rfl) ?_ | refine wl_e0 (e_store3 (us := [_]) rfl rfl rfl (by kernel_rfl) (by simp [Value.oneCell']) rfl rfl) ?_)
              rintro _ _ w17_5 rfl
              refine wl_end [(0, _), (5, _), (6, _), (8, _)] ⟨rfl, rfl, rfl, rfl, trivial⟩ ?_
              exact ⟨rfl, rfl⟩
            · skip
              refine w_sub [(0, _), (5, _), (6, _), (8, _)] ⟨rfl, rfl, rfl, rfl, trivial⟩ (w_skip ?_)
              have hlt : ¬ xo ≤ base := hc6
              exact ⟨rfl, by rw [Nat.max_eq_left (by omega)]; rfl⟩
          · rintro _ _ w16 ⟨rfl, rfl⟩
            refine w_seq ?_
            refine w_pick [2, 2, 2, 2, 0, 0] rfl ?_
            refine w_bun (H := [_, _]) [_, _, _, _] ?_
            refine w_reg ?_
            refine wl_f (f_move rfl) ?_
            refine wl_f (f_move rfl) ?_
            refine wl_e (e_call1 (bun (svl t m bR bX eV E base total rR rX)) [_, _] rfl Try.func30 (by kernel_rfl) (List.Perm.refl _) (fun w hh hs' => svdrop_spec t m i E base total k o s _ w hi hr0 hs')) ?_
            rintro _ _ w18 ⟨_, rfl, rfl, r2, rfl, hr2⟩
            refine wl_e (e_allocs [.string ByteArray.empty, .int .u64 0, .int .u64 0] (by kernel_rfl)) ?_
            rintro _ _ w18_3 ⟨b18_3, rfl, rfl⟩
            (first | refine wl_e0 (e_store0 (us := [_, _, _]) rfl rfl rfl (by kernel_rfl) (by simp [Value.oneCell']) rfl rfl) ?_ | refine wl_e0 (e_store1 (us := [_, _, _]) rfl rfl rfl (by kernel_rfl) (by simp [Value.oneCell']) rfl rfl) ?_ | refine wl_e0 (e_store2 (us := [_, _, _]) rfl rfl rfl (by kernel_rfl) (by simp [Value.oneCell']) rfl rfl) ?_ | refine wl_e0 (e_store3 (us := [_, _, _]) rfl rfl rfl (by kernel_rfl) (by simp [Value.oneCell']) rfl rfl) ?_)
            rintro _ _ w18_4 rfl
            refine wl_end [(0, _), (5, _), (6, _), (8, _), (18, _)] ⟨rfl, rfl, rfl, rfl, rfl, trivial⟩ ?_
            refine w_seq ?_
            refine w_reg ?_
            refine wl_f (f_move rfl) ?_
            refine wl_f (f_move rfl) ?_
            (first | refine wl_f (f_loadsb (cs := [_, _, _]) 0 rfl Try.underlying34 rfl (by kernel_rfl) rfl rfl) ?_ | refine wl_f (f_loadsb (cs := [_, _, _]) 1 rfl Try.underlying34 rfl (by kernel_rfl) rfl rfl) ?_ | refine wl_f (f_loadsb (cs := [_, _, _]) 2 rfl Try.underlying34 rfl (by kernel_rfl) rfl rfl) ?_ | refine wl_f (f_loadsb (cs := [_, _, _]) 3 rfl Try.underlying34 rfl (by kernel_rfl) rfl rfl) ?_ | refine wl_f (f_loadsb (cs := [_, _, _]) 4 rfl Try.underlying34 rfl (by kernel_rfl) rfl rfl) ?_ | refine wl_f (f_loadsb (cs := [_, _, _]) 5 rfl Try.underlying34 rfl (by kernel_rfl) rfl rfl) ?_ | refine wl_f (f_loadsb (cs := [_, _, _]) 6 rfl Try.underlying34 rfl (by kernel_rfl) rfl rfl) ?_)
            refine wl_e (e_call1 r2 [_, _, _] rfl Try.func27 (by kernel_rfl) (pk1 1 rfl) (fun w hh hs' => svset_spec t m i (E.set i none) base total x xo (max xs (base - xo)) r2 w (List.getElem?_set_self hil) hx hx0 (fun j o' s' hj => by
              by_cases e : i = j
              · subst e; rw [List.getElem?_set_self hil] at hj; cases hj
              · rw [List.getElem?_set_ne e] at hj; exact hno j o' s' hj) (by omega) hr2 hs')) ?_
            rintro _ _ w19 ⟨_, rfl, hL⟩
            have hL' := hL
            obtain ⟨_, _, bR2, bX2, eV2, rR2, rX2, l2, M2, T2, rfl, _⟩ := hL
            refine wl_bun (H := [_, _, _]) [_, _, _, _] ?_
            refine wl_end [(6, _), (18, _)] ⟨rfl, rfl, trivial⟩ ?_
            refine w_seq ?_
            refine w_reg ?_
            (first | refine wl_f (f_loadsb (cs := [_, _, _]) 0 rfl Try.underlying34 rfl (by kernel_rfl) rfl rfl) ?_ | refine wl_f (f_loadsb (cs := [_, _, _]) 1 rfl Try.underlying34 rfl (by kernel_rfl) rfl rfl) ?_ | refine wl_f (f_loadsb (cs := [_, _, _]) 2 rfl Try.underlying34 rfl (by kernel_rfl) rfl rfl) ?_ | refine wl_f (f_loadsb (cs := [_, _, _]) 3 rfl Try.underlying34 rfl (by kernel_rfl) rfl rfl) ?_ | refine wl_f (f_loadsb (cs := [_, _, _]) 4 rfl Try.underlying34 rfl (by kernel_rfl) rfl rfl) ?_ | refine wl_f (f_loadsb (cs := [_, _, _]) 5 rfl Try.underlying34 rfl (by kernel_rfl) rfl rfl) ?_ | refine wl_f (f_loadsb (cs := [_, _, _]) 6 rfl Try.underlying34 rfl (by kernel_rfl) rfl rfl) ?_)
            (first | refine wl_e0 (e_store0 (us := [_, _, _]) rfl rfl rfl (by kernel_rfl) (by simp [Value.oneCell']) rfl rfl) ?_ | refine wl_e0 (e_store1 (us := [_, _, _]) rfl rfl rfl (by kernel_rfl) (by simp [Value.oneCell']) rfl rfl) ?_ | refine wl_e0 (e_store2 (us := [_, _, _]) rfl rfl rfl (by kernel_rfl) (by simp [Value.oneCell']) rfl rfl) ?_ | refine wl_e0 (e_store3 (us := [_, _, _]) rfl rfl rfl (by kernel_rfl) (by simp [Value.oneCell']) rfl rfl) ?_)
            rintro _ _ w20_1 rfl
            refine wl_f (f_assign rfl) ?_
            refine wl_end [(6, _), (7, _)] ⟨rfl, rfl, trivial⟩ ?_
            refine w_pick [2, 1, 1, 0] rfl ?_
            refine w_ret ?_
            refine ⟨_, _, fun a ha hh => results_mix Try.results18 (rm_cell (cell_agg 0 rfl Try.underlying34 rfl (by kernel_rfl) rfl) (rm_tmp rfl rm_nil)) a ha _ hh, ((List.sublist_cons_self ..).trans (List.sublist_cons_self ..)).trans (List.sublist_cons_self ..), ?_⟩
            exact ⟨_, (E.set i none).set i (some (x, xo, max xs (base - xo))), rfl, ⟨_, rfl, hL'⟩, .inr ⟨i, o, s, hi, hx0, hno, hle, rfl, by rw [List.set_set]⟩⟩

theorem SInv.cnt {m : Nat} {E : List (Option En)} {l : Ord} {M : List (ByteArray × Int)} (h : SInv m E l M) (hl : OInv m l) (hM : (keys M).Nodup) : l.length = (E.filterMap id).length := by
  have hMn : M.Nodup := (List.pairwise_map.1 hM).imp fun h e => h (by rw [e])
  have h1 : (M.map Prod.snd).Nodup := by
    refine (List.pairwise_map.2 ?_)
    refine hMn.imp_of_mem fun {a b} ha hb hab e => hab ?_
    obtain ⟨k1, z1⟩ := a
    obtain ⟨k2, z2⟩ := b
    obtain ⟨i, o, s, rfl, h1⟩ := (h.idx k1 z1).1 ha
    obtain ⟨j, o', s', rfl, h2⟩ := (h.idx k2 z2).1 hb
    have e : (i : Int) = j := e
    obtain rfl : i = j := by omega
    rw [h1] at h2
    injection h2 with h2; injection h2 with h2; injection h2 with h2 _
    rw [h2]
  have h2 : (ids l).Perm (M.map Prod.snd) := by
    rw [List.perm_ext_iff_of_nodup hl.nd h1]
    intro z
    constructor
    · intro hz
      obtain ⟨⟨z', c⟩, hx, e⟩ := List.mem_map.1 hz
      have e : z' = z := e
      subst e
      have hz0 := hl.rng z' hz
      obtain ⟨i, rfl⟩ : ∃ i : Nat, z' = i := ⟨z'.toNat, by omega⟩
      obtain ⟨k, o, s, hi, _⟩ := (h.ord i c).1 hx
      exact List.mem_map.2 ⟨(k, (i : Int)), (h.idx k i).2 ⟨i, o, s, rfl, hi⟩, rfl⟩
    · intro hz
      obtain ⟨⟨k, z'⟩, hx, e⟩ := List.mem_map.1 hz
      have e : z' = z := e
      subst e
      obtain ⟨i, o, s, rfl, hi⟩ := (h.idx k z').1 hx
      exact List.mem_map.2 ⟨((i : Int), o + s), (h.ord i (o + s)).2 ⟨k, o, s, hi, rfl⟩, rfl⟩
  have h3 : ((E.filterMap id).map Prod.fst).Nodup := by
    rw [List.Nodup, List.pairwise_map, List.pairwise_filterMap, List.pairwise_iff_getElem]
    intro i j hi hj hij b hb c hc e
    have e1 : E[i]? = some (some (b.1, b.2.1, b.2.2)) := by rw [List.getElem?_eq_getElem hi]; exact congrArg some hb
    have e2 : E[j]? = some (some (b.1, c.2.1, c.2.2)) := by rw [List.getElem?_eq_getElem hj, e]; exact congrArg some hc
    have := h.uniq hM e1 e2
    omega
  have h4 : ((E.filterMap id).map Prod.fst).Perm (keys M) := by
    rw [List.perm_ext_iff_of_nodup h3 hM]
    intro k
    rw [keys_free h]
    constructor
    · intro hk
      obtain ⟨y, hy, rfl⟩ := List.mem_map.1 hk
      obtain ⟨i, hi⟩ := mem_fm.1 hy
      exact ⟨i, y.2.1, y.2.2, hi⟩
    · rintro ⟨i, o, s, hi⟩
      exact List.mem_map.2 ⟨(k, o, s), mem_fm.2 ⟨i, hi⟩, rfl⟩
  have e1 := h2.length_eq
  have e2 := h4.length_eq
  simp only [ids, keys, List.length_map] at e1 e2
  omega

theorem svlen_spec (t m : Nat) (E : List (Option En)) (base total : Nat) (r : Res) (w : World) (hr : SvR t m E base total r) (hs : Holds w r.foot [r] w) :
    Spec Try.prog 19 [.pointer (some ⟨t, 0, .none⟩)] w r.foot fun v H => v = .int .i64 ((E.filterMap id).length : Int) ∧ H = [r] := by
  obtain ⟨L, rfl, hm1, hm2, bR, bX, eV, rR, rX, l, M, T, rfl, hR, hX, hI⟩ := hr
  have hcnt := hI.cnt hR.inv hX.nd
  refine enter (n := 11) Try.func19 rfl rfl [(0, _)] rfl ⟨rfl, trivial⟩ hs ?_
  refine w_seq ?_
  refine w_reg ?_
  refine wl_f (f_assign rfl) ?_
  refine wl_end [(0, _)] ⟨rfl, trivial⟩ ?_
  refine w_seq ?_
  refine w_seq ?_
  refine w_reg ?_
  refine wl_f (f_move rfl) ?_
  refine wl_f (f_eqlnil rfl rfl Try.underlying24) ?_
  refine wl_end [(0, _), (4, _)] ⟨rfl, rfl, trivial⟩ ?_
  refine w_iff rfl ?_
  refine w_skip ?_
  refine w_seq ?_
  refine w_unb (H := []) (svl t m bR bX eV E base total rR rX) ?_
  refine w_reg ?_
  refine wl_f (f_move rfl) ?_
  refine wl_f (f_nilCheck rfl) ?_
  refine wl_f (f_fieldAddr 0 rfl Try.underlying68 rfl rfl (by kernel_rfl)) ?_
  refine wl_f (f_fieldAddr 0 rfl Try.underlying64 rfl rfl (by kernel_rfl)) ?_
  (first | refine wl_f (f_loadb 0 rfl Try.underlying56 rfl rfl rfl) ?_ | refine wl_f (f_loadb 1 rfl Try.underlying56 rfl rfl rfl) ?_ | refine wl_f (f_loadb 2 rfl Try.underlying56 rfl rfl rfl) ?_ | refine wl_f (f_loadb 3 rfl Try.underlying56 rfl rfl rfl) ?_ | refine wl_f (f_loadb 4 rfl Try.underlying56 rfl rfl rfl) ?_ | refine wl_f (f_loadb 5 rfl Try.underlying56 rfl rfl rfl) ?_ | refine wl_f (f_loadb 6 rfl Try.underlying56 rfl rfl rfl) ?_)
  refine wl_e (e_call1 rR [_, _, _] rfl Try.func34 (by kernel_rfl) (pk1 2 rfl) (fun w hh hs' => rklen_spec bR m l rR w hR hs')) ?_
  rintro _ _ w3 ⟨_, rfl, rfl, rfl⟩
  rw [hcnt]
  refine wl_f (f_assign rfl) ?_
  refine wl_end [(2, _)] ⟨rfl, trivial⟩ ?_
  refine w_pick [1, 1, 0, 0] rfl ?_
  refine w_bun (H := []) [_, _, _, _] ?_
  refine w_ret ?_
  refine ⟨_, _, fun a ha hh => results_tmps Try.results19 rfl a ha _, List.Sublist.refl _, ?_⟩
  exact ⟨rfl, rfl⟩

set_option maxHeartbeats 1000000 in
theorem entry_spec (b : Nat) (lv : Value) (L : List Int) (p : Nat) (w : World) (hd : DRd w b lv L p) (hs : Holds w (deck b lv p).foot [deck b lv p] w) :
    Spec Try.prog 20 [.pointer (some ⟨b, 0, .none⟩)] w (deck b lv p).foot fun r H => ∃ (k : ByteArray) (o s p' : Nat), r = enV k o s ∧ (2 ≤ k.size ∧ k.size ≤ 3) ∧ o < 30 ∧ s < 10 ∧ H = [deck b lv p'] ∧ p' ≤ L.length := by
  refine enter (n := 12) Try.func20 rfl rfl [(0, _)] rfl ⟨rfl, trivial⟩ hs ?_
  refine w_seq ?_
  refine w_reg ?_
  refine wl_e (e_allocs [.string ByteArray.empty, .int .u64 0, .int .u64 0] (by kernel_rfl)) ?_
  rintro _ _ w0_0 ⟨b0_0, rfl, rfl⟩
  refine wl_end [(0, _), (2, _)] ⟨rfl, rfl, trivial⟩ ?_
  refine w_seq ?_
  refine w_reg ?_
  refine wl_f (f_move rfl) ?_
  refine wl_e (e_call1 (deck b lv p) [_] rfl Try.func10 (by kernel_rfl) (pk1 1 rfl) (fun w hh hs' => short3_spec b lv L p w ⟨hd.1.old1 hh (pk1 1 rfl), hd.2⟩ hs')) ?_
  rintro _ _ w1 ⟨_, rfl, k, p1, rfl, hk3, rfl, hp1⟩
  refine wl_f (f_move rfl) ?_
  refine wl_e (e_call1 (deck b lv p1) [_] rfl Try.func28 (by kernel_rfl) (List.Perm.refl _) (fun w hh hs' => next_spec b lv L p1 30 w ⟨hd.1.old1 hh (List.Perm.refl _), hd.2.1, hp1⟩ hs' (by omega))) ?_
  rintro _ _ w2 ⟨_, rfl, o, p2, rfl, ho, rfl, hp2⟩
  refine wl_f (f_convu rfl Try.underlying3 Try.underlying30 (by omega)) ?_
  refine wl_f (f_move rfl) ?_
  refine wl_e (e_call1 (deck b lv p2) [_] rfl Try.func28 (by kernel_rfl) (List.Perm.refl _) (fun w hh hs' => next_spec b lv L p2 10 w ⟨hd.1.old1 hh (List.Perm.refl _), hd.2.1, hp2⟩ hs' (by omega))) ?_
  rintro _ _ w3 ⟨_, rfl, s, p3, rfl, hs1, rfl, hp3⟩
  refine wl_f (f_convu rfl Try.underlying3 Try.underlying30 (by omega)) ?_
  refine wl_f (f_build rfl (fun w => build_entry _ _ _ w)) ?_
  (first | refine wl_e0 (e_store0 (us := [_, _, _]) rfl rfl rfl (by kernel_rfl) (by simp [Value.oneCell']) rfl rfl) ?_ | refine wl_e0 (e_store1 (us := [_, _, _]) rfl rfl rfl (by kernel_rfl) (by simp [Value.oneCell']) rfl rfl) ?_ | refine wl_e0 (e_store2 (us := [_, _, _]) rfl rfl rfl (by kernel_rfl) (by simp [Value.oneCell']) rfl rfl) ?_ | refine wl_e0 (e_store3 (us := [_, _, _]) rfl rfl rfl (by kernel_rfl) (by simp [Value.oneCell']) rfl rfl) ?_)
  rintro _ _ w1_9 rfl
  refine wl_end [(2, _)] ⟨rfl, trivial⟩ ?_
  refine w_pick [1, 0] rfl ?_
  refine w_ret ?_
  refine ⟨_, _, fun a ha hh => results_cell 0 Try.results20 rfl a ha hh Try.underlying34 rfl (by kernel_rfl) rfl, List.sublist_cons_self .., ?_⟩
  exact ⟨k, o, s, p3, rfl, hk3, ho, hs1, rfl, hp3⟩
end Go.Proofs.Ytbcfdgnpdaaleaa
