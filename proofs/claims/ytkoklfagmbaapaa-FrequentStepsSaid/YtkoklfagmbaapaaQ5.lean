/- Tables by the method of Misra and Gries: taking. -/
import Derived.Test.YtkoklfagmbaapaaQ4
namespace Go.Proofs.Ytkoklfagmbaapaa
open Go.RowKit

theorem fget_form (M : UM) (ded : Nat) (k : ByteArray) : ∃ (k' : ByteArray) (o s : Nat), fget M ded k = .tuple [.agg #[.string k', .int .u64 (o : Int), .int .u64 (s : Int)], .bool (mget M k).isSome].toArray := by
  unfold fget
  cases mget M k with
  | none => exact ⟨ByteArray.empty, 0, 0, rfl⟩
  | some o => exact ⟨k, o, ded, rfl⟩
set_option maxHeartbeats 2000000 in
theorem frtake_spec (t m : Nat) (M : UM) (ded total : Nat) (k : ByteArray) (r : Res) (w : World) (hk : small k) (hr : FrR t m M ded total r) (hs : Holds w r.foot [r] w) :
    Spec Try.prog 18 [.pointer (some ⟨t, 0, .none⟩), .string k] w r.foot fun v H => v = fget M ded k ∧ ∃ r', H = [r'] ∧ FrR t m (mdel M k) ded total r' := by
  have hr0 := hr
  obtain ⟨k', o, s, hf⟩ := fget_form M ded k
  obtain ⟨hm1, hm2, bX, rX, T, rfl, hX⟩ := hr
  rw [hf]
  refine enter (n := 23) Try.func18 rfl rfl [(0, _), (1, _)] rfl ⟨rfl, rfl, trivial⟩ hs ?_
  refine w_seq ?_
  refine w_reg ?_
  refine wl_e (e_allocs [.string ByteArray.empty, .int .u64 0, .int .u64 0] (by kernel_rfl)) ?_
  rintro _ _ w0_0 ⟨b0_0, rfl, rfl⟩
  refine wl_f (f_assign rfl) ?_
  refine wl_end [(0, _), (1, _), (4, _)] ⟨rfl, rfl, rfl, trivial⟩ ?_
  refine w_seq ?_
  refine w_reg ?_
  refine wl_f (f_move rfl) ?_
  refine wl_f (f_move rfl) ?_
  refine wl_e (e_call1 _ [_] rfl Try.func12 (by kernel_rfl) (pk1 1 rfl) (fun w hh hs' => frget_spec t m M ded total k _ w hk hr0 hs')) ?_
  rintro _ _ w1 ⟨_, rfl, rfl, rfl⟩
  rw [hf]
  refine wl_f (f_move rfl) ?_
  refine wl_f (f_extract rfl rfl) ?_
  refine wl_f (f_extract rfl rfl) ?_
  refine wl_e (e_allocs [.string ByteArray.empty, .int .u64 0, .int .u64 0] (by kernel_rfl)) ?_
  rintro _ _ w1_6 ⟨b1_6, rfl, rfl⟩
  (first | refine wl_e0 (e_store0 (us := [_, _, _]) rfl rfl rfl (by kernel_rfl) (by simp [Value.oneCell']) rfl rfl) ?_ | refine wl_e0 (e_store1 (us := [_, _, _]) rfl rfl rfl (by kernel_rfl) (by simp [Value.oneCell']) rfl rfl) ?_ | refine wl_e0 (e_store2 (us := [_, _, _]) rfl rfl rfl (by kernel_rfl) (by simp [Value.oneCell']) rfl rfl) ?_ | refine wl_e0 (e_store3 (us := [_, _, _]) rfl rfl rfl (by kernel_rfl) (by simp [Value.oneCell']) rfl rfl) ?_)
  rintro _ _ w1_7 rfl
  refine wl_f (f_assign rfl) ?_
  refine wl_end [(0, _), (1, _), (4, _), (6, _), (7, _)] ⟨rfl, rfl, rfl, rfl, rfl, trivial⟩ ?_
  refine w_seq ?_
  refine w_seq ?_
  refine w_reg ?_
  refine wl_f (f_move rfl) ?_
  refine wl_end [(0, _), (1, _), (4, _), (6, _), (7, _), (14, _)] ⟨rfl, rfl, rfl, rfl, rfl, rfl, trivial⟩ ?_
  refine w_post (fun m' H w' => m' = [(4, .pointer (some ⟨b0_0, 0, .none⟩)), (6, .pointer (some ⟨b1_6, 0, .none⟩)), (7, .bool (mget M k).isSome)] ∧ ∃ r', H = [blk b1_6 [.string k', .int .u64 (o : Int), .int .u64 (s : Int)] 36, r', blk b0_0 [.string ByteArray.empty, .int .u64 0, .int .u64 0] 36] ∧ FrR t m (mdel M k) ded total r') ?_ ?_
  · skip
    refine w_ifb rfl (fun hc1 => ?_) (fun hc1 => ?_)
    · skip
      refine w_pick [1, 0, 0] rfl ?_
      refine w_unb [_, _] ?_
      refine w_reg ?_
      refine wl_f (f_move rfl) ?_
      refine wl_f (f_nilCheck rfl) ?_
      refine wl_f (f_fieldAddr 1 rfl Try.underlying66 rfl rfl (by kernel_rfl)) ?_
      refine wl_f (f_loadb 0 rfl Try.underlying61 rfl rfl rfl) ?_
      refine wl_f (f_move rfl) ?_
      refine wl_e (e_call1 rX [_, _, _] rfl Try.func39 (by kernel_rfl) (pk1 1 rfl) (fun w hh hs' => uxdelete_spec bX m T 0 M rX k w hk hX hs')) ?_
      rintro _ _ w3 ⟨_, rfl, _, rX2, rfl, hX2⟩
      refine wl_pick [1, 0, 0, 0] rfl ?_
      refine wl_bun (H := [_, _]) [_, _] ?_
      refine wl_pick [1, 0, 0] rfl ?_
      refine wl_end [(4, _), (6, _), (7, _)] ⟨rfl, rfl, rfl, trivial⟩ ?_
      exact ⟨rfl, _, rfl, hm1, hm2, bX, rX2, T, rfl, hX2⟩
    · skip
      refine w_sub [(4, _), (6, _), (7, _)] ⟨rfl, rfl, rfl, trivial⟩ (w_skip ?_)
      have hno : mget M k = none := by
        cases h : mget M k with
        | none => rfl
        | some o => rw [h] at hc1; exact absurd rfl hc1
      exact ⟨rfl, _, rfl, by rw [mdel_none (fun hk => by have := mget_in hk; rw [hno] at this; cases this)]; exact hr0⟩
  · rintro _ _ w4 ⟨rfl, r', rfl, hr'⟩
    refine w_seq ?_
    refine w_reg ?_
    (first | refine wl_f (f_loadsb (cs := [_, _, _]) 0 rfl Try.underlying36 rfl (by kernel_rfl) rfl rfl) ?_ | refine wl_f (f_loadsb (cs := [_, _, _]) 1 rfl Try.underlying36 rfl (by kernel_rfl) rfl rfl) ?_ | refine wl_f (f_loadsb (cs := [_, _, _]) 2 rfl Try.underlying36 rfl (by kernel_rfl) rfl rfl) ?_ | refine wl_f (f_loadsb (cs := [_, _, _]) 3 rfl Try.underlying36 rfl (by kernel_rfl) rfl rfl) ?_ | refine wl_f (f_loadsb (cs := [_, _, _]) 4 rfl Try.underlying36 rfl (by kernel_rfl) rfl rfl) ?_ | refine wl_f (f_loadsb (cs := [_, _, _]) 5 rfl Try.underlying36 rfl (by kernel_rfl) rfl rfl) ?_ | refine wl_f (f_loadsb (cs := [_, _, _]) 6 rfl Try.underlying36 rfl (by kernel_rfl) rfl rfl) ?_)
    refine wl_f (f_move rfl) ?_
    (first | refine wl_e0 (e_store0 (us := [_, _, _]) rfl rfl rfl (by kernel_rfl) (by simp [Value.oneCell']) rfl rfl) ?_ | refine wl_e0 (e_store1 (us := [_, _, _]) rfl rfl rfl (by kernel_rfl) (by simp [Value.oneCell']) rfl rfl) ?_ | refine wl_e0 (e_store2 (us := [_, _, _]) rfl rfl rfl (by kernel_rfl) (by simp [Value.oneCell']) rfl rfl) ?_ | refine wl_e0 (e_store3 (us := [_, _, _]) rfl rfl rfl (by kernel_rfl) (by simp [Value.oneCell']) rfl rfl) ?_)
    rintro _ _ w4_2 rfl
    refine wl_f (f_assign rfl) ?_
    refine wl_end [(4, _), (5, _)] ⟨rfl, rfl, trivial⟩ ?_
    refine w_pick [2, 0, 0] rfl ?_
    refine w_ret ?_
    refine ⟨_, _, fun a ha hh => results_mix Try.results18 (rm_cell (cell_agg 0 rfl Try.underlying36 rfl (by kernel_rfl) rfl) (rm_tmp rfl rm_nil)) a ha _ hh, (List.sublist_cons_self ..).trans (List.sublist_cons_self ..), ?_⟩
    exact ⟨rfl, r', rfl, hr'⟩
end Go.Proofs.Ytkoklfagmbaapaa
