/- Tables of tracked keys: getting, taking, the numbers; nil tables. -/
import Derived.Test.YtbcfdgnpdaaleaaS3
namespace Go.Proofs.Ytbcfdgnpdaaleaa
open Go.RowKit

def enZ : Value := .agg #[.string ByteArray.empty, .int .u64 0, .int .u64 0]
def enV (k : ByteArray) (o s : Nat) : Value := .agg #[.string k, .int .u64 (o : Int), .int .u64 (s : Int)]
def GetG (E : List (Option En)) (k : ByteArray) (v : Value) : Prop := (∃ i o s, Has E k i o s ∧ v = .tuple [enV k o s, .bool true].toArray) ∨ (Hasnt E k ∧ v = .tuple [enZ, .bool false].toArray)

set_option maxHeartbeats 1000000 in
theorem svget_nil (k : ByteArray) (w : World) : Spec Try.prog 11 [.pointer .none, .string k] w Nil fun v H => v = .tuple [enZ, .bool false].toArray ∧ H = [] := by
  refine enter (n := 31) Try.func11 rfl rfl [(0, _), (1, _)] rfl ⟨rfl, rfl, trivial⟩ (Holds.start _ _) ?_
  refine w_seq ?_
  refine w_reg ?_
  refine wl_e (e_allocs [.string ByteArray.empty, .int .u64 0, .int .u64 0] (by kernel_rfl)) ?_
  rintro _ _ w0_0 ⟨b0_0, rfl, rfl⟩
  refine wl_f (f_assign rfl) ?_
  refine wl_end [(0, _), (1, _), (4, _)] ⟨rfl, rfl, rfl, trivial⟩ ?_
  refine w_seq ?_
  refine w_seq ?_
  refine w_reg ?_
  refine wl_f (f_move rfl) ?_
  refine wl_f (f_eqlnil rfl rfl Try.underlying24) ?_
  refine wl_end [(0, _), (1, _), (4, _), (9, _)] ⟨rfl, rfl, rfl, rfl, trivial⟩ ?_
  refine w_ift rfl ?_
  refine w_seq ?_
  refine w_reg ?_
  refine wl_f (f_build rfl build_entry0) ?_
  (first | refine wl_e0 (e_store0 (us := [_, _, _]) rfl rfl rfl (by kernel_rfl) (by simp [Value.oneCell']) rfl rfl) ?_ | refine wl_e0 (e_store1 (us := [_, _, _]) rfl rfl rfl (by kernel_rfl) (by simp [Value.oneCell']) rfl rfl) ?_ | refine wl_e0 (e_store2 (us := [_, _, _]) rfl rfl rfl (by kernel_rfl) (by simp [Value.oneCell']) rfl rfl) ?_ | refine wl_e0 (e_store3 (us := [_, _, _]) rfl rfl rfl (by kernel_rfl) (by simp [Value.oneCell']) rfl rfl) ?_)
  rintro _ _ w2_1 rfl
  refine wl_f (f_assign rfl) ?_
  refine wl_end [(4, _), (5, _)] ⟨rfl, rfl, trivial⟩ ?_
  refine w_ret ?_
  refine ⟨_, _, fun a ha hh => results_mix Try.results11 (rm_cell (cell_agg 0 rfl Try.underlying34 rfl (by kernel_rfl) rfl) (rm_tmp rfl rm_nil)) a ha _ hh, List.nil_sublist _, ?_⟩
  exact ⟨rfl, rfl⟩
set_option maxHeartbeats 1000000 in
theorem svtake_nil (k : ByteArray) (w : World) : Spec Try.prog 17 [.pointer .none, .string k] w Nil fun v H => v = .tuple [enZ, .bool false].toArray ∧ H = [] := by
  refine enter (n := 27) Try.func17 rfl rfl [(0, _), (1, _)] rfl ⟨rfl, rfl, trivial⟩ (Holds.start _ _) ?_
  refine w_seq ?_
  refine w_reg ?_
  refine wl_e (e_allocs [.string ByteArray.empty, .int .u64 0, .int .u64 0] (by kernel_rfl)) ?_
  rintro _ _ w0_0 ⟨b0_0, rfl, rfl⟩
  refine wl_f (f_assign rfl) ?_
  refine wl_end [(0, _), (1, _), (4, _)] ⟨rfl, rfl, rfl, trivial⟩ ?_
  refine w_seq ?_
  refine w_seq ?_
  refine w_reg ?_
  refine wl_f (f_move rfl) ?_
  refine wl_f (f_eqlnil rfl rfl Try.underlying24) ?_
  refine wl_end [(0, _), (1, _), (4, _), (9, _)] ⟨rfl, rfl, rfl, rfl, trivial⟩ ?_
  refine w_ift rfl ?_
  refine w_seq ?_
  refine w_reg ?_
  refine wl_f (f_build rfl build_entry0) ?_
  (first | refine wl_e0 (e_store0 (us := [_, _, _]) rfl rfl rfl (by kernel_rfl) (by simp [Value.oneCell']) rfl rfl) ?_ | refine wl_e0 (e_store1 (us := [_, _, _]) rfl rfl rfl (by kernel_rfl) (by simp [Value.oneCell']) rfl rfl) ?_ | refine wl_e0 (e_store2 (us := [_, _, _]) rfl rfl rfl (by kernel_rfl) (by simp [Value.oneCell']) rfl rfl) ?_ | refine wl_e0 (e_store3 (us := [_, _, _]) rfl rfl rfl (by kernel_rfl) (by simp [Value.oneCell']) rfl rfl) ?_)
  rintro _ _ w2_1 rfl
  refine wl_f (f_assign rfl) ?_
  refine wl_end [(4, _), (5, _)] ⟨rfl, rfl, trivial⟩ ?_
  refine w_ret ?_
  refine ⟨_, _, fun a ha hh => results_mix Try.results17 (rm_cell (cell_agg 0 rfl Try.underlying34 rfl (by kernel_rfl) rfl) (rm_tmp rfl rm_nil)) a ha _ hh, List.nil_sublist _, ?_⟩
  exact ⟨rfl, rfl⟩
set_option maxHeartbeats 1000000 in
theorem svswap_nil (k x : ByteArray) (o s : Int) (w : World) : Spec Try.prog 18 [.pointer .none, .string k, .agg #[.string x, .int .u64 o, .int .u64 s]] w Nil fun v H => v = .tuple [enZ, .int .i64 8].toArray ∧ H = [] := by
  refine enter (n := 102) Try.func18 rfl rfl [(0, _), (1, _), (2, _)] rfl ⟨rfl, rfl, rfl, trivial⟩ (Holds.start _ _) ?_
  refine w_seq ?_
  refine w_reg ?_
  refine wl_e (e_box (cs := [_, _, _]) rfl rfl) ?_
  rintro _ _ w0_0 ⟨b0_0, rfl, rfl⟩
  refine wl_e (e_allocs [.string ByteArray.empty, .int .u64 0, .int .u64 0] (by kernel_rfl)) ?_
  rintro _ _ w0_1 ⟨b0_1, rfl, rfl⟩
  refine wl_f (f_assign rfl) ?_
  refine wl_end [(0, _), (1, _), (5, _), (6, _)] ⟨rfl, rfl, rfl, rfl, trivial⟩ ?_
  refine w_seq ?_
  refine w_seq ?_
  refine w_reg ?_
  refine wl_f (f_move rfl) ?_
  refine wl_f (f_eqlnil rfl rfl Try.underlying24) ?_
  refine wl_end [(0, _), (1, _), (5, _), (6, _), (20, _)] ⟨rfl, rfl, rfl, rfl, rfl, trivial⟩ ?_
  refine w_ift rfl ?_
  refine w_seq ?_
  refine w_reg ?_
  refine wl_f (f_build rfl build_entry0) ?_
  (first | refine wl_e0 (e_store0 (us := [_, _, _]) rfl rfl rfl (by kernel_rfl) (by simp [Value.oneCell']) rfl rfl) ?_ | refine wl_e0 (e_store1 (us := [_, _, _]) rfl rfl rfl (by kernel_rfl) (by simp [Value.oneCell']) rfl rfl) ?_ | refine wl_e0 (e_store2 (us := [_, _, _]) rfl rfl rfl (by kernel_rfl) (by simp [Value.oneCell']) rfl rfl) ?_ | refine wl_e0 (e_store3 (us := [_, _, _]) rfl rfl rfl (by kernel_rfl) (by simp [Value.oneCell']) rfl rfl) ?_)
  rintro _ _ w2_1 rfl
  refine wl_f (f_assign rfl) ?_
  refine wl_end [(6, _), (7, _)] ⟨rfl, rfl, trivial⟩ ?_
  refine w_ret ?_
  refine ⟨_, _, fun a ha hh => results_mix Try.results18 (rm_cell (cell_agg 0 rfl Try.underlying34 rfl (by kernel_rfl) rfl) (rm_tmp rfl rm_nil)) a ha _ hh, List.nil_sublist _, ?_⟩
  exact ⟨rfl, rfl⟩
theorem svadd_nil (k : ByteArray) (v : Int) (w : World) : Spec Try.prog 9 [.pointer .none, .string k, .int .u64 v] w Nil fun r H => r = .int .i64 8 ∧ H = [] := by
  refine enter (n := 78) Try.func9 rfl rfl [(0, _), (1, _), (2, _)] rfl ⟨rfl, rfl, rfl, trivial⟩ (Holds.start _ _) ?_
  refine w_seq ?_
  refine w_reg ?_
  refine wl_f (f_assign rfl) ?_
  refine wl_end [(0, _), (1, _), (2, _)] ⟨rfl, rfl, rfl, trivial⟩ ?_
  refine w_seq ?_
  refine w_block ?_
  refine w_seq ?_
  refine w_reg ?_
  refine wl_f (f_move rfl) ?_
  refine wl_f (f_eqlnil rfl rfl Try.underlying24) ?_
  refine wl_f (f_assign rfl) ?_
  refine wl_end [(0, _), (1, _), (2, _), (10, _)] ⟨rfl, rfl, rfl, rfl, trivial⟩ ?_
  refine w_ift rfl ?_
  refine w_seq ?_
  refine w_reg ?_
  refine wl_f (f_assign rfl) ?_
  refine wl_end [(6, _)] ⟨rfl, trivial⟩ ?_
  refine w_ret ?_
  refine ⟨_, _, fun a ha hh => results_tmps Try.results9 rfl a ha _, List.Sublist.refl _, ?_⟩
  exact ⟨rfl, rfl⟩
theorem svuntracked_nil (w : World) : Spec Try.prog 14 [.pointer .none] w Nil fun r H => r = .int .u64 0 ∧ H = [] := by
  refine enter (n := 9) Try.func14 rfl rfl [(0, _)] rfl ⟨rfl, trivial⟩ (Holds.start _ _) ?_
  refine w_seq ?_
  refine w_reg ?_
  refine wl_f (f_assign rfl) ?_
  refine wl_end [(0, _)] ⟨rfl, trivial⟩ ?_
  refine w_seq ?_
  refine w_seq ?_
  refine w_reg ?_
  refine wl_f (f_move rfl) ?_
  refine wl_f (f_eqlnil rfl rfl Try.underlying24) ?_
  refine wl_end [(0, _), (4, _)] ⟨rfl, rfl, trivial⟩ ?_
  refine w_ift rfl ?_
  refine w_seq ?_
  refine w_reg ?_
  refine wl_f (f_assign rfl) ?_
  refine wl_end [(2, _)] ⟨rfl, trivial⟩ ?_
  refine w_ret ?_
  refine ⟨_, _, fun a ha hh => results_tmps Try.results14 rfl a ha _, List.Sublist.refl _, ?_⟩
  exact ⟨rfl, rfl⟩
theorem svtotal_nil (w : World) : Spec Try.prog 12 [.pointer .none] w Nil fun r H => r = .int .u64 0 ∧ H = [] := by
  refine enter (n := 9) Try.func12 rfl rfl [(0, _)] rfl ⟨rfl, trivial⟩ (Holds.start _ _) ?_
  refine w_seq ?_
  refine w_reg ?_
  refine wl_f (f_assign rfl) ?_
  refine wl_end [(0, _)] ⟨rfl, trivial⟩ ?_
  refine w_seq ?_
  refine w_seq ?_
  refine w_reg ?_
  refine wl_f (f_move rfl) ?_
  refine wl_f (f_eqlnil rfl rfl Try.underlying24) ?_
  refine wl_end [(0, _), (4, _)] ⟨rfl, rfl, trivial⟩ ?_
  refine w_ift rfl ?_
  refine w_seq ?_
  refine w_reg ?_
  refine wl_f (f_assign rfl) ?_
  refine wl_end [(2, _)] ⟨rfl, trivial⟩ ?_
  refine w_ret ?_
  refine ⟨_, _, fun a ha hh => results_tmps Try.results12 rfl a ha _, List.Sublist.refl _, ?_⟩
  exact ⟨rfl, rfl⟩
theorem svlen_nil (w : World) : Spec Try.prog 19 [.pointer .none] w Nil fun r H => r = .int .i64 0 ∧ H = [] := by
  refine enter (n := 11) Try.func19 rfl rfl [(0, _)] rfl ⟨rfl, trivial⟩ (Holds.start _ _) ?_
  refine w_seq ?_
  refine w_reg ?_
  refine wl_f (f_assign rfl) ?_
  refine wl_end [(0, _)] ⟨rfl, trivial⟩ ?_
  refine w_seq ?_
  refine w_seq ?_
  refine w_reg ?_
  refine wl_f (f_move rfl) ?_
  refine wl_f (f_eqlnil rfl rfl Try.underlying24) ?_
  refine wl_end [(0, _), (4, _)] ⟨rfl, rfl, trivial⟩ ?_
  refine w_ift rfl ?_
  refine w_seq ?_
  refine w_reg ?_
  refine wl_f (f_assign rfl) ?_
  refine wl_end [(2, _)] ⟨rfl, trivial⟩ ?_
  refine w_ret ?_
  refine ⟨_, _, fun a ha hh => results_tmps Try.results19 rfl a ha _, List.Sublist.refl _, ?_⟩
  exact ⟨rfl, rfl⟩
theorem sventries_nil (w : World) : Spec Try.prog 15 [.pointer .none] w Nil fun r H => r = .slice .none 0 0 ∧ H = [] := by
  refine enter (n := 43) Try.func15 rfl rfl [(0, _)] rfl ⟨rfl, trivial⟩ (Holds.start _ _) ?_
  refine w_seq ?_
  refine w_reg ?_
  refine wl_f (f_assign rfl) ?_
  refine wl_end [(0, _)] ⟨rfl, trivial⟩ ?_
  refine w_seq ?_
  refine w_seq ?_
  refine w_reg ?_
  refine wl_f (f_move rfl) ?_
  refine wl_f (f_eqlnil rfl rfl Try.underlying24) ?_
  refine wl_end [(0, _), (9, _)] ⟨rfl, rfl, trivial⟩ ?_
  refine w_ift rfl ?_
  refine w_seq ?_
  refine w_reg ?_
  refine wl_f (f_assign rfl) ?_
  refine wl_end [(2, _)] ⟨rfl, trivial⟩ ?_
  refine w_ret ?_
  refine ⟨_, _, fun a ha hh => results_tmps Try.results15 rfl a ha _, List.Sublist.refl _, ?_⟩
  exact ⟨rfl, rfl⟩
theorem svuntracked_spec (t m : Nat) (E : List (Option En)) (base total : Nat) (r : Res) (w : World) (hr : SvR t m E base total r) (hs : Holds w r.foot [r] w) :
    Spec Try.prog 14 [.pointer (some ⟨t, 0, .none⟩)] w r.foot fun v H => v = .int .u64 (base : Int) ∧ H = [r] := by
  obtain ⟨L, rfl, hm1, hm2, bR, bX, eV, rR, rX, l, M, T, rfl, hR, hX, hI⟩ := hr
  refine enter (n := 9) Try.func14 rfl rfl [(0, _)] rfl ⟨rfl, trivial⟩ hs ?_
  refine w_seq ?_
  refine w_reg ?_
  refine wl_f (f_assign rfl) ?_
  refine wl_end [(0, _)] ⟨rfl, trivial⟩ ?_
  refine w_seq ?_
  refine w_seq ?_
  refine w_reg ?_
  refine wl_f (f_move rfl) ?_
  refine wl_f (f_eqlnil rfl rfl Try.underlying24) ?_
  refine wl_end [(0, _), (4, _)] ⟨rfl, rfl, trivial⟩ ?_
  refine w_iff rfl ?_
  refine w_skip ?_
  refine w_seq ?_
  refine w_reg ?_
  refine wl_f (f_move rfl) ?_
  refine wl_f (f_nilCheck rfl) ?_
  refine wl_f (f_fieldAddr 4 rfl Try.underlying68 rfl rfl (by kernel_rfl)) ?_
  refine wl_f (f_loadB 0 0 rfl rfl rfl Try.underlying30 rfl rfl) ?_
  refine wl_f (f_assign rfl) ?_
  refine wl_end [(2, _)] ⟨rfl, trivial⟩ ?_
  refine w_ret ?_
  refine ⟨_, _, fun a ha hh => results_tmps Try.results14 rfl a ha _, List.Sublist.refl _, ?_⟩
  exact ⟨rfl, rfl⟩
theorem svtotal_spec (t m : Nat) (E : List (Option En)) (base total : Nat) (r : Res) (w : World) (hr : SvR t m E base total r) (hs : Holds w r.foot [r] w) :
    Spec Try.prog 12 [.pointer (some ⟨t, 0, .none⟩)] w r.foot fun v H => v = .int .u64 (total : Int) ∧ H = [r] := by
  obtain ⟨L, rfl, hm1, hm2, bR, bX, eV, rR, rX, l, M, T, rfl, hR, hX, hI⟩ := hr
  refine enter (n := 9) Try.func12 rfl rfl [(0, _)] rfl ⟨rfl, trivial⟩ hs ?_
  refine w_seq ?_
  refine w_reg ?_
  refine wl_f (f_assign rfl) ?_
  refine wl_end [(0, _)] ⟨rfl, trivial⟩ ?_
  refine w_seq ?_
  refine w_seq ?_
  refine w_reg ?_
  refine wl_f (f_move rfl) ?_
  refine wl_f (f_eqlnil rfl rfl Try.underlying24) ?_
  refine wl_end [(0, _), (4, _)] ⟨rfl, rfl, trivial⟩ ?_
  refine w_iff rfl ?_
  refine w_skip ?_
  refine w_seq ?_
  refine w_reg ?_
  refine wl_f (f_move rfl) ?_
  refine wl_f (f_nilCheck rfl) ?_
  refine wl_f (f_fieldAddr 5 rfl Try.underlying68 rfl rfl (by kernel_rfl)) ?_
  refine wl_f (f_loadB 0 0 rfl rfl rfl Try.underlying30 rfl rfl) ?_
  refine wl_f (f_assign rfl) ?_
  refine wl_end [(2, _)] ⟨rfl, trivial⟩ ?_
  refine w_ret ?_
  refine ⟨_, _, fun a ha hh => results_tmps Try.results12 rfl a ha _, List.Sublist.refl _, ?_⟩
  exact ⟨rfl, rfl⟩

set_option maxHeartbeats 2000000 in
theorem svget_spec (t m : Nat) (E : List (Option En)) (base total : Nat) (k : ByteArray) (r : Res) (w : World) (hk : small k) (hr : SvR t m E base total r) (hs : Holds w r.foot [r] w) :
    Spec Try.prog 11 [.pointer (some ⟨t, 0, .none⟩), .string k] w r.foot fun v H => GetG E k v ∧ H = [r] := by
  obtain ⟨L, rfl, hm1, hm2, bR, bX, eV, rR, rX, l, M, T, rfl, hR, hX, hI⟩ := hr
  have hEl := hI.len
  refine enter (n := 31) Try.func11 rfl rfl [(0, _), (1, _)] rfl ⟨rfl, rfl, trivial⟩ hs ?_
  refine w_seq ?_
  refine w_reg ?_
  refine wl_e (e_allocs [.string ByteArray.empty, .int .u64 0, .int .u64 0] (by kernel_rfl)) ?_
  rintro _ _ w0_0 ⟨b0_0, rfl, rfl⟩
  refine wl_f (f_assign rfl) ?_
  refine wl_end [(0, _), (1, _), (4, _)] ⟨rfl, rfl, rfl, trivial⟩ ?_
  refine w_seq ?_
  refine w_seq ?_
  refine w_reg ?_
  refine wl_f (f_move rfl) ?_
  refine wl_f (f_eqlnil rfl rfl Try.underlying24) ?_
  refine wl_end [(0, _), (1, _), (4, _), (9, _)] ⟨rfl, rfl, rfl, rfl, trivial⟩ ?_
  refine w_iff rfl ?_
  refine w_skip ?_
  refine w_seq ?_
  refine w_pick [1, 0] rfl ?_
  refine w_unb (svl t m bR bX eV E base total rR rX) ?_
  refine w_reg ?_
  refine wl_f (f_move rfl) ?_
  refine wl_f (f_nilCheck rfl) ?_
  refine wl_f (f_fieldAddr 1 rfl Try.underlying68 rfl rfl (by kernel_rfl)) ?_
  refine wl_f (f_fieldAddr 0 rfl Try.underlying66 rfl rfl (by kernel_rfl)) ?_
  (first | refine wl_f (f_loadb 0 rfl Try.underlying59 rfl rfl rfl) ?_ | refine wl_f (f_loadb 1 rfl Try.underlying59 rfl rfl rfl) ?_ | refine wl_f (f_loadb 2 rfl Try.underlying59 rfl rfl rfl) ?_ | refine wl_f (f_loadb 3 rfl Try.underlying59 rfl rfl rfl) ?_ | refine wl_f (f_loadb 4 rfl Try.underlying59 rfl rfl rfl) ?_ | refine wl_f (f_loadb 5 rfl Try.underlying59 rfl rfl rfl) ?_ | refine wl_f (f_loadb 6 rfl Try.underlying59 rfl rfl rfl) ?_)
  refine wl_f (f_move rfl) ?_
  refine wl_e (e_call1 rX [_, _, _, _] rfl Try.func24 (by kernel_rfl) (pk1 3 rfl) (fun w hh hs' => ixget_spec bX m T 0 M rX k w hk hX hs')) ?_
  rintro _ _ w2 ⟨_, rfl, rfl, rfl⟩
  refine wl_pick [4, 1, 1, 1, 0] rfl ?_
  refine wl_f (f_move rfl) ?_
  refine wl_f (f_extract rfl rfl) ?_
  refine wl_f (f_extract rfl rfl) ?_
  refine wl_f (f_assign rfl) ?_
  refine wl_f (f_assign rfl) ?_
  refine wl_end [(0, _), (4, _), (6, _), (7, _)] ⟨rfl, rfl, rfl, rfl, trivial⟩ ?_
  refine w_seq ?_
  refine w_seq ?_
  refine w_reg ?_
  refine wl_f (f_move rfl) ?_
  refine wl_f (f_not rfl rfl) ?_
  refine wl_end [(0, _), (4, _), (6, _), (22, _)] ⟨rfl, rfl, rfl, rfl, trivial⟩ ?_
  refine w_ifb rfl (fun hc2 => ?_) (fun hc2 => ?_)
  · skip
    have hno : Hasnt E k := by
      rcases hI.get hX.nd k with ⟨_, _, _, _, h⟩ | ⟨h, _⟩
      · rw [h] at hc2; cases hc2
      · exact h
    refine w_seq ?_
    refine w_reg ?_
    refine wl_f (f_build rfl build_entry0) ?_
    (first | refine wl_e0 (e_store0 (us := [_, _, _]) rfl rfl rfl (by kernel_rfl) (by simp [Value.oneCell']) rfl rfl) ?_ | refine wl_e0 (e_store1 (us := [_, _, _]) rfl rfl rfl (by kernel_rfl) (by simp [Value.oneCell']) rfl rfl) ?_ | refine wl_e0 (e_store2 (us := [_, _, _]) rfl rfl rfl (by kernel_rfl) (by simp [Value.oneCell']) rfl rfl) ?_ | refine wl_e0 (e_store3 (us := [_, _, _]) rfl rfl rfl (by kernel_rfl) (by simp [Value.oneCell']) rfl rfl) ?_)
    rintro _ _ w5_1 rfl
    refine wl_f (f_assign rfl) ?_
    refine wl_end [(4, _), (5, _)] ⟨rfl, rfl, trivial⟩ ?_
    refine w_pick [1, 1, 1, 1, 0] rfl ?_
    refine w_bun (H := [_]) [_, _, _, _] ?_
    refine w_pick [1, 0] rfl ?_
    refine w_ret ?_
    refine ⟨_, _, fun a ha hh => results_mix Try.results11 (rm_cell (cell_agg 0 rfl Try.underlying34 rfl (by kernel_rfl) rfl) (rm_tmp rfl rm_nil)) a ha _ hh, List.sublist_cons_self .., ?_⟩
    exact ⟨.inr ⟨hno, rfl⟩, rfl⟩
  · skip
    obtain ⟨i, o, s, hi, hg⟩ : ∃ i o s, Has E k i o s ∧ mget M k = some (i : Int) := by
      rcases hI.get hX.nd k with h | ⟨_, h⟩
      · exact h
      · rw [h] at hc2; exact absurd rfl hc2
    rw [hg]
    have hil : i < E.length := (List.getElem?_eq_some_iff.1 hi).1
    refine w_with fun hh => ?_
    obtain ⟨g, cc, e2⟩ := row_form hh (i := 2) rfl (by omega)
    subst e2
    clear hh
    refine w_skip ?_
    refine w_seq ?_
    refine w_reg ?_
    refine wl_f (f_move rfl) ?_
    refine wl_f (f_nilCheck rfl) ?_
    refine wl_f (f_fieldAddr 3 rfl Try.underlying68 rfl rfl (by kernel_rfl)) ?_
    (first | refine wl_f (f_loadb 0 rfl Try.underlying43 rfl rfl rfl) ?_ | refine wl_f (f_loadb 1 rfl Try.underlying43 rfl rfl rfl) ?_ | refine wl_f (f_loadb 2 rfl Try.underlying43 rfl rfl rfl) ?_ | refine wl_f (f_loadb 3 rfl Try.underlying43 rfl rfl rfl) ?_ | refine wl_f (f_loadb 4 rfl Try.underlying43 rfl rfl rfl) ?_ | refine wl_f (f_loadb 5 rfl Try.underlying43 rfl rfl rfl) ?_ | refine wl_f (f_loadb 6 rfl Try.underlying43 rfl rfl rfl) ?_)
    refine wl_f (f_move rfl) ?_
    refine wl_f (f_indexAddr 3 (i := i) rfl rfl Try.underlying43 (by kernel_rfl) rfl (by omega)) ?_
    refine wl_f (f_loadsr (cs := ecell (some (k, o, s))) 2 rfl Try.underlying34 rfl (by kernel_rfl) rfl (ecells_get hi)) ?_
    (first | refine wl_e0 (e_store0 (us := [_, _, _]) rfl rfl rfl (by kernel_rfl) (by simp [Value.oneCell']) rfl rfl) ?_ | refine wl_e0 (e_store1 (us := [_, _, _]) rfl rfl rfl (by kernel_rfl) (by simp [Value.oneCell']) rfl rfl) ?_ | refine wl_e0 (e_store2 (us := [_, _, _]) rfl rfl rfl (by kernel_rfl) (by simp [Value.oneCell']) rfl rfl) ?_ | refine wl_e0 (e_store3 (us := [_, _, _]) rfl rfl rfl (by kernel_rfl) (by simp [Value.oneCell']) rfl rfl) ?_)
    rintro _ _ w6_7 rfl
    refine wl_f (f_assign rfl) ?_
    refine wl_end [(4, _), (5, _)] ⟨rfl, rfl, trivial⟩ ?_
    refine w_pick [1, 1, 1, 1, 0] rfl ?_
    refine w_bun (H := [_]) [_, _, _, _] ?_
    refine w_pick [1, 0] rfl ?_
    refine w_ret ?_
    refine ⟨_, _, fun a ha hh => results_mix Try.results11 (rm_cell (cell_agg 0 rfl Try.underlying34 rfl (by kernel_rfl) rfl) (rm_tmp rfl rm_nil)) a ha _ hh, List.sublist_cons_self .., ?_⟩
    exact ⟨.inl ⟨i, o, s, hi, rfl⟩, rfl⟩

set_option maxHeartbeats 2000000 in
theorem svtake_spec (t m : Nat) (E : List (Option En)) (base total : Nat) (k : ByteArray) (r : Res) (w : World) (hk : small k) (hr : SvR t m E base total r) (hs : Holds w r.foot [r] w) :
    Spec Try.prog 17 [.pointer (some ⟨t, 0, .none⟩), .string k] w r.foot fun v H => GetG E k v ∧ ∃ r' E', H = [r'] ∧ SvR t m E' base total r' ∧ ((∃ i o s, Has E k i o s ∧ E' = E.set i none ∧ v = .tuple [enV k o s, .bool true].toArray) ∨ (Hasnt E k ∧ E' = E)) := by
  have hr0 := hr
  obtain ⟨L, rfl, hm1, hm2, bR, bX, eV, rR, rX, l, M, T, rfl, hR, hX, hI⟩ := hr
  have hEl := hI.len
  refine enter (n := 27) Try.func17 rfl rfl [(0, _), (1, _)] rfl ⟨rfl, rfl, trivial⟩ hs ?_
  refine w_seq ?_
  refine w_reg ?_
  refine wl_e (e_allocs [.string ByteArray.empty, .int .u64 0, .int .u64 0] (by kernel_rfl)) ?_
  rintro _ _ w0_0 ⟨b0_0, rfl, rfl⟩
  refine wl_f (f_assign rfl) ?_
  refine wl_end [(0, _), (1, _), (4, _)] ⟨rfl, rfl, rfl, trivial⟩ ?_
  refine w_seq ?_
  refine w_seq ?_
  refine w_reg ?_
  refine wl_f (f_move rfl) ?_
  refine wl_f (f_eqlnil rfl rfl Try.underlying24) ?_
  refine wl_end [(0, _), (1, _), (4, _), (9, _)] ⟨rfl, rfl, rfl, rfl, trivial⟩ ?_
  refine w_iff rfl ?_
  refine w_skip ?_
  refine w_seq ?_
  refine w_pick [1, 0] rfl ?_
  refine w_unb (svl t m bR bX eV E base total rR rX) ?_
  refine w_reg ?_
  refine wl_f (f_move rfl) ?_
  refine wl_f (f_nilCheck rfl) ?_
  refine wl_f (f_fieldAddr 1 rfl Try.underlying68 rfl rfl (by kernel_rfl)) ?_
  refine wl_f (f_fieldAddr 0 rfl Try.underlying66 rfl rfl (by kernel_rfl)) ?_
  (first | refine wl_f (f_loadb 0 rfl Try.underlying59 rfl rfl rfl) ?_ | refine wl_f (f_loadb 1 rfl Try.underlying59 rfl rfl rfl) ?_ | refine wl_f (f_loadb 2 rfl Try.underlying59 rfl rfl rfl) ?_ | refine wl_f (f_loadb 3 rfl Try.underlying59 rfl rfl rfl) ?_ | refine wl_f (f_loadb 4 rfl Try.underlying59 rfl rfl rfl) ?_ | refine wl_f (f_loadb 5 rfl Try.underlying59 rfl rfl rfl) ?_ | refine wl_f (f_loadb 6 rfl Try.underlying59 rfl rfl rfl) ?_)
  refine wl_f (f_move rfl) ?_
  refine wl_e (e_call1 rX [_, _, _, _] rfl Try.func24 (by kernel_rfl) (pk1 3 rfl) (fun w hh hs' => ixget_spec bX m T 0 M rX k w hk hX hs')) ?_
  rintro _ _ w2 ⟨_, rfl, rfl, rfl⟩
  refine wl_pick [1, 1, 1, 0, 0] rfl ?_
  refine wl_bun (H := [_]) [_, _, _, _] ?_
  refine wl_pick [1, 0] rfl ?_
  refine wl_f (f_move rfl) ?_
  refine wl_f (f_extract rfl rfl) ?_
  refine wl_f (f_extract rfl rfl) ?_
  refine wl_f (f_assign rfl) ?_
  refine wl_f (f_assign rfl) ?_
  refine wl_end [(0, _), (4, _), (6, _), (7, _)] ⟨rfl, rfl, rfl, rfl, trivial⟩ ?_
  refine w_seq ?_
  refine w_seq ?_
  refine w_reg ?_
  refine wl_f (f_move rfl) ?_
  refine wl_f (f_not rfl rfl) ?_
  refine wl_end [(0, _), (4, _), (6, _), (22, _)] ⟨rfl, rfl, rfl, rfl, trivial⟩ ?_
  refine w_ifb rfl (fun hc2 => ?_) (fun hc2 => ?_)
  · skip
    have hno : Hasnt E k := by
      rcases hI.get hX.nd k with ⟨_, _, _, _, h⟩ | ⟨h, _⟩
      · rw [h] at hc2; cases hc2
      · exact h
    refine w_seq ?_
    refine w_reg ?_
    refine wl_f (f_build rfl build_entry0) ?_
    (first | refine wl_e0 (e_store0 (us := [_, _, _]) rfl rfl rfl (by kernel_rfl) (by simp [Value.oneCell']) rfl rfl) ?_ | refine wl_e0 (e_store1 (us := [_, _, _]) rfl rfl rfl (by kernel_rfl) (by simp [Value.oneCell']) rfl rfl) ?_ | refine wl_e0 (e_store2 (us := [_, _, _]) rfl rfl rfl (by kernel_rfl) (by simp [Value.oneCell']) rfl rfl) ?_ | refine wl_e0 (e_store3 (us := [_, _, _]) rfl rfl rfl (by kernel_rfl) (by simp [Value.oneCell']) rfl rfl) ?_)
    rintro _ _ w5_1 rfl
    refine wl_f (f_assign rfl) ?_
    refine wl_end [(4, _), (5, _)] ⟨rfl, rfl, trivial⟩ ?_
    refine w_ret ?_
    refine ⟨_, _, fun a ha hh => results_mix Try.results17 (rm_cell (cell_agg 0 rfl Try.underlying34 rfl (by kernel_rfl) rfl) (rm_tmp rfl rm_nil)) a ha _ hh, List.sublist_cons_self .., ?_⟩
    exact ⟨.inr ⟨hno, rfl⟩, _, E, rfl, hr0, .inr ⟨hno, rfl⟩⟩
  · skip
    obtain ⟨i, o, s, hi, hg⟩ : ∃ i o s, Has E k i o s ∧ mget M k = some (i : Int) := by
      rcases hI.get hX.nd k with h | ⟨_, h⟩
      · exact h
      · rw [h] at hc2; exact absurd rfl hc2
    rw [hg]
    refine w_skip ?_
    refine w_seq ?_
    refine w_reg ?_
    refine wl_f (f_move rfl) ?_
    refine wl_f (f_move rfl) ?_
    refine wl_e (e_call1 _ [_] rfl Try.func30 (by kernel_rfl) (pk1 1 rfl) (fun w hh hs' => svdrop_spec t m i E base total k o s _ w hi hr0 hs')) ?_
    rintro _ _ w3 ⟨_, rfl, rfl, r2, rfl, hr2⟩
    refine wl_pick [1, 0] rfl ?_
    (first | refine wl_e0 (e_store0 (us := [_, _, _]) rfl rfl rfl (by kernel_rfl) (by simp [Value.oneCell']) rfl rfl) ?_ | refine wl_e0 (e_store1 (us := [_, _, _]) rfl rfl rfl (by kernel_rfl) (by simp [Value.oneCell']) rfl rfl) ?_ | refine wl_e0 (e_store2 (us := [_, _, _]) rfl rfl rfl (by kernel_rfl) (by simp [Value.oneCell']) rfl rfl) ?_ | refine wl_e0 (e_store3 (us := [_, _, _]) rfl rfl rfl (by kernel_rfl) (by simp [Value.oneCell']) rfl rfl) ?_)
    rintro _ _ w6_3 rfl
    refine wl_f (f_assign rfl) ?_
    refine wl_end [(4, _), (5, _)] ⟨rfl, rfl, trivial⟩ ?_
    refine w_ret ?_
    refine ⟨_, _, fun a ha hh => results_mix Try.results17 (rm_cell (cell_agg 0 rfl Try.underlying34 rfl (by kernel_rfl) rfl) (rm_tmp rfl rm_nil)) a ha _ hh, List.sublist_cons_self .., ?_⟩
    exact ⟨.inl ⟨i, o, s, hi, rfl⟩, _, E.set i none, rfl, hr2, .inl ⟨i, o, s, hi, rfl, rfl⟩⟩
end Go.Proofs.Ytbcfdgnpdaaleaa
