/- The items of events: both functions answer alike. -/
import Derived.Test.YthbjjfpikfmmnaaD14
import Derived.Test.YthbjjfpikfmmnaaK8
namespace Go.Proofs.Ythbjjfpikfmmnaa
open Go.RowKit

def itemOut (tags : List Tg) (t : Int) (wt : Nat) : (List Nat × Int × Nat) × Int :=
  if t < 0 ∨ 1099511627776 < t ∨ wt = 0 ∨ 9223372036854775808 < wt then (([], 0, 0), 1)
  else if (keyOut tags).2 ≠ 0 then (([], 0, 0), (keyOut tags).2) else (((keyOut tags).1, t, wt), 0)
def itemV (x : List Nat × Int × Nat) : Value := .agg #[.string (str x.1), .int .i64 x.2.1, .int .u64 (x.2.2 : Int)]
theorem build_item0 (w : World) : (Instr.build 42 #[]).run Try.prog w = .ok (.agg [.string ⟨#[]⟩, .int .i64 0, .int .u64 0].toArray) w := by kernel_rfl
theorem build_item (s : ByteArray) (t : Int) (wt : Int) (w : World) : (Instr.build 42 [(0, .string s), (1, .int .i64 t), (2, .int .u64 wt)].toArray).run Try.prog w = .ok (.agg [.string s, .int .i64 t, .int .u64 wt].toArray) w := by kernel_rfl

def ItemSpec (f : FuncId) : Prop := ∀ (sl : Value) (tags : List Tg) (t : Int) (wt : Nat) (w : World), Rd w Nil 2 sl tags.length (tcells tags) → tags.length ≤ 140737488355328 → (∀ x ∈ tags, x.1.size ≤ 140737488355328) →
  Spec Try.prog f [.agg #[sl, .int .i64 t, .int .u64 wt]] w Nil fun r H => r = .tuple #[itemV (itemOut tags t wt).1, .int .i64 (itemOut tags t wt).2] ∧ H = []

set_option maxHeartbeats 1000000 in
theorem item_spec : ItemSpec 16 := by
  intro sl tags t wt w hr hn hsz
  obtain ⟨A, c, rfl, hlen, hcap, hA⟩ := id hr
  refine enter (n := 41) Try.func16 rfl rfl [(0, _)] rfl ⟨rfl, trivial⟩ (Holds.start _ _) ?_
  refine w_seq ?_
  refine w_reg ?_
  refine wl_e (e_box (cs := [_, _, _]) rfl rfl) ?_
  rintro _ _ w0_0 ⟨b0_0, rfl, rfl⟩
  refine wl_e (e_allocs [.string ByteArray.empty, .int .i64 0, .int .u64 0] (by kernel_rfl)) ?_
  rintro _ _ w0_1 ⟨b0_1, rfl, rfl⟩
  refine wl_f (f_assign rfl) ?_
  refine wl_end [(1, _), (2, _)] ⟨rfl, rfl, trivial⟩ ?_
  refine w_seq ?_
  refine w_seq ?_
  refine w_reg ?_
  refine wl_f (f_fieldAddr 1 rfl Try.underlying40 rfl rfl (by kernel_rfl)) ?_
  (first | refine wl_f (f_loadb 0 rfl Try.underlying3 rfl rfl rfl) ?_ | refine wl_f (f_loadb 1 rfl Try.underlying3 rfl rfl rfl) ?_ | refine wl_f (f_loadb 2 rfl Try.underlying3 rfl rfl rfl) ?_ | refine wl_f (f_loadb 3 rfl Try.underlying3 rfl rfl rfl) ?_ | refine wl_f (f_loadb 4 rfl Try.underlying3 rfl rfl rfl) ?_ | refine wl_f (f_loadb 5 rfl Try.underlying3 rfl rfl rfl) ?_ | refine wl_f (f_loadb 6 rfl Try.underlying3 rfl rfl rfl) ?_)
  refine wl_f (f_lss rfl rfl) ?_
  refine wl_f (f_move rfl) ?_
  refine wl_or (j := 3) (c := decide (1099511627776 < t)) 3 [(1, _), (2, _)] ⟨rfl, rfl, trivial⟩ rfl rfl rfl rfl rfl (fun hg1_7 => ?_) (fun w1_7 => ?_)
  · skip
    refine wl_gf rfl rfl (f_fieldAddr 1 rfl Try.underlying40 rfl rfl (by kernel_rfl)) ?_
    (first | refine wl_gf rfl rfl (f_loadb 0 rfl Try.underlying3 rfl rfl rfl) ?_ | refine wl_gf rfl rfl (f_loadb 1 rfl Try.underlying3 rfl rfl rfl) ?_ | refine wl_gf rfl rfl (f_loadb 2 rfl Try.underlying3 rfl rfl rfl) ?_ | refine wl_gf rfl rfl (f_loadb 3 rfl Try.underlying3 rfl rfl rfl) ?_ | refine wl_gf rfl rfl (f_loadb 4 rfl Try.underlying3 rfl rfl rfl) ?_ | refine wl_gf rfl rfl (f_loadb 5 rfl Try.underlying3 rfl rfl rfl) ?_ | refine wl_gf rfl rfl (f_loadb 6 rfl Try.underlying3 rfl rfl rfl) ?_)
    refine wl_gf rfl rfl (f_gtr rfl rfl) ?_
    exact wl_pend rfl rfl ⟨rfl, rfl, trivial⟩ (List.Sublist.refl _)
  refine wl_f (f_move rfl) ?_
  refine wl_or (j := 8) (c := decide ((wt : Int) = 0)) 3 [(1, _), (2, _)] ⟨rfl, rfl, trivial⟩ rfl rfl rfl rfl rfl (fun hg1_12 => ?_) (fun w1_12 => ?_)
  · skip
    refine wl_gf rfl rfl (f_fieldAddr 2 rfl Try.underlying40 rfl rfl (by kernel_rfl)) ?_
    (first | refine wl_gf rfl rfl (f_loadb 0 rfl Try.underlying38 rfl rfl rfl) ?_ | refine wl_gf rfl rfl (f_loadb 1 rfl Try.underlying38 rfl rfl rfl) ?_ | refine wl_gf rfl rfl (f_loadb 2 rfl Try.underlying38 rfl rfl rfl) ?_ | refine wl_gf rfl rfl (f_loadb 3 rfl Try.underlying38 rfl rfl rfl) ?_ | refine wl_gf rfl rfl (f_loadb 4 rfl Try.underlying38 rfl rfl rfl) ?_ | refine wl_gf rfl rfl (f_loadb 5 rfl Try.underlying38 rfl rfl rfl) ?_ | refine wl_gf rfl rfl (f_loadb 6 rfl Try.underlying38 rfl rfl rfl) ?_)
    refine wl_gf rfl rfl (f_eql rfl rfl) ?_
    exact wl_pend rfl rfl ⟨rfl, rfl, trivial⟩ (List.Sublist.refl _)
  refine wl_f (f_move rfl) ?_
  refine wl_or (j := 13) (c := decide (9223372036854775808 < (wt : Int))) 3 [(1, _), (2, _)] ⟨rfl, rfl, trivial⟩ rfl rfl rfl rfl rfl (fun hg1_17 => ?_) (fun w1_17 => ?_)
  · skip
    refine wl_gf rfl rfl (f_fieldAddr 2 rfl Try.underlying40 rfl rfl (by kernel_rfl)) ?_
    (first | refine wl_gf rfl rfl (f_loadb 0 rfl Try.underlying38 rfl rfl rfl) ?_ | refine wl_gf rfl rfl (f_loadb 1 rfl Try.underlying38 rfl rfl rfl) ?_ | refine wl_gf rfl rfl (f_loadb 2 rfl Try.underlying38 rfl rfl rfl) ?_ | refine wl_gf rfl rfl (f_loadb 3 rfl Try.underlying38 rfl rfl rfl) ?_ | refine wl_gf rfl rfl (f_loadb 4 rfl Try.underlying38 rfl rfl rfl) ?_ | refine wl_gf rfl rfl (f_loadb 5 rfl Try.underlying38 rfl rfl rfl) ?_ | refine wl_gf rfl rfl (f_loadb 6 rfl Try.underlying38 rfl rfl rfl) ?_)
    refine wl_gf rfl rfl (f_gtr rfl rfl) ?_
    exact wl_pend rfl rfl ⟨rfl, rfl, trivial⟩ (List.Sublist.refl _)
  refine wl_end [(1, _), (2, _), (23, _)] ⟨rfl, rfl, rfl, trivial⟩ ?_
  refine w_ifb rfl (fun hc1 => ?_) (fun hc1 => ?_)
  · skip
    simp only [Bool.or_eq_true, decide_eq_true_eq] at hc1
    refine w_seq ?_
    refine w_reg ?_
    refine wl_f (f_build rfl (fun w => build_item0 w)) ?_
    (first | refine wl_e0 (e_store0 (us := [_, _, _]) rfl rfl rfl (by kernel_rfl) (by simp [Value.oneCell']) rfl rfl) ?_ | refine wl_e0 (e_store1 (us := [_, _, _]) rfl rfl rfl (by kernel_rfl) (by simp [Value.oneCell']) rfl rfl) ?_ | refine wl_e0 (e_store2 (us := [_, _, _]) rfl rfl rfl (by kernel_rfl) (by simp [Value.oneCell']) rfl rfl) ?_ | refine wl_e0 (e_store3 (us := [_, _, _]) rfl rfl rfl (by kernel_rfl) (by simp [Value.oneCell']) rfl rfl) ?_)
    rintro _ _ w2_1 rfl
    refine wl_f (f_assign rfl) ?_
    refine wl_end [(2, _), (3, _)] ⟨rfl, rfl, trivial⟩ ?_
    refine w_ret ?_
    refine ⟨_, _, fun a ha hh => results_mix Try.results16 (rm_cell (cell_agg 0 rfl Try.underlying42 rfl (by kernel_rfl) rfl) (rm_tmp rfl rm_nil)) a ha _ hh, List.nil_sublist _, ?_⟩
    exact ⟨by rw [itemOut, if_pos (by omega)]; rfl, rfl⟩
  · skip
    simp only [Bool.or_eq_true, decide_eq_true_eq] at hc1
    refine w_skip ?_
    refine w_seq ?_
    refine w_reg ?_
    refine wl_f (f_fieldAddr 0 rfl Try.underlying40 rfl rfl (by kernel_rfl)) ?_
    (first | refine wl_f (f_loadb 0 rfl Try.underlying37 rfl rfl rfl) ?_ | refine wl_f (f_loadb 1 rfl Try.underlying37 rfl rfl rfl) ?_ | refine wl_f (f_loadb 2 rfl Try.underlying37 rfl rfl rfl) ?_ | refine wl_f (f_loadb 3 rfl Try.underlying37 rfl rfl rfl) ?_ | refine wl_f (f_loadb 4 rfl Try.underlying37 rfl rfl rfl) ?_ | refine wl_f (f_loadb 5 rfl Try.underlying37 rfl rfl rfl) ?_ | refine wl_f (f_loadb 6 rfl Try.underlying37 rfl rfl rfl) ?_)
    refine wl_e (e_call0 rfl Try.func34 (by kernel_rfl) (fun w hh => key_spec _ tags w (hr.old0 hh) hn hsz)) ?_
    rintro _ _ w1 ⟨_, rfl, rfl, rfl⟩
    refine wl_f (f_move rfl) ?_
    refine wl_f (f_extract rfl rfl) ?_
    refine wl_f (f_extract rfl rfl) ?_
    refine wl_f (f_assign rfl) ?_
    refine wl_f (f_assign rfl) ?_
    refine wl_end [(1, _), (2, _), (4, _), (5, _)] ⟨rfl, rfl, rfl, rfl, trivial⟩ ?_
    refine w_seq ?_
    refine w_seq ?_
    refine w_reg ?_
    refine wl_f (f_move rfl) ?_
    refine wl_f (f_neq rfl rfl) ?_
    refine wl_end [(1, _), (2, _), (4, _), (5, _), (32, _)] ⟨rfl, rfl, rfl, rfl, rfl, trivial⟩ ?_
    refine w_ifd rfl (fun hc2 => ?_) (fun hc2 => ?_)
    · skip
      refine w_seq ?_
      refine w_reg ?_
      refine wl_f (f_build rfl (fun w => build_item0 w)) ?_
      refine wl_f (f_move rfl) ?_
      (first | refine wl_e0 (e_store0 (us := [_, _, _]) rfl rfl rfl (by kernel_rfl) (by simp [Value.oneCell']) rfl rfl) ?_ | refine wl_e0 (e_store1 (us := [_, _, _]) rfl rfl rfl (by kernel_rfl) (by simp [Value.oneCell']) rfl rfl) ?_ | refine wl_e0 (e_store2 (us := [_, _, _]) rfl rfl rfl (by kernel_rfl) (by simp [Value.oneCell']) rfl rfl) ?_ | refine wl_e0 (e_store3 (us := [_, _, _]) rfl rfl rfl (by kernel_rfl) (by simp [Value.oneCell']) rfl rfl) ?_)
      rintro _ _ w5_2 rfl
      refine wl_f (f_assign rfl) ?_
      refine wl_end [(2, _), (3, _)] ⟨rfl, rfl, trivial⟩ ?_
      refine w_ret ?_
      refine ⟨_, _, fun a ha hh => results_mix Try.results16 (rm_cell (cell_agg 0 rfl Try.underlying42 rfl (by kernel_rfl) rfl) (rm_tmp rfl rm_nil)) a ha _ hh, List.nil_sublist _, ?_⟩
      exact ⟨by rw [itemOut, if_neg (by omega), if_pos hc2]; rfl, rfl⟩
    · skip
      refine w_skip ?_
      refine w_seq ?_
      refine w_reg ?_
      refine wl_f (f_move rfl) ?_
      refine wl_f (f_fieldAddr 1 rfl Try.underlying40 rfl rfl (by kernel_rfl)) ?_
      (first | refine wl_f (f_loadb 0 rfl Try.underlying3 rfl rfl rfl) ?_ | refine wl_f (f_loadb 1 rfl Try.underlying3 rfl rfl rfl) ?_ | refine wl_f (f_loadb 2 rfl Try.underlying3 rfl rfl rfl) ?_ | refine wl_f (f_loadb 3 rfl Try.underlying3 rfl rfl rfl) ?_ | refine wl_f (f_loadb 4 rfl Try.underlying3 rfl rfl rfl) ?_ | refine wl_f (f_loadb 5 rfl Try.underlying3 rfl rfl rfl) ?_ | refine wl_f (f_loadb 6 rfl Try.underlying3 rfl rfl rfl) ?_)
      refine wl_f (f_fieldAddr 2 rfl Try.underlying40 rfl rfl (by kernel_rfl)) ?_
      (first | refine wl_f (f_loadb 0 rfl Try.underlying38 rfl rfl rfl) ?_ | refine wl_f (f_loadb 1 rfl Try.underlying38 rfl rfl rfl) ?_ | refine wl_f (f_loadb 2 rfl Try.underlying38 rfl rfl rfl) ?_ | refine wl_f (f_loadb 3 rfl Try.underlying38 rfl rfl rfl) ?_ | refine wl_f (f_loadb 4 rfl Try.underlying38 rfl rfl rfl) ?_ | refine wl_f (f_loadb 5 rfl Try.underlying38 rfl rfl rfl) ?_ | refine wl_f (f_loadb 6 rfl Try.underlying38 rfl rfl rfl) ?_)
      refine wl_f (f_build rfl (fun w => build_item _ _ _ w)) ?_
      (first | refine wl_e0 (e_store0 (us := [_, _, _]) rfl rfl rfl (by kernel_rfl) (by simp [Value.oneCell']) rfl rfl) ?_ | refine wl_e0 (e_store1 (us := [_, _, _]) rfl rfl rfl (by kernel_rfl) (by simp [Value.oneCell']) rfl rfl) ?_ | refine wl_e0 (e_store2 (us := [_, _, _]) rfl rfl rfl (by kernel_rfl) (by simp [Value.oneCell']) rfl rfl) ?_ | refine wl_e0 (e_store3 (us := [_, _, _]) rfl rfl rfl (by kernel_rfl) (by simp [Value.oneCell']) rfl rfl) ?_)
      rintro _ _ w6_6 rfl
      refine wl_f (f_assign rfl) ?_
      refine wl_end [(2, _), (3, _)] ⟨rfl, rfl, trivial⟩ ?_
      refine w_ret ?_
      refine ⟨_, _, fun a ha hh => results_mix Try.results16 (rm_cell (cell_agg 0 rfl Try.underlying42 rfl (by kernel_rfl) rfl) (rm_tmp rfl rm_nil)) a ha _ hh, List.nil_sublist _, ?_⟩
      exact ⟨by rw [itemOut, if_neg (by omega), if_neg hc2]; rfl, rfl⟩
set_option maxHeartbeats 1000000 in
theorem ritem_spec : ItemSpec 30 := by
  intro sl tags t wt w hr hn hsz
  obtain ⟨A, c, rfl, hlen, hcap, hA⟩ := id hr
  refine enter (n := 41) Try.func30 rfl rfl [(0, _)] rfl ⟨rfl, trivial⟩ (Holds.start _ _) ?_
  refine w_seq ?_
  refine w_reg ?_
  refine wl_e (e_box (cs := [_, _, _]) rfl rfl) ?_
  rintro _ _ w0_0 ⟨b0_0, rfl, rfl⟩
  refine wl_e (e_allocs [.string ByteArray.empty, .int .i64 0, .int .u64 0] (by kernel_rfl)) ?_
  rintro _ _ w0_1 ⟨b0_1, rfl, rfl⟩
  refine wl_f (f_assign rfl) ?_
  refine wl_end [(1, _), (2, _)] ⟨rfl, rfl, trivial⟩ ?_
  refine w_seq ?_
  refine w_seq ?_
  refine w_reg ?_
  refine wl_f (f_fieldAddr 1 rfl Try.underlying40 rfl rfl (by kernel_rfl)) ?_
  (first | refine wl_f (f_loadb 0 rfl Try.underlying3 rfl rfl rfl) ?_ | refine wl_f (f_loadb 1 rfl Try.underlying3 rfl rfl rfl) ?_ | refine wl_f (f_loadb 2 rfl Try.underlying3 rfl rfl rfl) ?_ | refine wl_f (f_loadb 3 rfl Try.underlying3 rfl rfl rfl) ?_ | refine wl_f (f_loadb 4 rfl Try.underlying3 rfl rfl rfl) ?_ | refine wl_f (f_loadb 5 rfl Try.underlying3 rfl rfl rfl) ?_ | refine wl_f (f_loadb 6 rfl Try.underlying3 rfl rfl rfl) ?_)
  refine wl_f (f_lss rfl rfl) ?_
  refine wl_f (f_move rfl) ?_
  refine wl_or (j := 3) (c := decide (1099511627776 < t)) 3 [(1, _), (2, _)] ⟨rfl, rfl, trivial⟩ rfl rfl rfl rfl rfl (fun hg1_7 => ?_) (fun w1_7 => ?_)
  · skip
    refine wl_gf rfl rfl (f_fieldAddr 1 rfl Try.underlying40 rfl rfl (by kernel_rfl)) ?_
    (first | refine wl_gf rfl rfl (f_loadb 0 rfl Try.underlying3 rfl rfl rfl) ?_ | refine wl_gf rfl rfl (f_loadb 1 rfl Try.underlying3 rfl rfl rfl) ?_ | refine wl_gf rfl rfl (f_loadb 2 rfl Try.underlying3 rfl rfl rfl) ?_ | refine wl_gf rfl rfl (f_loadb 3 rfl Try.underlying3 rfl rfl rfl) ?_ | refine wl_gf rfl rfl (f_loadb 4 rfl Try.underlying3 rfl rfl rfl) ?_ | refine wl_gf rfl rfl (f_loadb 5 rfl Try.underlying3 rfl rfl rfl) ?_ | refine wl_gf rfl rfl (f_loadb 6 rfl Try.underlying3 rfl rfl rfl) ?_)
    refine wl_gf rfl rfl (f_gtr rfl rfl) ?_
    exact wl_pend rfl rfl ⟨rfl, rfl, trivial⟩ (List.Sublist.refl _)
  refine wl_f (f_move rfl) ?_
  refine wl_or (j := 8) (c := decide ((wt : Int) < 1)) 3 [(1, _), (2, _)] ⟨rfl, rfl, trivial⟩ rfl rfl rfl rfl rfl (fun hg1_12 => ?_) (fun w1_12 => ?_)
  · skip
    refine wl_gf rfl rfl (f_fieldAddr 2 rfl Try.underlying40 rfl rfl (by kernel_rfl)) ?_
    (first | refine wl_gf rfl rfl (f_loadb 0 rfl Try.underlying38 rfl rfl rfl) ?_ | refine wl_gf rfl rfl (f_loadb 1 rfl Try.underlying38 rfl rfl rfl) ?_ | refine wl_gf rfl rfl (f_loadb 2 rfl Try.underlying38 rfl rfl rfl) ?_ | refine wl_gf rfl rfl (f_loadb 3 rfl Try.underlying38 rfl rfl rfl) ?_ | refine wl_gf rfl rfl (f_loadb 4 rfl Try.underlying38 rfl rfl rfl) ?_ | refine wl_gf rfl rfl (f_loadb 5 rfl Try.underlying38 rfl rfl rfl) ?_ | refine wl_gf rfl rfl (f_loadb 6 rfl Try.underlying38 rfl rfl rfl) ?_)
    refine wl_gf rfl rfl (f_lss rfl rfl) ?_
    exact wl_pend rfl rfl ⟨rfl, rfl, trivial⟩ (List.Sublist.refl _)
  refine wl_f (f_move rfl) ?_
  refine wl_or (j := 13) (c := decide (9223372036854775808 < (wt : Int))) 3 [(1, _), (2, _)] ⟨rfl, rfl, trivial⟩ rfl rfl rfl rfl rfl (fun hg1_17 => ?_) (fun w1_17 => ?_)
  · skip
    refine wl_gf rfl rfl (f_fieldAddr 2 rfl Try.underlying40 rfl rfl (by kernel_rfl)) ?_
    (first | refine wl_gf rfl rfl (f_loadb 0 rfl Try.underlying38 rfl rfl rfl) ?_ | refine wl_gf rfl rfl (f_loadb 1 rfl Try.underlying38 rfl rfl rfl) ?_ | refine wl_gf rfl rfl (f_loadb 2 rfl Try.underlying38 rfl rfl rfl) ?_ | refine wl_gf rfl rfl (f_loadb 3 rfl Try.underlying38 rfl rfl rfl) ?_ | refine wl_gf rfl rfl (f_loadb 4 rfl Try.underlying38 rfl rfl rfl) ?_ | refine wl_gf rfl rfl (f_loadb 5 rfl Try.underlying38 rfl rfl rfl) ?_ | refine wl_gf rfl rfl (f_loadb 6 rfl Try.underlying38 rfl rfl rfl) ?_)
    refine wl_gf rfl rfl (f_gtr rfl rfl) ?_
    exact wl_pend rfl rfl ⟨rfl, rfl, trivial⟩ (List.Sublist.refl _)
  refine wl_end [(1, _), (2, _), (23, _)] ⟨rfl, rfl, rfl, trivial⟩ ?_
  refine w_ifb rfl (fun hc1 => ?_) (fun hc1 => ?_)
  · skip
    simp only [Bool.or_eq_true, decide_eq_true_eq] at hc1
    refine w_seq ?_
    refine w_reg ?_
    refine wl_f (f_build rfl (fun w => build_item0 w)) ?_
    (first | refine wl_e0 (e_store0 (us := [_, _, _]) rfl rfl rfl (by kernel_rfl) (by simp [Value.oneCell']) rfl rfl) ?_ | refine wl_e0 (e_store1 (us := [_, _, _]) rfl rfl rfl (by kernel_rfl) (by simp [Value.oneCell']) rfl rfl) ?_ | refine wl_e0 (e_store2 (us := [_, _, _]) rfl rfl rfl (by kernel_rfl) (by simp [Value.oneCell']) rfl rfl) ?_ | refine wl_e0 (e_store3 (us := [_, _, _]) rfl rfl rfl (by kernel_rfl) (by simp [Value.oneCell']) rfl rfl) ?_)
    rintro _ _ w2_1 rfl
    refine wl_f (f_assign rfl) ?_
    refine wl_end [(2, _), (3, _)] ⟨rfl, rfl, trivial⟩ ?_
    refine w_ret ?_
    refine ⟨_, _, fun a ha hh => results_mix Try.results30 (rm_cell (cell_agg 0 rfl Try.underlying42 rfl (by kernel_rfl) rfl) (rm_tmp rfl rm_nil)) a ha _ hh, List.nil_sublist _, ?_⟩
    exact ⟨by rw [itemOut, if_pos (by omega)]; rfl, rfl⟩
  · skip
    simp only [Bool.or_eq_true, decide_eq_true_eq] at hc1
    refine w_skip ?_
    refine w_seq ?_
    refine w_reg ?_
    refine wl_f (f_fieldAddr 0 rfl Try.underlying40 rfl rfl (by kernel_rfl)) ?_
    (first | refine wl_f (f_loadb 0 rfl Try.underlying37 rfl rfl rfl) ?_ | refine wl_f (f_loadb 1 rfl Try.underlying37 rfl rfl rfl) ?_ | refine wl_f (f_loadb 2 rfl Try.underlying37 rfl rfl rfl) ?_ | refine wl_f (f_loadb 3 rfl Try.underlying37 rfl rfl rfl) ?_ | refine wl_f (f_loadb 4 rfl Try.underlying37 rfl rfl rfl) ?_ | refine wl_f (f_loadb 5 rfl Try.underlying37 rfl rfl rfl) ?_ | refine wl_f (f_loadb 6 rfl Try.underlying37 rfl rfl rfl) ?_)
    refine wl_e (e_call0 rfl Try.func45 (by kernel_rfl) (fun w hh => rkey_spec _ tags w (hr.old0 hh) hn hsz)) ?_
    rintro _ _ w1 ⟨_, rfl, rfl, rfl⟩
    refine wl_f (f_move rfl) ?_
    refine wl_f (f_extract rfl rfl) ?_
    refine wl_f (f_extract rfl rfl) ?_
    refine wl_f (f_assign rfl) ?_
    refine wl_f (f_assign rfl) ?_
    refine wl_end [(1, _), (2, _), (4, _), (5, _)] ⟨rfl, rfl, rfl, rfl, trivial⟩ ?_
    refine w_seq ?_
    refine w_seq ?_
    refine w_reg ?_
    refine wl_f (f_move rfl) ?_
    refine wl_f (f_neq rfl rfl) ?_
    refine wl_end [(1, _), (2, _), (4, _), (5, _), (32, _)] ⟨rfl, rfl, rfl, rfl, rfl, trivial⟩ ?_
    refine w_ifd rfl (fun hc2 => ?_) (fun hc2 => ?_)
    · skip
      refine w_seq ?_
      refine w_reg ?_
      refine wl_f (f_build rfl (fun w => build_item0 w)) ?_
      refine wl_f (f_move rfl) ?_
      (first | refine wl_e0 (e_store0 (us := [_, _, _]) rfl rfl rfl (by kernel_rfl) (by simp [Value.oneCell']) rfl rfl) ?_ | refine wl_e0 (e_store1 (us := [_, _, _]) rfl rfl rfl (by kernel_rfl) (by simp [Value.oneCell']) rfl rfl) ?_ | refine wl_e0 (e_store2 (us := [_, _, _]) rfl rfl rfl (by kernel_rfl) (by simp [Value.oneCell']) rfl rfl) ?_ | refine wl_e0 (e_store3 (us := [_, _, _]) rfl rfl rfl (by kernel_rfl) (by simp [Value.oneCell']) rfl rfl) ?_)
      rintro _ _ w5_2 rfl
      refine wl_f (f_assign rfl) ?_
      refine wl_end [(2, _), (3, _)] ⟨rfl, rfl, trivial⟩ ?_
      refine w_ret ?_
      refine ⟨_, _, fun a ha hh => results_mix Try.results30 (rm_cell (cell_agg 0 rfl Try.underlying42 rfl (by kernel_rfl) rfl) (rm_tmp rfl rm_nil)) a ha _ hh, List.nil_sublist _, ?_⟩
      exact ⟨by rw [itemOut, if_neg (by omega), if_pos hc2]; rfl, rfl⟩
    · skip
      refine w_skip ?_
      refine w_seq ?_
      refine w_reg ?_
      refine wl_f (f_move rfl) ?_
      refine wl_f (f_fieldAddr 1 rfl Try.underlying40 rfl rfl (by kernel_rfl)) ?_
      (first | refine wl_f (f_loadb 0 rfl Try.underlying3 rfl rfl rfl) ?_ | refine wl_f (f_loadb 1 rfl Try.underlying3 rfl rfl rfl) ?_ | refine wl_f (f_loadb 2 rfl Try.underlying3 rfl rfl rfl) ?_ | refine wl_f (f_loadb 3 rfl Try.underlying3 rfl rfl rfl) ?_ | refine wl_f (f_loadb 4 rfl Try.underlying3 rfl rfl rfl) ?_ | refine wl_f (f_loadb 5 rfl Try.underlying3 rfl rfl rfl) ?_ | refine wl_f (f_loadb 6 rfl Try.underlying3 rfl rfl rfl) ?_)
      refine wl_f (f_fieldAddr 2 rfl Try.underlying40 rfl rfl (by kernel_rfl)) ?_
      (first | refine wl_f (f_loadb 0 rfl Try.underlying38 rfl rfl rfl) ?_ | refine wl_f (f_loadb 1 rfl Try.underlying38 rfl rfl rfl) ?_ | refine wl_f (f_loadb 2 rfl Try.underlying38 rfl rfl rfl) ?_ | refine wl_f (f_loadb 3 rfl Try.underlying38 rfl rfl rfl) ?_ | refine wl_f (f_loadb 4 rfl Try.underlying38 rfl rfl rfl) ?_ | refine wl_f (f_loadb 5 rfl Try.underlying38 rfl rfl rfl) ?_ | refine wl_f (f_loadb 6 rfl Try.underlying38 rfl rfl rfl) ?_)
      refine wl_f (f_build rfl (fun w => build_item _ _ _ w)) ?_
      (first | refine wl_e0 (e_store0 (us := [_, _, _]) rfl rfl rfl (by kernel_rfl) (by simp [Value.oneCell']) rfl rfl) ?_ | refine wl_e0 (e_store1 (us := [_, _, _]) rfl rfl rfl (by kernel_rfl) (by simp [Value.oneCell']) rfl rfl) ?_ | refine wl_e0 (e_store2 (us := [_, _, _]) rfl rfl rfl (by kernel_rfl) (by simp [Value.oneCell']) rfl rfl) ?_ | refine wl_e0 (e_store3 (us := [_, _, _]) rfl rfl rfl (by kernel_rfl) (by simp [Value.oneCell']) rfl rfl) ?_)
      rintro _ _ w6_6 rfl
      refine wl_f (f_assign rfl) ?_
      refine wl_end [(2, _), (3, _)] ⟨rfl, rfl, trivial⟩ ?_
      refine w_ret ?_
      refine ⟨_, _, fun a ha hh => results_mix Try.results30 (rm_cell (cell_agg 0 rfl Try.underlying42 rfl (by kernel_rfl) rfl) (rm_tmp rfl rm_nil)) a ha _ hh, List.nil_sublist _, ?_⟩
      exact ⟨by rw [itemOut, if_neg (by omega), if_neg hc2]; rfl, rfl⟩
end Go.Proofs.Ythbjjfpikfmmnaa
