/- Which tags are valid: Valid and Tag answer alike. -/
import Derived.Test.YthbjjfpikfmmnaaD4
namespace Go.Proofs.Ythbjjfpikfmmnaa
open Go.RowKit

/-- A byte that may be in a name. -/
def nb (b : Nat) : Bool := (((decide (97 ≤ b) && decide (b ≤ 122)) || (decide (48 ≤ b) && decide (b ≤ 57))) || decide (b = 95) || decide (b = 46)) || decide (b = 45)
theorem letter_spec (b : Nat) (w : World) : Spec Try.prog 54 [.int .u8 b] w Nil fun r H => r = .bool (nb b) ∧ H = [] := by
  refine enter (n := 29) Try.func54 rfl rfl [(0, _)] rfl ⟨rfl, trivial⟩ (Holds.start _ _) ?_
  refine w_seq ?_
  refine w_reg ?_
  refine wl_f (f_assign rfl) ?_
  refine wl_end [(0, _)] ⟨rfl, trivial⟩ ?_
  refine w_seq ?_
  refine w_reg ?_
  refine wl_f (f_move rfl) ?_
  refine wl_f (f_geq rfl rfl) ?_
  refine wl_f (f_move rfl) ?_
  refine wl_and (j := 2) (c := decide (((b : Nat) : Int) ≤ 122)) 2 [(0, _)] ⟨rfl, trivial⟩ rfl rfl rfl rfl rfl (fun hg1_5 => ?_) (fun w1_5 => ?_)
  · skip
    refine wl_gf rfl rfl (f_move rfl) ?_
    refine wl_gf rfl rfl (f_leq rfl rfl) ?_
    exact wl_pend rfl rfl ⟨rfl, trivial⟩ (List.Sublist.refl _)
  refine wl_f (f_move rfl) ?_
  refine wl_or (j := 6) (c := decide ((48 : Int) ≤ ((b : Nat) : Int)) && decide (((b : Nat) : Int) ≤ 57)) 6 [(0, _)] ⟨rfl, trivial⟩ rfl rfl rfl rfl rfl (fun hg1_13 => ?_) (fun w1_13 => ?_)
  · skip
    refine wl_gf rfl rfl (f_move rfl) ?_
    refine wl_gf rfl rfl (f_geq rfl rfl) ?_
    refine wl_gf rfl rfl (f_move rfl) ?_
    refine wl_andg (j := 9) (c := decide (((b : Nat) : Int) ≤ 57)) 2 [(0, _), (9, _)] ⟨rfl, rfl, trivial⟩ rfl rfl rfl rfl rfl rfl rfl (fun hg1_12 => ?_) (fun w1_12 => ?_)
    · skip
      refine wl_gf rfl rfl (f_move rfl) ?_
      refine wl_gf rfl rfl (f_leq rfl rfl) ?_
      exact wl_pend rfl rfl ⟨rfl, rfl, trivial⟩ (List.Sublist.refl _)
    exact wl_pend rfl rfl ⟨rfl, trivial⟩ (List.Sublist.refl _)
  refine wl_f (f_move rfl) ?_
  refine wl_or (j := 14) (c := decide (((b : Nat) : Int) = 95)) 2 [(0, _)] ⟨rfl, trivial⟩ rfl rfl rfl rfl rfl (fun hg1_17 => ?_) (fun w1_17 => ?_)
  · skip
    refine wl_gf rfl rfl (f_move rfl) ?_
    refine wl_gf rfl rfl (f_eql rfl rfl) ?_
    exact wl_pend rfl rfl ⟨rfl, trivial⟩ (List.Sublist.refl _)
  refine wl_f (f_move rfl) ?_
  refine wl_or (j := 18) (c := decide (((b : Nat) : Int) = 46)) 2 [(0, _)] ⟨rfl, trivial⟩ rfl rfl rfl rfl rfl (fun hg1_21 => ?_) (fun w1_21 => ?_)
  · skip
    refine wl_gf rfl rfl (f_move rfl) ?_
    refine wl_gf rfl rfl (f_eql rfl rfl) ?_
    exact wl_pend rfl rfl ⟨rfl, trivial⟩ (List.Sublist.refl _)
  refine wl_f (f_move rfl) ?_
  refine wl_or (j := 22) (c := decide (((b : Nat) : Int) = 45)) 2 [] trivial rfl rfl rfl rfl rfl (fun hg1_25 => ?_) (fun w1_25 => ?_)
  · skip
    refine wl_gf rfl rfl (f_move rfl) ?_
    refine wl_gf rfl rfl (f_eql rfl rfl) ?_
    exact wl_pend rfl rfl trivial (List.Sublist.refl _)
  refine wl_f (f_assign rfl) ?_
  refine wl_end [(2, _)] ⟨rfl, trivial⟩ ?_
  refine w_ret ?_
  refine ⟨_, _, fun a ha hh => results_tmps Try.results54 rfl a ha _, List.Sublist.refl _, ?_⟩
  exact ⟨congrArg Value.bool (Bool.eq_iff_iff.2 (by simp only [nb, Bool.or_eq_true, Bool.and_eq_true, decide_eq_true_eq]; omega)), rfl⟩
theorem rletter_spec (b : Nat) (w : World) : Spec Try.prog 58 [.int .u8 b] w Nil fun r H => r = .bool (nb b) ∧ H = [] := by
  refine enter (n := 29) Try.func58 rfl rfl [(0, _)] rfl ⟨rfl, trivial⟩ (Holds.start _ _) ?_
  refine w_seq ?_
  refine w_reg ?_
  refine wl_f (f_assign rfl) ?_
  refine wl_end [(0, _)] ⟨rfl, trivial⟩ ?_
  refine w_seq ?_
  refine w_reg ?_
  refine wl_f (f_move rfl) ?_
  refine wl_f (f_geq rfl rfl) ?_
  refine wl_f (f_move rfl) ?_
  refine wl_and (j := 2) (c := decide (((b : Nat) : Int) ≤ 122)) 2 [(0, _)] ⟨rfl, trivial⟩ rfl rfl rfl rfl rfl (fun hg1_5 => ?_) (fun w1_5 => ?_)
  · skip
    refine wl_gf rfl rfl (f_move rfl) ?_
    refine wl_gf rfl rfl (f_leq rfl rfl) ?_
    exact wl_pend rfl rfl ⟨rfl, trivial⟩ (List.Sublist.refl _)
  refine wl_f (f_move rfl) ?_
  refine wl_or (j := 6) (c := decide ((48 : Int) ≤ ((b : Nat) : Int)) && decide (((b : Nat) : Int) ≤ 57)) 6 [(0, _)] ⟨rfl, trivial⟩ rfl rfl rfl rfl rfl (fun hg1_13 => ?_) (fun w1_13 => ?_)
  · skip
    refine wl_gf rfl rfl (f_move rfl) ?_
    refine wl_gf rfl rfl (f_geq rfl rfl) ?_
    refine wl_gf rfl rfl (f_move rfl) ?_
    refine wl_andg (j := 9) (c := decide (((b : Nat) : Int) ≤ 57)) 2 [(0, _), (9, _)] ⟨rfl, rfl, trivial⟩ rfl rfl rfl rfl rfl rfl rfl (fun hg1_12 => ?_) (fun w1_12 => ?_)
    · skip
      refine wl_gf rfl rfl (f_move rfl) ?_
      refine wl_gf rfl rfl (f_leq rfl rfl) ?_
      exact wl_pend rfl rfl ⟨rfl, rfl, trivial⟩ (List.Sublist.refl _)
    exact wl_pend rfl rfl ⟨rfl, trivial⟩ (List.Sublist.refl _)
  refine wl_f (f_move rfl) ?_
  refine wl_or (j := 14) (c := decide (((b : Nat) : Int) = 95)) 2 [(0, _)] ⟨rfl, trivial⟩ rfl rfl rfl rfl rfl (fun hg1_17 => ?_) (fun w1_17 => ?_)
  · skip
    refine wl_gf rfl rfl (f_move rfl) ?_
    refine wl_gf rfl rfl (f_eql rfl rfl) ?_
    exact wl_pend rfl rfl ⟨rfl, trivial⟩ (List.Sublist.refl _)
  refine wl_f (f_move rfl) ?_
  refine wl_or (j := 18) (c := decide (((b : Nat) : Int) = 46)) 2 [(0, _)] ⟨rfl, trivial⟩ rfl rfl rfl rfl rfl (fun hg1_21 => ?_) (fun w1_21 => ?_)
  · skip
    refine wl_gf rfl rfl (f_move rfl) ?_
    refine wl_gf rfl rfl (f_eql rfl rfl) ?_
    exact wl_pend rfl rfl ⟨rfl, trivial⟩ (List.Sublist.refl _)
  refine wl_f (f_move rfl) ?_
  refine wl_or (j := 22) (c := decide (((b : Nat) : Int) = 45)) 2 [] trivial rfl rfl rfl rfl rfl (fun hg1_25 => ?_) (fun w1_25 => ?_)
  · skip
    refine wl_gf rfl rfl (f_move rfl) ?_
    refine wl_gf rfl rfl (f_eql rfl rfl) ?_
    exact wl_pend rfl rfl trivial (List.Sublist.refl _)
  refine wl_f (f_assign rfl) ?_
  refine wl_end [(2, _)] ⟨rfl, trivial⟩ ?_
  refine w_ret ?_
  refine ⟨_, _, fun a ha hh => results_tmps Try.results58 rfl a ha _, List.Sublist.refl _, ?_⟩
  exact ⟨congrArg Value.bool (Bool.eq_iff_iff.2 (by simp only [nb, Bool.or_eq_true, Bool.and_eq_true, decide_eq_true_eq]; omega)), rfl⟩

def validE (t : Tg) : Int := if t.1.size = 0 then 3 else if (sb t.1).all nb then (if 32 < t.1.size ∨ 64 < t.2.size then 4 else 0) else 3
theorem size0 {s : ByteArray} (h : s.size = 0) : s = ⟨#[]⟩ := by
  cases s with
  | mk d => exact congrArg ByteArray.mk (Array.eq_empty_of_size_eq_zero h)
theorem sb_at (s : ByteArray) (i : Nat) (h : i < s.size) : ∃ b : UInt8, s.data[i]? = some b ∧ (sb s)[i]? = some b.toNat := by
  have h' : i < s.data.size := h
  exact ⟨s.data[i], by simp, by simp only [sb, List.getElem?_map, Array.getElem?_toList, Array.getElem?_eq_getElem h', Option.map_some]⟩
theorem take_all (s : ByteArray) (i : Nat) (b : UInt8) (h : (sb s)[i]? = some b.toNat) (ht : ((sb s).take i).all nb = true) : ((sb s).take (i + 1)).all nb = nb b.toNat := by
  rw [List.take_add_one, h, List.all_append, ht]
  simp
theorem all_false (s : ByteArray) (i : Nat) (b : UInt8) (h : (sb s)[i]? = some b.toNat) (hb : nb b.toNat = false) : (sb s).all nb = false := by
  rw [List.all_eq_false]
  exact ⟨b.toNat, List.mem_of_getElem? h, by simp [hb]⟩

theorem valid_spec (t : Tg) (w : World) (hn : t.1.size ≤ 140737488355328) : Spec Try.prog 48 [.agg #[.string t.1, .string t.2]] w Nil fun r H => r = .int .i64 (validE t) ∧ H = [] := by
  refine enter (n := 30) Try.func48 rfl rfl [(0, _)] rfl ⟨rfl, trivial⟩ (Holds.start _ _) ?_
  refine w_seq ?_
  refine w_reg ?_
  refine wl_e (e_box (cs := [_, _]) rfl rfl) ?_
  rintro _ _ w0_0 ⟨b0_0, rfl, rfl⟩
  refine wl_f (f_assign rfl) ?_
  refine wl_end [(1, _)] ⟨rfl, trivial⟩ ?_
  refine w_seq ?_
  refine w_seq ?_
  refine w_reg ?_
  refine wl_f (f_fieldAddr 0 rfl Try.underlying52 rfl rfl (by kernel_rfl)) ?_
  (first | refine wl_f (f_loadb 0 rfl Try.underlying9 rfl rfl rfl) ?_ | refine wl_f (f_loadb 1 rfl Try.underlying9 rfl rfl rfl) ?_ | refine wl_f (f_loadb 2 rfl Try.underlying9 rfl rfl rfl) ?_ | refine wl_f (f_loadb 3 rfl Try.underlying9 rfl rfl rfl) ?_ | refine wl_f (f_loadb 4 rfl Try.underlying9 rfl rfl rfl) ?_ | refine wl_f (f_loadb 5 rfl Try.underlying9 rfl rfl rfl) ?_ | refine wl_f (f_loadb 6 rfl Try.underlying9 rfl rfl rfl) ?_)
  refine wl_f (f_eqls rfl rfl) ?_
  refine wl_end [(1, _), (6, _)] ⟨rfl, rfl, trivial⟩ ?_
  refine w_ifd rfl (fun hc1 => ?_) (fun hc1 => ?_)
  · skip
    refine w_seq ?_
    refine w_reg ?_
    refine wl_f (f_assign rfl) ?_
    refine wl_end [(2, _)] ⟨rfl, trivial⟩ ?_
    refine w_drop [] (List.nil_sublist _) ?_
    refine w_ret ?_
    refine ⟨_, _, fun a ha hh => results_tmps Try.results48 rfl a ha _, List.Sublist.refl _, ?_⟩
    exact ⟨by rw [validE, if_pos (by rw [hc1]; rfl)]; rfl, rfl⟩
  · skip
    refine w_skip ?_
    refine w_seq ?_
    refine w_seq ?_
    refine w_reg ?_
    refine wl_f (f_fieldAddr 0 rfl Try.underlying52 rfl rfl (by kernel_rfl)) ?_
    (first | refine wl_f (f_loadb 0 rfl Try.underlying9 rfl rfl rfl) ?_ | refine wl_f (f_loadb 1 rfl Try.underlying9 rfl rfl rfl) ?_ | refine wl_f (f_loadb 2 rfl Try.underlying9 rfl rfl rfl) ?_ | refine wl_f (f_loadb 3 rfl Try.underlying9 rfl rfl rfl) ?_ | refine wl_f (f_loadb 4 rfl Try.underlying9 rfl rfl rfl) ?_ | refine wl_f (f_loadb 5 rfl Try.underlying9 rfl rfl rfl) ?_ | refine wl_f (f_loadb 6 rfl Try.underlying9 rfl rfl rfl) ?_)
    refine wl_f (f_lens rfl Try.underlying9) ?_
    refine wl_f (f_move rfl) ?_
    refine wl_end [(1, _), (9, _), (10, _)] ⟨rfl, rfl, rfl, trivial⟩ ?_
    refine w_block ?_
    refine w_loop (fun k m H w => ∃ i : Nat, m = [(1, .pointer (some ⟨b0_0, 0, .none⟩)), (9, .int .i64 t.1.size), (10, .int .i64 i)] ∧ H = [blk b0_0 [.string t.1, .string t.2] 52] ∧ k + i = t.1.size ∧ ((sb t.1).take i).all nb = true) t.1.size ⟨0, rfl, rfl, rfl, by simp⟩ ?_
    rintro k _ _ w' ⟨i, rfl, rfl, hk, hok⟩
    refine w_seq ?_
    refine w_reg ?_
    refine wl_f (f_lss rfl rfl) ?_
    refine wl_end [(1, _), (9, _), (10, _), (11, _)] ⟨rfl, rfl, rfl, rfl, trivial⟩ ?_
    refine w_seq ?_
    refine w_ifd rfl (fun hc2 => ?_) (fun hc2 => ?_)
    · skip
      obtain ⟨b, hb1, hb2⟩ := sb_at t.1 i (by omega)
      refine w_skip ?_
      refine w_seq ?_
      refine w_block ?_
      refine w_seq ?_
      refine w_reg ?_
      refine wl_f (f_move rfl) ?_
      refine wl_f (f_assign rfl) ?_
      refine wl_end [(1, _), (3, _), (9, _), (10, _)] ⟨rfl, rfl, rfl, rfl, trivial⟩ ?_
      refine w_seq ?_
      refine w_reg ?_
      refine wl_f (f_fieldAddr 0 rfl Try.underlying52 rfl rfl (by kernel_rfl)) ?_
      (first | refine wl_f (f_loadb 0 rfl Try.underlying9 rfl rfl rfl) ?_ | refine wl_f (f_loadb 1 rfl Try.underlying9 rfl rfl rfl) ?_ | refine wl_f (f_loadb 2 rfl Try.underlying9 rfl rfl rfl) ?_ | refine wl_f (f_loadb 3 rfl Try.underlying9 rfl rfl rfl) ?_ | refine wl_f (f_loadb 4 rfl Try.underlying9 rfl rfl rfl) ?_ | refine wl_f (f_loadb 5 rfl Try.underlying9 rfl rfl rfl) ?_ | refine wl_f (f_loadb 6 rfl Try.underlying9 rfl rfl rfl) ?_)
      refine wl_f (f_move rfl) ?_
      refine wl_f (f_indexs rfl rfl Try.underlying9 rfl hb1) ?_
      refine wl_e (e_call0 rfl Try.func54 (by kernel_rfl) (fun w hh => letter_spec _ w)) ?_
      rintro _ _ w2 ⟨_, rfl, rfl, rfl⟩
      refine wl_f (f_not rfl rfl) ?_
      refine wl_end [(1, _), (9, _), (10, _), (18, _)] ⟨rfl, rfl, rfl, rfl, trivial⟩ ?_
      refine w_ifb rfl (fun hc3 => ?_) (fun hc3 => ?_)
      · skip
        refine w_seq ?_
        refine w_reg ?_
        refine wl_f (f_assign rfl) ?_
        refine wl_end [(2, _)] ⟨rfl, trivial⟩ ?_
        refine w_drop [] (List.nil_sublist _) ?_
        refine w_ret ?_
        refine ⟨_, _, fun a ha hh => results_tmps Try.results48 rfl a ha _, List.Sublist.refl _, ?_⟩
        exact ⟨by simp [validE, all_false _ i b hb2 (by simpa using hc3), tup], rfl⟩
      · skip
        refine w_skip ?_
        refine w_reg ?_
        refine wl_f (f_add rfl rfl (by omega)) ?_
        refine wl_f (f_move rfl) ?_
        refine wl_end [(1, _), (9, _), (10, _)] ⟨rfl, rfl, rfl, trivial⟩ ?_
        exact ⟨k - 1, by omega, i + 1, rfl, rfl, by omega, by rw [take_all _ i b hb2 hok]; simpa using hc3⟩
    · skip
      rw [List.take_of_length_le (by rw [sb_len]; omega)] at hok
      refine w_exit0 ?_
      refine w_seq ?_
      refine w_seq ?_
      refine w_reg ?_
      refine wl_f (f_fieldAddr 0 rfl Try.underlying52 rfl rfl (by kernel_rfl)) ?_
      (first | refine wl_f (f_loadb 0 rfl Try.underlying9 rfl rfl rfl) ?_ | refine wl_f (f_loadb 1 rfl Try.underlying9 rfl rfl rfl) ?_ | refine wl_f (f_loadb 2 rfl Try.underlying9 rfl rfl rfl) ?_ | refine wl_f (f_loadb 3 rfl Try.underlying9 rfl rfl rfl) ?_ | refine wl_f (f_loadb 4 rfl Try.underlying9 rfl rfl rfl) ?_ | refine wl_f (f_loadb 5 rfl Try.underlying9 rfl rfl rfl) ?_ | refine wl_f (f_loadb 6 rfl Try.underlying9 rfl rfl rfl) ?_)
      refine wl_f (f_lens rfl Try.underlying9) ?_
      refine wl_f (f_gtr rfl rfl) ?_
      refine wl_f (f_move rfl) ?_
      refine wl_or (j := 4) (c := decide (64 < (t.2.size : Int))) 4 [] trivial rfl rfl rfl rfl rfl (fun hg9_9 => ?_) (fun w9_9 => ?_)
      · skip
        refine wl_gf rfl rfl (f_fieldAddr 1 rfl Try.underlying52 rfl rfl (by kernel_rfl)) ?_
        (first | refine wl_gf rfl rfl (f_loadb 0 rfl Try.underlying9 rfl rfl rfl) ?_ | refine wl_gf rfl rfl (f_loadb 1 rfl Try.underlying9 rfl rfl rfl) ?_ | refine wl_gf rfl rfl (f_loadb 2 rfl Try.underlying9 rfl rfl rfl) ?_ | refine wl_gf rfl rfl (f_loadb 3 rfl Try.underlying9 rfl rfl rfl) ?_ | refine wl_gf rfl rfl (f_loadb 4 rfl Try.underlying9 rfl rfl rfl) ?_ | refine wl_gf rfl rfl (f_loadb 5 rfl Try.underlying9 rfl rfl rfl) ?_ | refine wl_gf rfl rfl (f_loadb 6 rfl Try.underlying9 rfl rfl rfl) ?_)
        refine wl_gf rfl rfl (f_lens rfl Try.underlying9) ?_
        refine wl_gf rfl rfl (f_gtr rfl rfl) ?_
        exact wl_pend rfl rfl trivial (List.Sublist.refl _)
      refine wl_end [(29, _)] ⟨rfl, trivial⟩ ?_
      refine w_ifb rfl (fun hc4 => ?_) (fun hc4 => ?_)
      · skip
        refine w_seq ?_
        refine w_reg ?_
        refine wl_f (f_assign rfl) ?_
        refine wl_end [(2, _)] ⟨rfl, trivial⟩ ?_
        refine w_drop [] (List.nil_sublist _) ?_
        refine w_ret ?_
        refine ⟨_, _, fun a ha hh => results_tmps Try.results48 rfl a ha _, List.Sublist.refl _, ?_⟩
        have h0 : ¬ t.1.size = 0 := fun h => hc1 (size0 h)
        simp only [Bool.or_eq_true, decide_eq_true_eq] at hc4
        exact ⟨by rw [validE, if_neg h0, if_pos hok, if_pos (by omega)]; rfl, rfl⟩
      · skip
        refine w_skip ?_
        refine w_seq ?_
        refine w_reg ?_
        refine wl_f (f_assign rfl) ?_
        refine wl_end [(2, _)] ⟨rfl, trivial⟩ ?_
        refine w_drop [] (List.nil_sublist _) ?_
        refine w_ret ?_
        refine ⟨_, _, fun a ha hh => results_tmps Try.results48 rfl a ha _, List.Sublist.refl _, ?_⟩
        have h0 : ¬ t.1.size = 0 := fun h => hc1 (size0 h)
        simp only [Bool.or_eq_true, decide_eq_true_eq] at hc4
        exact ⟨by rw [validE, if_neg h0, if_pos hok, if_neg (by omega)]; rfl, rfl⟩

theorem rvalid_spec (t : Tg) (w : World) (hn : t.1.size ≤ 140737488355328) : Spec Try.prog 53 [.agg #[.string t.1, .string t.2]] w Nil fun r H => r = .int .i64 (validE t) ∧ H = [] := by
  refine enter (n := 30) Try.func53 rfl rfl [(0, _)] rfl ⟨rfl, trivial⟩ (Holds.start _ _) ?_
  refine w_seq ?_
  refine w_reg ?_
  refine wl_e (e_box (cs := [_, _]) rfl rfl) ?_
  rintro _ _ w0_0 ⟨b0_0, rfl, rfl⟩
  refine wl_f (f_assign rfl) ?_
  refine wl_end [(1, _)] ⟨rfl, trivial⟩ ?_
  refine w_seq ?_
  refine w_seq ?_
  refine w_reg ?_
  refine wl_f (f_assign rfl) ?_
  refine wl_end [(1, _), (3, _)] ⟨rfl, rfl, trivial⟩ ?_
  refine w_block ?_
  refine w_loop (fun k m H w => ∃ i : Nat, m = [(1, .pointer (some ⟨b0_0, 0, .none⟩)), (3, .int .i64 i)] ∧ H = [blk b0_0 [.string t.1, .string t.2] 52] ∧ k + i = t.1.size ∧ ((sb t.1).take i).all nb = true) t.1.size ⟨0, rfl, rfl, rfl, by simp⟩ ?_
  rintro k _ _ w' ⟨i, rfl, rfl, hk, hok⟩
  refine w_seq ?_
  refine w_seq ?_
  refine w_reg ?_
  refine wl_f (f_move rfl) ?_
  refine wl_f (f_fieldAddr 0 rfl Try.underlying52 rfl rfl (by kernel_rfl)) ?_
  (first | refine wl_f (f_loadb 0 rfl Try.underlying9 rfl rfl rfl) ?_ | refine wl_f (f_loadb 1 rfl Try.underlying9 rfl rfl rfl) ?_ | refine wl_f (f_loadb 2 rfl Try.underlying9 rfl rfl rfl) ?_ | refine wl_f (f_loadb 3 rfl Try.underlying9 rfl rfl rfl) ?_ | refine wl_f (f_loadb 4 rfl Try.underlying9 rfl rfl rfl) ?_ | refine wl_f (f_loadb 5 rfl Try.underlying9 rfl rfl rfl) ?_ | refine wl_f (f_loadb 6 rfl Try.underlying9 rfl rfl rfl) ?_)
  refine wl_f (f_lens rfl Try.underlying9) ?_
  refine wl_f (f_lss rfl rfl) ?_
  refine wl_end [(1, _), (3, _), (8, _)] ⟨rfl, rfl, rfl, trivial⟩ ?_
  refine w_ifd rfl (fun hc1 => ?_) (fun hc1 => ?_)
  · skip
    obtain ⟨b, hb1, hb2⟩ := sb_at t.1 i (by omega)
    refine w_skip ?_
    refine w_seq ?_
    refine w_block ?_
    refine w_seq ?_
    refine w_reg ?_
    refine wl_f (f_fieldAddr 0 rfl Try.underlying52 rfl rfl (by kernel_rfl)) ?_
    (first | refine wl_f (f_loadb 0 rfl Try.underlying9 rfl rfl rfl) ?_ | refine wl_f (f_loadb 1 rfl Try.underlying9 rfl rfl rfl) ?_ | refine wl_f (f_loadb 2 rfl Try.underlying9 rfl rfl rfl) ?_ | refine wl_f (f_loadb 3 rfl Try.underlying9 rfl rfl rfl) ?_ | refine wl_f (f_loadb 4 rfl Try.underlying9 rfl rfl rfl) ?_ | refine wl_f (f_loadb 5 rfl Try.underlying9 rfl rfl rfl) ?_ | refine wl_f (f_loadb 6 rfl Try.underlying9 rfl rfl rfl) ?_)
    refine wl_f (f_move rfl) ?_
    refine wl_f (f_indexs rfl rfl Try.underlying9 rfl hb1) ?_
    refine wl_e (e_call0 rfl Try.func58 (by kernel_rfl) (fun w hh => rletter_spec _ w)) ?_
    rintro _ _ w2 ⟨_, rfl, rfl, rfl⟩
    refine wl_f (f_not rfl rfl) ?_
    refine wl_end [(1, _), (3, _), (16, _)] ⟨rfl, rfl, rfl, trivial⟩ ?_
    refine w_ifb rfl (fun hc2 => ?_) (fun hc2 => ?_)
    · skip
      refine w_seq ?_
      refine w_reg ?_
      refine wl_f (f_assign rfl) ?_
      refine wl_end [(2, _)] ⟨rfl, trivial⟩ ?_
      refine w_drop [] (List.nil_sublist _) ?_
      refine w_ret ?_
      refine ⟨_, _, fun a ha hh => results_tmps Try.results53 rfl a ha _, List.Sublist.refl _, ?_⟩
      exact ⟨by simp [validE, all_false _ i b hb2 (by simpa using hc2), tup], rfl⟩
    · skip
      refine w_skip ?_
      refine w_reg ?_
      refine wl_f (f_move rfl) ?_
      refine wl_f (f_add rfl rfl (by omega)) ?_
      refine wl_f (f_assign rfl) ?_
      refine wl_end [(1, _), (3, _)] ⟨rfl, rfl, trivial⟩ ?_
      exact ⟨k - 1, by omega, i + 1, rfl, rfl, by omega, by rw [take_all _ i b hb2 hok]; simpa using hc2⟩
  · skip
    rw [List.take_of_length_le (by rw [sb_len]; omega)] at hok
    refine w_exit0 ?_
    refine w_seq ?_
    refine w_seq ?_
    refine w_reg ?_
    refine wl_f (f_fieldAddr 0 rfl Try.underlying52 rfl rfl (by kernel_rfl)) ?_
    (first | refine wl_f (f_loadb 0 rfl Try.underlying9 rfl rfl rfl) ?_ | refine wl_f (f_loadb 1 rfl Try.underlying9 rfl rfl rfl) ?_ | refine wl_f (f_loadb 2 rfl Try.underlying9 rfl rfl rfl) ?_ | refine wl_f (f_loadb 3 rfl Try.underlying9 rfl rfl rfl) ?_ | refine wl_f (f_loadb 4 rfl Try.underlying9 rfl rfl rfl) ?_ | refine wl_f (f_loadb 5 rfl Try.underlying9 rfl rfl rfl) ?_ | refine wl_f (f_loadb 6 rfl Try.underlying9 rfl rfl rfl) ?_)
    refine wl_f (f_eqls rfl rfl) ?_
    refine wl_end [(1, _), (19, _)] ⟨rfl, rfl, trivial⟩ ?_
    refine w_ifd rfl (fun hc3 => ?_) (fun hc3 => ?_)
    · skip
      refine w_seq ?_
      refine w_reg ?_
      refine wl_f (f_assign rfl) ?_
      refine wl_end [(2, _)] ⟨rfl, trivial⟩ ?_
      refine w_drop [] (List.nil_sublist _) ?_
      refine w_ret ?_
      refine ⟨_, _, fun a ha hh => results_tmps Try.results53 rfl a ha _, List.Sublist.refl _, ?_⟩
      exact ⟨by rw [validE, if_pos (by rw [hc3]; rfl)]; rfl, rfl⟩
    · skip
      refine w_skip ?_
      refine w_seq ?_
      refine w_seq ?_
      refine w_reg ?_
      refine wl_f (f_fieldAddr 0 rfl Try.underlying52 rfl rfl (by kernel_rfl)) ?_
      (first | refine wl_f (f_loadb 0 rfl Try.underlying9 rfl rfl rfl) ?_ | refine wl_f (f_loadb 1 rfl Try.underlying9 rfl rfl rfl) ?_ | refine wl_f (f_loadb 2 rfl Try.underlying9 rfl rfl rfl) ?_ | refine wl_f (f_loadb 3 rfl Try.underlying9 rfl rfl rfl) ?_ | refine wl_f (f_loadb 4 rfl Try.underlying9 rfl rfl rfl) ?_ | refine wl_f (f_loadb 5 rfl Try.underlying9 rfl rfl rfl) ?_ | refine wl_f (f_loadb 6 rfl Try.underlying9 rfl rfl rfl) ?_)
      refine wl_f (f_lens rfl Try.underlying9) ?_
      refine wl_f (f_gtr rfl rfl) ?_
      refine wl_f (f_move rfl) ?_
      refine wl_or (j := 4) (c := decide (64 < (t.2.size : Int))) 4 [] trivial rfl rfl rfl rfl rfl (fun hg8_9 => ?_) (fun w8_9 => ?_)
      · skip
        refine wl_gf rfl rfl (f_fieldAddr 1 rfl Try.underlying52 rfl rfl (by kernel_rfl)) ?_
        (first | refine wl_gf rfl rfl (f_loadb 0 rfl Try.underlying9 rfl rfl rfl) ?_ | refine wl_gf rfl rfl (f_loadb 1 rfl Try.underlying9 rfl rfl rfl) ?_ | refine wl_gf rfl rfl (f_loadb 2 rfl Try.underlying9 rfl rfl rfl) ?_ | refine wl_gf rfl rfl (f_loadb 3 rfl Try.underlying9 rfl rfl rfl) ?_ | refine wl_gf rfl rfl (f_loadb 4 rfl Try.underlying9 rfl rfl rfl) ?_ | refine wl_gf rfl rfl (f_loadb 5 rfl Try.underlying9 rfl rfl rfl) ?_ | refine wl_gf rfl rfl (f_loadb 6 rfl Try.underlying9 rfl rfl rfl) ?_)
        refine wl_gf rfl rfl (f_lens rfl Try.underlying9) ?_
        refine wl_gf rfl rfl (f_gtr rfl rfl) ?_
        exact wl_pend rfl rfl trivial (List.Sublist.refl _)
      refine wl_end [(29, _)] ⟨rfl, trivial⟩ ?_
      refine w_ifb rfl (fun hc4 => ?_) (fun hc4 => ?_)
      · skip
        refine w_seq ?_
        refine w_reg ?_
        refine wl_f (f_assign rfl) ?_
        refine wl_end [(2, _)] ⟨rfl, trivial⟩ ?_
        refine w_drop [] (List.nil_sublist _) ?_
        refine w_ret ?_
        refine ⟨_, _, fun a ha hh => results_tmps Try.results53 rfl a ha _, List.Sublist.refl _, ?_⟩
        have h0 : ¬ t.1.size = 0 := fun h => hc3 (size0 h)
        simp only [Bool.or_eq_true, decide_eq_true_eq] at hc4
        exact ⟨by rw [validE, if_neg h0, if_pos hok, if_pos (by omega)]; rfl, rfl⟩
      · skip
        refine w_skip ?_
        refine w_seq ?_
        refine w_reg ?_
        refine wl_f (f_assign rfl) ?_
        refine wl_end [(2, _)] ⟨rfl, trivial⟩ ?_
        refine w_drop [] (List.nil_sublist _) ?_
        refine w_ret ?_
        refine ⟨_, _, fun a ha hh => results_tmps Try.results53 rfl a ha _, List.Sublist.refl _, ?_⟩
        have h0 : ¬ t.1.size = 0 := fun h => hc3 (size0 h)
        simp only [Bool.or_eq_true, decide_eq_true_eq] at hc4
        exact ⟨by rw [validE, if_neg h0, if_pos hok, if_neg (by omega)]; rfl, rfl⟩
end Go.Proofs.Ythbjjfpikfmmnaa
