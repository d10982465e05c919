/- The reader of the decoder: a number, a text. -/
import Derived.Test.YthbjjfpikfmmnaaD18
import Derived.Test.YthbjjfpikfmmnaaD13
namespace Go.Proofs.Ythbjjfpikfmmnaa
open Go.RowKit

/-! ### What they do: the state is how many bytes are used, and the error -/
def numF (all : List Nat) (most : Nat) (over : Int) (s : Nat × Int) : Nat × (Nat × Int) :=
  if s.2 ≠ 0 then (0, s) else
  if (readL (all.drop s.1)).2.2 ≠ 0 then (0, (s.1, (readL (all.drop s.1)).2.2)) else
  if most < (readL (all.drop s.1)).1 then (0, (s.1, over)) else ((readL (all.drop s.1)).1, (s.1 + (readL (all.drop s.1)).2.1, 0))
def textF (all : List Nat) (s : Nat × Int) : ByteArray × (Nat × Int) :=
  let x := numF all 4096 4 s
  if x.2.2 ≠ 0 then (⟨#[]⟩, x.2) else if all.length - x.2.1 < x.1 then (⟨#[]⟩, (x.2.1, 2)) else (str ((all.drop x.2.1).take x.1), (x.2.1 + x.1, 0))

theorem rd_used : ∀ (l : List Nat) (i acc : Nat), (rd l i acc).2.1 ≤ i + l.length
  | [], i, acc => by simp only [rd]; split <;> simp
  | b :: l, i, acc => by
    simp only [rd]
    split
    · simp
    split
    · simp
    split
    · have := rd_used l (i + 1) (acc + b % 128 * 128 ^ i); simp only [List.length_cons]; omega
    split
    · simp
    · simp only [List.length_cons]; omega
theorem readL_used (xs : List Nat) : (readL xs).2.1 ≤ xs.length := by have := rd_used xs 0 0; unfold readL; omega
theorem numF_le (all : List Nat) (most : Nat) (over : Int) (s : Nat × Int) : (numF all most over s).1 ≤ most := by
  unfold numF
  split
  · exact Nat.zero_le _
  split
  · exact Nat.zero_le _
  split
  · exact Nat.zero_le _
  · show (readL (all.drop s.1)).1 ≤ most; omega
theorem numF_used (all : List Nat) (most : Nat) (over : Int) (s : Nat × Int) (h : s.1 ≤ all.length) : (numF all most over s).2.1 ≤ all.length := by
  have := readL_used (all.drop s.1)
  rw [List.length_drop] at this
  unfold numF
  split
  · exact h
  split
  · exact h
  split
  · exact h
  · show s.1 + (readL (all.drop s.1)).2.1 ≤ _; omega
theorem textF_used (all : List Nat) (s : Nat × Int) (h : s.1 ≤ all.length) : (textF all s).2.1 ≤ all.length := by
  have := numF_used all 4096 4 s h
  unfold textF
  simp only
  split
  · exact this
  split
  · exact this
  · show (numF all 4096 4 s).2.1 + (numF all 4096 4 s).1 ≤ _; omega

theorem drop_bytes {w : World} {A : Option Addr} {c q : Nat} {bl : List Nat} (h : Rd w Nil 1 (.slice A bl.length c) bl.length (bv bl)) (hq : q ≤ bl.length) :
    Rd w Nil 1 (.slice (if c = q then A else A.map (·.add (q * 1))) (bl.length - q) (c - q)) (bl.drop q).length (bv (bl.drop q)) := by
  have := h.cut (l := q) (u := bl.length) hq (Nat.le_refl _)
  have e2 : bl.length - q = (bl.drop q).length := by rw [List.length_drop]
  have e1 : ((bv bl).drop (q * 1)).take ((bl.length - q) * 1) = bv (bl.drop q) := by
    rw [Nat.mul_one, Nat.mul_one, List.take_of_length_le (by rw [List.length_drop, bv_len]; omega)]
    simp [bv, List.map_drop]
  rw [e1] at this
  rwa [e2] at this ⊢
theorem mid_bytes {w : World} {A : Option Addr} {c p q : Nat} {bl : List Nat} (h : Rd w Nil 1 (.slice A bl.length c) bl.length (bv bl)) (hpq : p ≤ q) (hq : q ≤ bl.length) :
    Rd w Nil 1 (.slice (if c = p then A else A.map (·.add (p * 1))) (q - p) (c - p)) ((bl.drop p).take (q - p)).length (bv ((bl.drop p).take (q - p))) := by
  have := h.cut (l := p) (u := q) hpq hq
  have e2 : q - p = ((bl.drop p).take (q - p)).length := by rw [List.length_take, List.length_drop]; omega
  have e1 : ((bv bl).drop (p * 1)).take ((q - p) * 1) = bv ((bl.drop p).take (q - p)) := by
    simp [bv, List.map_drop, List.map_take]
  rw [e1] at this
  rwa [← e2]

def rdr (b : Nat) (V : Value) (s : Nat × Int) : Res := blk b [V, .int .i64 (s.1 : Int), .int .i64 s.2] 74

set_option maxHeartbeats 1000000 in
theorem number_spec (b : Nat) (A : Option Addr) (c : Nat) (all : List Nat) (s : Nat × Int) (most : Nat) (over : Int) (w : World) (hV : Rd w (fun k => k = b) 1 (.slice A all.length c) all.length (bv all))
    (hn : all.length ≤ 140737488355328) (hb : ∀ x ∈ all, x < 256) (hu : s.1 ≤ all.length) (hs : Holds w (rdr b (.slice A all.length c) s).foot [rdr b (.slice A all.length c) s] w) :
    Spec Try.prog 39 [.pointer (some ⟨b, 0, .none⟩), .int .u64 most, .int .i64 over] w (rdr b (.slice A all.length c) s).foot
      fun r H => r = .int .u64 ((numF all most over s).1 : Int) ∧ H = [rdr b (.slice A all.length c) (numF all most over s).2] := by
  have hcn : all.length ≤ c := by
    obtain ⟨_, _, e, _, h, _⟩ := id hV
    injection e with _ _ e
    subst e
    exact h
  have hbd : ∀ x ∈ all.drop s.1, x < 256 := fun x hx => hb x (List.mem_of_mem_drop hx)
  have hru := readL_used (all.drop s.1)
  rw [List.length_drop] at hru
  refine enter (n := 51) Try.func39 rfl rfl [(0, _), (1, _), (2, _)] rfl ⟨rfl, rfl, rfl, trivial⟩ hs ?_
  refine w_seq ?_
  refine w_reg ?_
  refine wl_f (f_assign rfl) ?_
  refine wl_end [(0, _), (1, _), (2, _)] ⟨rfl, rfl, rfl, trivial⟩ ?_
  refine w_seq ?_
  refine w_seq ?_
  refine w_reg ?_
  refine wl_f (f_move rfl) ?_
  refine wl_f (f_nilCheck rfl) ?_
  refine wl_f (f_fieldAddr 2 rfl Try.underlying74 rfl rfl (by kernel_rfl)) ?_
  (first | refine wl_f (f_loadb 0 rfl Try.underlying25 rfl rfl rfl) ?_ | refine wl_f (f_loadb 1 rfl Try.underlying25 rfl rfl rfl) ?_ | refine wl_f (f_loadb 2 rfl Try.underlying25 rfl rfl rfl) ?_ | refine wl_f (f_loadb 3 rfl Try.underlying25 rfl rfl rfl) ?_ | refine wl_f (f_loadb 4 rfl Try.underlying25 rfl rfl rfl) ?_ | refine wl_f (f_loadb 5 rfl Try.underlying25 rfl rfl rfl) ?_ | refine wl_f (f_loadb 6 rfl Try.underlying25 rfl rfl rfl) ?_)
  refine wl_f (f_neq rfl rfl) ?_
  refine wl_end [(0, _), (1, _), (2, _), (14, _)] ⟨rfl, rfl, rfl, rfl, trivial⟩ ?_
  refine w_ifd rfl (fun hc1 => ?_) (fun hc1 => ?_)
  · skip
    refine w_seq ?_
    refine w_reg ?_
    refine wl_f (f_assign rfl) ?_
    refine wl_end [(6, _)] ⟨rfl, trivial⟩ ?_
    refine w_ret ?_
    refine ⟨_, _, fun a ha hh => results_tmps Try.results39 rfl a ha _, List.Sublist.refl _, ?_⟩
    exact ⟨by rw [numF, if_pos hc1]; rfl, by rw [numF, if_pos hc1]⟩
  · skip
    refine w_skip ?_
    refine w_seq ?_
    refine w_draw [(0, true), (1, true), (2, true), (3, true), (4, true), (5, true), (6, true), (7, true), (8, true), (9, false), (10, true), (11, true), (12, true), (13, true), (14, true), (15, true), (16, true)] (_) ([]) mixed (by kernel_rfl) (by kernel_rfl) rfl (perm_all _) (fun w3_ => ?_)
    refine wd_f rfl (f_move rfl) ?_
    refine wd_f rfl (f_nilCheck rfl) ?_
    refine wd_f rfl (f_fieldAddr 0 rfl Try.underlying74 rfl rfl (by kernel_rfl)) ?_
    (first | refine wd_f rfl (f_loadb 0 rfl Try.underlying22 rfl rfl rfl) ?_ | refine wd_f rfl (f_loadb 1 rfl Try.underlying22 rfl rfl rfl) ?_ | refine wd_f rfl (f_loadb 2 rfl Try.underlying22 rfl rfl rfl) ?_ | refine wd_f rfl (f_loadb 3 rfl Try.underlying22 rfl rfl rfl) ?_ | refine wd_f rfl (f_loadb 4 rfl Try.underlying22 rfl rfl rfl) ?_ | refine wd_f rfl (f_loadb 5 rfl Try.underlying22 rfl rfl rfl) ?_ | refine wd_f rfl (f_loadb 6 rfl Try.underlying22 rfl rfl rfl) ?_)
    refine wd_f rfl (f_move rfl) ?_
    refine wd_f rfl (f_nilCheck rfl) ?_
    refine wd_f rfl (f_fieldAddr 1 rfl Try.underlying74 rfl rfl (by kernel_rfl)) ?_
    (first | refine wd_f rfl (f_loadb 0 rfl Try.underlying3 rfl rfl rfl) ?_ | refine wd_f rfl (f_loadb 1 rfl Try.underlying3 rfl rfl rfl) ?_ | refine wd_f rfl (f_loadb 2 rfl Try.underlying3 rfl rfl rfl) ?_ | refine wd_f rfl (f_loadb 3 rfl Try.underlying3 rfl rfl rfl) ?_ | refine wd_f rfl (f_loadb 4 rfl Try.underlying3 rfl rfl rfl) ?_ | refine wd_f rfl (f_loadb 5 rfl Try.underlying3 rfl rfl rfl) ?_ | refine wd_f rfl (f_loadb 6 rfl Try.underlying3 rfl rfl rfl) ?_)
    refine wd_f rfl (f_sliceA 1 (l := s.1) (u := all.length) rfl Try.underlying22 (by kernel_rfl) ⟨_, rfl⟩ rfl hu hcn) ?_
    refine wd_e rfl (e_call0 rfl Try.func21 (by kernel_rfl) (fun w hh => read_spec _ (all.drop s.1) w (drop_bytes (hV.old0 hh) hu) (by rw [List.length_drop]; omega) hbd)) ?_
    rintro _ _ w1 ⟨_, rfl, rfl, rfl⟩
    refine ⟨_, List.Perm.refl _, ?_⟩
    refine wd_f rfl (f_move rfl) ?_
    refine wd_f rfl (f_extract rfl rfl) ?_
    refine wd_f rfl (f_extract rfl rfl) ?_
    refine wd_f rfl (f_extract rfl rfl) ?_
    refine wd_f rfl (f_assign rfl) ?_
    refine wd_f rfl (f_assign rfl) ?_
    refine wd_f rfl (f_assign rfl) ?_
    refine wd_end [(0, _), (1, _), (2, _), (7, _), (8, _), (9, _)] ⟨rfl, rfl, rfl, rfl, rfl, rfl, trivial⟩ ?_
    refine w_seq ?_
    refine w_seq ?_
    refine w_reg ?_
    refine wl_f (f_move rfl) ?_
    refine wl_f (f_neq rfl rfl) ?_
    refine wl_end [(0, _), (1, _), (2, _), (7, _), (8, _), (9, _), (30, _)] ⟨rfl, rfl, rfl, rfl, rfl, rfl, rfl, trivial⟩ ?_
    refine w_ifd rfl (fun hc2 => ?_) (fun hc2 => ?_)
    · skip
      have hnf : numF all most over s = (0, (s.1, (readL (all.drop s.1)).2.2)) := by rw [numF, if_neg hc1, if_pos hc2]
      refine w_seq ?_
      refine w_reg ?_
      refine wl_f (f_move rfl) ?_
      refine wl_f (f_move rfl) ?_
      refine wl_f (f_nilCheck rfl) ?_
      refine wl_f (f_fieldAddr 2 rfl Try.underlying74 rfl rfl (by kernel_rfl)) ?_
      (first | refine wl_e0 (e_store0 (us := [_]) rfl rfl rfl (by kernel_rfl) (by simp [Value.oneCell']) rfl rfl) ?_ | refine wl_e0 (e_store1 (us := [_]) rfl rfl rfl (by kernel_rfl) (by simp [Value.oneCell']) rfl rfl) ?_ | refine wl_e0 (e_store2 (us := [_]) rfl rfl rfl (by kernel_rfl) (by simp [Value.oneCell']) rfl rfl) ?_ | refine wl_e0 (e_store3 (us := [_]) rfl rfl rfl (by kernel_rfl) (by simp [Value.oneCell']) rfl rfl) ?_)
      rintro _ _ w5_4 rfl
      refine wl_end [] trivial ?_
      refine w_seq ?_
      refine w_reg ?_
      refine wl_f (f_assign rfl) ?_
      refine wl_end [(6, _)] ⟨rfl, trivial⟩ ?_
      refine w_ret ?_
      refine ⟨_, _, fun a ha hh => results_tmps Try.results39 rfl a ha _, List.Sublist.refl _, ?_⟩
      exact ⟨by rw [hnf]; rfl, by rw [hnf]; rfl⟩
    · skip
      refine w_skip ?_
      refine w_seq ?_
      refine w_seq ?_
      refine w_reg ?_
      refine wl_f (f_move rfl) ?_
      refine wl_f (f_move rfl) ?_
      refine wl_f (f_gtr rfl rfl) ?_
      refine wl_end [(0, _), (2, _), (7, _), (8, _), (37, _)] ⟨rfl, rfl, rfl, rfl, rfl, trivial⟩ ?_
      refine w_ifd rfl (fun hc3 => ?_) (fun hc3 => ?_)
      · skip
        have hnf : numF all most over s = (0, (s.1, over)) := by rw [numF, if_neg hc1, if_neg hc2, if_pos (by omega)]
        refine w_seq ?_
        refine w_reg ?_
        refine wl_f (f_move rfl) ?_
        refine wl_f (f_move rfl) ?_
        refine wl_f (f_nilCheck rfl) ?_
        refine wl_f (f_fieldAddr 2 rfl Try.underlying74 rfl rfl (by kernel_rfl)) ?_
        (first | refine wl_e0 (e_store0 (us := [_]) rfl rfl rfl (by kernel_rfl) (by simp [Value.oneCell']) rfl rfl) ?_ | refine wl_e0 (e_store1 (us := [_]) rfl rfl rfl (by kernel_rfl) (by simp [Value.oneCell']) rfl rfl) ?_ | refine wl_e0 (e_store2 (us := [_]) rfl rfl rfl (by kernel_rfl) (by simp [Value.oneCell']) rfl rfl) ?_ | refine wl_e0 (e_store3 (us := [_]) rfl rfl rfl (by kernel_rfl) (by simp [Value.oneCell']) rfl rfl) ?_)
        rintro _ _ w8_4 rfl
        refine wl_end [] trivial ?_
        refine w_seq ?_
        refine w_reg ?_
        refine wl_f (f_assign rfl) ?_
        refine wl_end [(6, _)] ⟨rfl, trivial⟩ ?_
        refine w_ret ?_
        refine ⟨_, _, fun a ha hh => results_tmps Try.results39 rfl a ha _, List.Sublist.refl _, ?_⟩
        exact ⟨by rw [hnf]; rfl, by rw [hnf]; rfl⟩
      · skip
        have hnf : numF all most over s = ((readL (all.drop s.1)).1, (s.1 + (readL (all.drop s.1)).2.1, 0)) := by rw [numF, if_neg hc1, if_neg hc2, if_neg (by omega)]
        have he0 : s.2 = 0 := by simpa using hc1
        refine w_skip ?_
        refine w_seq ?_
        refine w_reg ?_
        refine wl_f (f_move rfl) ?_
        refine wl_f (f_nilCheck rfl) ?_
        refine wl_f (f_fieldAddr 1 rfl Try.underlying74 rfl rfl (by kernel_rfl)) ?_
        (first | refine wl_f (f_loadb 0 rfl Try.underlying3 rfl rfl rfl) ?_ | refine wl_f (f_loadb 1 rfl Try.underlying3 rfl rfl rfl) ?_ | refine wl_f (f_loadb 2 rfl Try.underlying3 rfl rfl rfl) ?_ | refine wl_f (f_loadb 3 rfl Try.underlying3 rfl rfl rfl) ?_ | refine wl_f (f_loadb 4 rfl Try.underlying3 rfl rfl rfl) ?_ | refine wl_f (f_loadb 5 rfl Try.underlying3 rfl rfl rfl) ?_ | refine wl_f (f_loadb 6 rfl Try.underlying3 rfl rfl rfl) ?_)
        refine wl_f (f_move rfl) ?_
        refine wl_f (f_add rfl rfl (by omega)) ?_
        refine wl_f (f_nilCheck rfl) ?_
        refine wl_f (f_fieldAddr 1 rfl Try.underlying74 rfl rfl (by kernel_rfl)) ?_
        (first | refine wl_e0 (e_store0 (us := [_]) rfl rfl rfl (by kernel_rfl) (by simp [Value.oneCell']) rfl rfl) ?_ | refine wl_e0 (e_store1 (us := [_]) rfl rfl rfl (by kernel_rfl) (by simp [Value.oneCell']) rfl rfl) ?_ | refine wl_e0 (e_store2 (us := [_]) rfl rfl rfl (by kernel_rfl) (by simp [Value.oneCell']) rfl rfl) ?_ | refine wl_e0 (e_store3 (us := [_]) rfl rfl rfl (by kernel_rfl) (by simp [Value.oneCell']) rfl rfl) ?_)
        rintro _ _ w10_8 rfl
        refine wl_end [(7, _)] ⟨rfl, trivial⟩ ?_
        refine w_seq ?_
        refine w_reg ?_
        refine wl_f (f_move rfl) ?_
        refine wl_f (f_assign rfl) ?_
        refine wl_end [(6, _)] ⟨rfl, trivial⟩ ?_
        refine w_ret ?_
        refine ⟨_, _, fun a ha hh => results_tmps Try.results39 rfl a ha _, List.Sublist.refl _, ?_⟩
        exact ⟨by rw [hnf]; rfl, by rw [hnf, ← he0]; rfl⟩

set_option maxHeartbeats 1000000 in
theorem text_spec (b : Nat) (A : Option Addr) (c : Nat) (all : List Nat) (s : Nat × Int) (w : World) (hV : Rd w (fun k => k = b) 1 (.slice A all.length c) all.length (bv all))
    (hn : all.length ≤ 140737488355328) (hb : ∀ x ∈ all, x < 256) (hu : s.1 ≤ all.length) (hs : Holds w (rdr b (.slice A all.length c) s).foot [rdr b (.slice A all.length c) s] w) :
    Spec Try.prog 41 [.pointer (some ⟨b, 0, .none⟩)] w (rdr b (.slice A all.length c) s).foot
      fun r H => r = .string (textF all s).1 ∧ H = [rdr b (.slice A all.length c) (textF all s).2] := by
  have hcn : all.length ≤ c := by
    obtain ⟨_, _, e, _, h, _⟩ := id hV
    injection e with _ _ e
    subst e
    exact h
  have hx1 := numF_le all 4096 4 s
  have hx2 := numF_used all 4096 4 s hu
  have htf : textF all s = if (numF all 4096 4 s).2.2 ≠ 0 then (⟨#[]⟩, (numF all 4096 4 s).2) else if all.length - (numF all 4096 4 s).2.1 < (numF all 4096 4 s).1 then (⟨#[]⟩, ((numF all 4096 4 s).2.1, 2)) else
    (str ((all.drop (numF all 4096 4 s).2.1).take (numF all 4096 4 s).1), ((numF all 4096 4 s).2.1 + (numF all 4096 4 s).1, 0)) := rfl
  refine enter (n := 58) Try.func41 rfl rfl [(0, _)] rfl ⟨rfl, trivial⟩ hs ?_
  refine w_seq ?_
  refine w_reg ?_
  refine wl_f (f_assign rfl) ?_
  refine wl_end [(0, _)] ⟨rfl, trivial⟩ ?_
  refine w_seq ?_
  refine w_reg ?_
  refine wl_f (f_move rfl) ?_
  refine wl_e (e_call1 _ [] rfl Try.func39 (by kernel_rfl) (List.Perm.refl _) (fun w hh hs => number_spec b A c all s 4096 4 w (hV.old1 hh (List.Perm.refl _)) hn hb hu hs)) ?_
  rintro _ _ w1 ⟨_, rfl, rfl, rfl⟩
  revert htf
  generalize numF all 4096 4 s = x at hx1 hx2 ⊢
  obtain ⟨n, q, e⟩ := x
  simp only at hx1 hx2 ⊢
  intro htf
  refine wl_f (f_convi rfl Try.underlying38 Try.underlying3 (by omega)) ?_
  refine wl_f (f_assign rfl) ?_
  refine wl_end [(0, _), (3, _)] ⟨rfl, rfl, trivial⟩ ?_
  refine w_seq ?_
  refine w_seq ?_
  refine w_post (fun m H w' => m = [(0, .pointer (some ⟨b, 0, .none⟩)), (3, .int .i64 n), (25, .bool (decide (e = 0 ∧ all.length - q < n)))] ∧ H = [rdr b (.slice A all.length c) (q, e)]) ?_ ?_
  · by_cases hG2 : e = 0
    · skip
      refine w_draw [(0, true), (1, true), (2, true), (3, true), (4, true), (5, true), (6, true), (7, true), (8, true), (9, true), (10, true), (11, true), (12, true), (13, true), (14, true), (15, true), (16, true), (17, true), (18, true)] (_) ([]) mixed (by kernel_rfl) (by kernel_rfl) rfl (perm_all _) (fun w2_ => ?_)
      refine wd_f rfl (f_move rfl) ?_
      refine wd_f rfl (f_nilCheck rfl) ?_
      refine wd_f rfl (f_fieldAddr 2 rfl Try.underlying74 rfl rfl (by kernel_rfl)) ?_
      (first | refine wd_f rfl (f_loadb 0 rfl Try.underlying25 rfl rfl rfl) ?_ | refine wd_f rfl (f_loadb 1 rfl Try.underlying25 rfl rfl rfl) ?_ | refine wd_f rfl (f_loadb 2 rfl Try.underlying25 rfl rfl rfl) ?_ | refine wd_f rfl (f_loadb 3 rfl Try.underlying25 rfl rfl rfl) ?_ | refine wd_f rfl (f_loadb 4 rfl Try.underlying25 rfl rfl rfl) ?_ | refine wd_f rfl (f_loadb 5 rfl Try.underlying25 rfl rfl rfl) ?_ | refine wd_f rfl (f_loadb 6 rfl Try.underlying25 rfl rfl rfl) ?_)
      refine wd_f rfl (f_eqv (f_eql rfl rfl) (congrArg Value.bool (decide_eq_true hG2))) ?_
      refine wd_f rfl (f_move rfl) ?_
      refine wd_gf rfl rfl rfl (f_move rfl) ?_
      refine wd_gf rfl rfl rfl (f_nilCheck rfl) ?_
      refine wd_gf rfl rfl rfl (f_fieldAddr 0 rfl Try.underlying74 rfl rfl (by kernel_rfl)) ?_
      (first | refine wd_gf rfl rfl rfl (f_loadb 0 rfl Try.underlying22 rfl rfl rfl) ?_ | refine wd_gf rfl rfl rfl (f_loadb 1 rfl Try.underlying22 rfl rfl rfl) ?_ | refine wd_gf rfl rfl rfl (f_loadb 2 rfl Try.underlying22 rfl rfl rfl) ?_ | refine wd_gf rfl rfl rfl (f_loadb 3 rfl Try.underlying22 rfl rfl rfl) ?_ | refine wd_gf rfl rfl rfl (f_loadb 4 rfl Try.underlying22 rfl rfl rfl) ?_ | refine wd_gf rfl rfl rfl (f_loadb 5 rfl Try.underlying22 rfl rfl rfl) ?_ | refine wd_gf rfl rfl rfl (f_loadb 6 rfl Try.underlying22 rfl rfl rfl) ?_)
      refine wd_gf rfl rfl rfl (f_len rfl Try.underlying22) ?_
      refine wd_gf rfl rfl rfl (f_move rfl) ?_
      refine wd_gf rfl rfl rfl (f_nilCheck rfl) ?_
      refine wd_gf rfl rfl rfl (f_fieldAddr 1 rfl Try.underlying74 rfl rfl (by kernel_rfl)) ?_
      (first | refine wd_gf rfl rfl rfl (f_loadb 0 rfl Try.underlying3 rfl rfl rfl) ?_ | refine wd_gf rfl rfl rfl (f_loadb 1 rfl Try.underlying3 rfl rfl rfl) ?_ | refine wd_gf rfl rfl rfl (f_loadb 2 rfl Try.underlying3 rfl rfl rfl) ?_ | refine wd_gf rfl rfl rfl (f_loadb 3 rfl Try.underlying3 rfl rfl rfl) ?_ | refine wd_gf rfl rfl rfl (f_loadb 4 rfl Try.underlying3 rfl rfl rfl) ?_ | refine wd_gf rfl rfl rfl (f_loadb 5 rfl Try.underlying3 rfl rfl rfl) ?_ | refine wd_gf rfl rfl rfl (f_loadb 6 rfl Try.underlying3 rfl rfl rfl) ?_)
      refine wd_gf rfl rfl rfl (f_sub rfl rfl (by omega)) ?_
      refine wd_gf rfl rfl rfl (f_move rfl) ?_
      refine wd_gf rfl rfl rfl (f_lss rfl rfl) ?_
      refine wd_f rfl (f_pick rfl rfl rfl) ?_
      refine wd_end [(0, _), (3, _), (25, _)] ⟨rfl, rfl, rfl, trivial⟩ ?_
      refine ⟨?_, rfl⟩
      have h3 : ((((all.length : Nat) : Int) - (q : Int) < (n : Int))) = (e = 0 ∧ all.length - q < n) := propext ⟨fun h => ⟨hG2, by omega⟩, fun h => by omega⟩
      simp only [h3, if_true]
    · skip
      refine w_draw [(0, true), (1, true), (2, true), (3, true), (4, true), (5, true), (6, true), (7, true), (8, true), (9, true), (10, true), (11, true), (12, true), (13, true), (14, true), (15, true), (16, true), (17, true), (18, true)] (_) ([]) mixed (by kernel_rfl) (by kernel_rfl) rfl (perm_all _) (fun w2_ => ?_)
      refine wd_f rfl (f_move rfl) ?_
      refine wd_f rfl (f_nilCheck rfl) ?_
      refine wd_f rfl (f_fieldAddr 2 rfl Try.underlying74 rfl rfl (by kernel_rfl)) ?_
      (first | refine wd_f rfl (f_loadb 0 rfl Try.underlying25 rfl rfl rfl) ?_ | refine wd_f rfl (f_loadb 1 rfl Try.underlying25 rfl rfl rfl) ?_ | refine wd_f rfl (f_loadb 2 rfl Try.underlying25 rfl rfl rfl) ?_ | refine wd_f rfl (f_loadb 3 rfl Try.underlying25 rfl rfl rfl) ?_ | refine wd_f rfl (f_loadb 4 rfl Try.underlying25 rfl rfl rfl) ?_ | refine wd_f rfl (f_loadb 5 rfl Try.underlying25 rfl rfl rfl) ?_ | refine wd_f rfl (f_loadb 6 rfl Try.underlying25 rfl rfl rfl) ?_)
      refine wd_f rfl (f_eqv (f_eql rfl rfl) (congrArg Value.bool (decide_eq_false hG2))) ?_
      refine wd_f rfl (f_move rfl) ?_
      refine wd_gs rfl rfl rfl ?_
      refine wd_gs rfl rfl rfl ?_
      refine wd_gs rfl rfl rfl ?_
      refine wd_gs rfl rfl rfl ?_
      refine wd_gs rfl rfl rfl ?_
      refine wd_gs rfl rfl rfl ?_
      refine wd_gs rfl rfl rfl ?_
      refine wd_gs rfl rfl rfl ?_
      refine wd_gs rfl rfl rfl ?_
      refine wd_gs rfl rfl rfl ?_
      refine wd_gs rfl rfl rfl ?_
      refine wd_gs rfl rfl rfl ?_
      refine wd_f rfl (f_pick rfl rfl rfl) ?_
      refine wd_end [(0, _), (3, _), (25, _)] ⟨rfl, rfl, rfl, trivial⟩ ?_
      exact ⟨by simp [hG2], rfl⟩
  rintro _ _ w2_ ⟨rfl, rfl⟩
  refine w_post (fun m H w => m = [(0, .pointer (some ⟨b, 0, .none⟩)), (3, .int .i64 n)] ∧ H = [rdr b (.slice A all.length c) (q, if e = 0 ∧ all.length - q < n then 2 else e)]) ?_ ?_
  · skip
    refine w_ifd rfl (fun hc1 => ?_) (fun hc1 => ?_)
    · skip
      refine w_reg ?_
      refine wl_f (f_move rfl) ?_
      refine wl_f (f_nilCheck rfl) ?_
      refine wl_f (f_fieldAddr 2 rfl Try.underlying74 rfl rfl (by kernel_rfl)) ?_
      (first | refine wl_e0 (e_store0 (us := [_]) rfl rfl rfl (by kernel_rfl) (by simp [Value.oneCell']) rfl rfl) ?_ | refine wl_e0 (e_store1 (us := [_]) rfl rfl rfl (by kernel_rfl) (by simp [Value.oneCell']) rfl rfl) ?_ | refine wl_e0 (e_store2 (us := [_]) rfl rfl rfl (by kernel_rfl) (by simp [Value.oneCell']) rfl rfl) ?_ | refine wl_e0 (e_store3 (us := [_]) rfl rfl rfl (by kernel_rfl) (by simp [Value.oneCell']) rfl rfl) ?_)
      rintro _ _ w3_3 rfl
      refine wl_end [(0, _), (3, _)] ⟨rfl, rfl, trivial⟩ ?_
      exact ⟨rfl, by rw [if_pos hc1]; rfl⟩
    · skip
      refine w_sub [(0, _), (3, _)] ⟨rfl, rfl, trivial⟩ (w_skip ?_)
      exact ⟨rfl, by rw [if_neg hc1]⟩
  · rintro _ _ w ⟨rfl, rfl⟩
    refine w_seq ?_
    refine w_seq ?_
    refine w_reg ?_
    refine wl_f (f_move rfl) ?_
    refine wl_f (f_nilCheck rfl) ?_
    refine wl_f (f_fieldAddr 2 rfl Try.underlying74 rfl rfl (by kernel_rfl)) ?_
    (first | refine wl_f (f_loadb 0 rfl Try.underlying25 rfl rfl rfl) ?_ | refine wl_f (f_loadb 1 rfl Try.underlying25 rfl rfl rfl) ?_ | refine wl_f (f_loadb 2 rfl Try.underlying25 rfl rfl rfl) ?_ | refine wl_f (f_loadb 3 rfl Try.underlying25 rfl rfl rfl) ?_ | refine wl_f (f_loadb 4 rfl Try.underlying25 rfl rfl rfl) ?_ | refine wl_f (f_loadb 5 rfl Try.underlying25 rfl rfl rfl) ?_ | refine wl_f (f_loadb 6 rfl Try.underlying25 rfl rfl rfl) ?_)
    refine wl_f (f_neq rfl rfl) ?_
    refine wl_end [(0, _), (3, _), (33, _)] ⟨rfl, rfl, rfl, trivial⟩ ?_
    refine w_ifd rfl (fun hc2 => ?_) (fun hc2 => ?_)
    · skip
      have hnf : textF all s = (⟨#[]⟩, (q, if e = 0 ∧ all.length - q < n then 2 else e)) := by
        rw [htf]
        split
        · rw [if_neg (by omega)]
        · rename_i h
          have hc2' : (if e = 0 ∧ all.length - q < n then 2 else e) ≠ 0 := hc2
          split at hc2'
          · rename_i h2
            rw [if_pos h2.2, if_pos h2]
          · exact absurd hc2' h
      refine w_seq ?_
      refine w_reg ?_
      refine wl_f (f_assign rfl) ?_
      refine wl_end [(2, _)] ⟨rfl, trivial⟩ ?_
      refine w_ret ?_
      refine ⟨_, _, fun a ha hh => results_tmps Try.results41 rfl a ha _, List.Sublist.refl _, ?_⟩
      exact ⟨by rw [hnf]; rfl, by rw [hnf]⟩
    · skip
      have hq : e = 0 ∧ ¬ all.length - q < n := by
        have hc2' : ¬ ((if e = 0 ∧ all.length - q < n then 2 else e) ≠ 0) := hc2
        split at hc2'
        · omega
        · rename_i h; refine ⟨by omega, fun h2 => h ⟨by omega, h2⟩⟩
      have hq2 : q + n ≤ all.length := by omega
      have hnf : textF all s = (str ((all.drop q).take n), (q + n, 0)) := by rw [htf, if_neg (by omega), if_neg hq.2]
      have hqe : (if e = 0 ∧ all.length - q < n then 2 else e) = 0 := by rw [if_neg (by omega)]; exact hq.1
      rw [hqe]
      clear hc2
      refine w_skip ?_
      refine w_seq ?_
      refine w_reg ?_
      refine wl_f (f_move rfl) ?_
      refine wl_f (f_nilCheck rfl) ?_
      refine wl_f (f_fieldAddr 1 rfl Try.underlying74 rfl rfl (by kernel_rfl)) ?_
      (first | refine wl_f (f_loadb 0 rfl Try.underlying3 rfl rfl rfl) ?_ | refine wl_f (f_loadb 1 rfl Try.underlying3 rfl rfl rfl) ?_ | refine wl_f (f_loadb 2 rfl Try.underlying3 rfl rfl rfl) ?_ | refine wl_f (f_loadb 3 rfl Try.underlying3 rfl rfl rfl) ?_ | refine wl_f (f_loadb 4 rfl Try.underlying3 rfl rfl rfl) ?_ | refine wl_f (f_loadb 5 rfl Try.underlying3 rfl rfl rfl) ?_ | refine wl_f (f_loadb 6 rfl Try.underlying3 rfl rfl rfl) ?_)
      refine wl_f (f_move rfl) ?_
      refine wl_f (f_add rfl rfl (by omega)) ?_
      refine wl_f (f_nilCheck rfl) ?_
      refine wl_f (f_fieldAddr 1 rfl Try.underlying74 rfl rfl (by kernel_rfl)) ?_
      (first | refine wl_e0 (e_store0 (us := [_]) rfl rfl rfl (by kernel_rfl) (by simp [Value.oneCell']) rfl rfl) ?_ | refine wl_e0 (e_store1 (us := [_]) rfl rfl rfl (by kernel_rfl) (by simp [Value.oneCell']) rfl rfl) ?_ | refine wl_e0 (e_store2 (us := [_]) rfl rfl rfl (by kernel_rfl) (by simp [Value.oneCell']) rfl rfl) ?_ | refine wl_e0 (e_store3 (us := [_]) rfl rfl rfl (by kernel_rfl) (by simp [Value.oneCell']) rfl rfl) ?_)
      rintro _ _ w6_8 rfl
      refine wl_end [(0, _), (3, _)] ⟨rfl, rfl, trivial⟩ ?_
      refine w_seq ?_
      refine w_draw [(0, true), (1, true), (2, true), (3, true), (4, true), (5, true), (6, true), (7, true), (8, true), (9, true), (10, true), (11, true), (12, true), (13, true), (14, true), (15, true), (16, true)] (_) ([]) mixed (by kernel_rfl) (by kernel_rfl) rfl (perm_all _) (fun w7_ => ?_)
      refine wd_f rfl (f_move rfl) ?_
      refine wd_f rfl (f_nilCheck rfl) ?_
      refine wd_f rfl (f_fieldAddr 0 rfl Try.underlying74 rfl rfl (by kernel_rfl)) ?_
      (first | refine wd_f rfl (f_loadb 0 rfl Try.underlying22 rfl rfl rfl) ?_ | refine wd_f rfl (f_loadb 1 rfl Try.underlying22 rfl rfl rfl) ?_ | refine wd_f rfl (f_loadb 2 rfl Try.underlying22 rfl rfl rfl) ?_ | refine wd_f rfl (f_loadb 3 rfl Try.underlying22 rfl rfl rfl) ?_ | refine wd_f rfl (f_loadb 4 rfl Try.underlying22 rfl rfl rfl) ?_ | refine wd_f rfl (f_loadb 5 rfl Try.underlying22 rfl rfl rfl) ?_ | refine wd_f rfl (f_loadb 6 rfl Try.underlying22 rfl rfl rfl) ?_)
      refine wd_f rfl (f_move rfl) ?_
      refine wd_f rfl (f_nilCheck rfl) ?_
      refine wd_f rfl (f_fieldAddr 1 rfl Try.underlying74 rfl rfl (by kernel_rfl)) ?_
      (first | refine wd_f rfl (f_loadb 0 rfl Try.underlying3 rfl rfl rfl) ?_ | refine wd_f rfl (f_loadb 1 rfl Try.underlying3 rfl rfl rfl) ?_ | refine wd_f rfl (f_loadb 2 rfl Try.underlying3 rfl rfl rfl) ?_ | refine wd_f rfl (f_loadb 3 rfl Try.underlying3 rfl rfl rfl) ?_ | refine wd_f rfl (f_loadb 4 rfl Try.underlying3 rfl rfl rfl) ?_ | refine wd_f rfl (f_loadb 5 rfl Try.underlying3 rfl rfl rfl) ?_ | refine wd_f rfl (f_loadb 6 rfl Try.underlying3 rfl rfl rfl) ?_)
      refine wd_f rfl (f_move rfl) ?_
      refine wd_f rfl (f_eqv (v' := .int .i64 (q : Int)) (f_sub rfl rfl (by omega)) (by congr 1; omega)) ?_
      refine wd_f rfl (f_move rfl) ?_
      refine wd_f rfl (f_nilCheck rfl) ?_
      refine wd_f rfl (f_fieldAddr 1 rfl Try.underlying74 rfl rfl (by kernel_rfl)) ?_
      (first | refine wd_f rfl (f_loadb 0 rfl Try.underlying3 rfl rfl rfl) ?_ | refine wd_f rfl (f_loadb 1 rfl Try.underlying3 rfl rfl rfl) ?_ | refine wd_f rfl (f_loadb 2 rfl Try.underlying3 rfl rfl rfl) ?_ | refine wd_f rfl (f_loadb 3 rfl Try.underlying3 rfl rfl rfl) ?_ | refine wd_f rfl (f_loadb 4 rfl Try.underlying3 rfl rfl rfl) ?_ | refine wd_f rfl (f_loadb 5 rfl Try.underlying3 rfl rfl rfl) ?_ | refine wd_f rfl (f_loadb 6 rfl Try.underlying3 rfl rfl rfl) ?_)
      refine wd_f rfl (f_sliceA 1 (l := q) (u := q + n) rfl Try.underlying22 (by kernel_rfl) ⟨_, rfl⟩ ⟨_, rfl⟩ (by omega) (by omega)) ?_
      refine wd_f rfl (f_b2s (xs := (all.drop q).take n) rfl Try.underlying22 Try.underlying5 Try.underlying9 (fun w hh => by have h := mid_bytes (p := q) (q := q + n) (hV.old0 hh) (by omega) hq2; rw [show q + n - q = n by omega] at h; rw [List.length_take, List.length_drop, Nat.min_eq_left (by omega)] at h ⊢; rw [show q + n - q = n by omega]; exact h)) ?_
      refine wd_f rfl (f_assign rfl) ?_
      refine wd_end [(2, _)] ⟨rfl, trivial⟩ ?_
      refine w_ret ?_
      refine ⟨_, _, fun a ha hh => results_tmps Try.results41 rfl a ha _, List.Sublist.refl _, ?_⟩
      exact ⟨by rw [hnf]; rfl, by rw [hnf]; rfl⟩
end Go.Proofs.Ythbjjfpikfmmnaa