/- The reader of the reference's decoder. -/
import Derived.Test.YthbjjfpikfmmnaaD20
import Derived.Deep.Slices
namespace Go.Proofs.Ythbjjfpikfmmnaa
open Go.RowKit

theorem rd_lt : ∀ (l : List Nat) (i acc : Nat), (i ≤ 9 → acc < 128 ^ i) → (rd l i acc).1 ≤ 18446744073709551615
  | [], i, acc, _ => by simp only [rd]; split <;> simp
  | b :: l, i, acc, h => by
    simp only [rd]
    split
    · simp
    split
    · simp
    rename_i h1 h2
    have hacc := h (by omega)
    have hg : acc + b % 128 * 128 ^ i ≤ 18446744073709551615 := by
      rcases Nat.lt_or_ge i 9 with h9 | h9
      · have h1 : b % 128 * 128 ^ i ≤ 127 * 128 ^ i := Nat.mul_le_mul_right _ (by omega)
        have h2 := pow128_le i 8 (by omega)
        omega
      · have : i = 9 := by omega
        subst this
        have h1 : b % 128 * 128 ^ 9 ≤ 1 * 128 ^ 9 := Nat.mul_le_mul_right _ (by omega)
        omega
    split
    · refine rd_lt l (i + 1) _ fun h9 => ?_
      have h1 : b % 128 * 128 ^ i ≤ 127 * 128 ^ i := Nat.mul_le_mul_right _ (by omega)
      rw [Nat.pow_succ]
      omega
    split
    · simp
    · exact hg
theorem readL_lt (xs : List Nat) : (readL xs).1 ≤ 18446744073709551615 := rd_lt xs 0 0 (by simp)

/-- What lies behind q bytes of a slice. -/
theorem rd_behind {w : World} {F : Nat → Prop} {A A' : Option Addr} {c q : Nat} {all : List Nat} (h : Rd w F 1 (.slice A all.length c) all.length (bv all)) (hq : q ≤ all.length) (hA : q < c → A' = A.map (·.add q)) :
    Rd w F 1 (.slice A' (all.length - q) (c - q)) (all.drop q).length (bv (all.drop q)) := by
  obtain ⟨A0, c0, e, h1, h2, h3⟩ := h
  injection e with e1 _ e3
  subst e1; subst e3
  have el : all.length - q = (all.drop q).length := by rw [List.length_drop]
  rw [el]
  refine ⟨A', c - q, rfl, by rw [bv_len]; omega, by rw [List.length_drop]; omega, ?_⟩
  rcases Nat.lt_or_ge q all.length with hlt | hge
  · right
    obtain ⟨b, off, rfl, hF, hb, hc⟩ := h3.resolve_left (by omega)
    refine ⟨b, off + q, by rw [hA (by omega)]; simp [add_eq], hF, hb, fun j u hu => ?_⟩
    have := hc (q + j) u (by simpa [bv, List.getElem?_drop] using hu)
    rwa [show off + (q + j) = off + q + j by omega] at this
  · left; rw [List.length_drop]; omega

theorem rd_prefix {w : World} {F : Nat → Prop} {A : Option Addr} {n c m : Nat} {l : List Nat} (h : Rd w F 1 (.slice A n c) l.length (bv l)) (hn : n = l.length) (hm : m ≤ l.length) :
    Rd w F 1 (.slice (if c = 0 then A else A.map (·.add (0 * 1))) (m - 0) (c - 0)) (l.take m).length (bv (l.take m)) := by
  subst hn
  have h := h.cut (l := 0) (u := m) (Nat.zero_le _) hm
  have e : ((bv l).drop (0 * 1)).take ((m - 0) * 1) = bv (l.take m) := by simp [bv, List.map_take]
  have e2 : m - 0 = (l.take m).length := by rw [List.length_take]; omega
  rw [e] at h
  rw [← e2]
  exact h

def Rst (b : Nat) (A : Option Addr) (n c : Nat) (s : Nat × Int) (r : Res) : Prop :=
  ∃ q A', r = blk b [.slice A' (n - q) (c - q), .int .i64 s.2] 80 ∧ q ≤ n ∧ (q < c → A' = A.map (·.add q)) ∧ (s.2 = 0 → q = s.1)
theorem Rst.foot {b : Nat} {A : Option Addr} {n c : Nat} {s : Nat × Int} {r : Res} (h : Rst b A n c s r) : r.foot = fun k => k = b := by
  obtain ⟨q, A', rfl, _⟩ := h; rfl

theorem behind_step {A A' : Option Addr} {c q l : Nat} (hA : q < c → A' = A.map (·.add q)) : q + l < c → (if c - q = l then A' else A'.map (·.add (l * 1))) = A.map (·.add (q + l)) := by
  intro h
  rw [if_neg (by omega), hA (by omega)]
  cases A with
  | none => rfl
  | some a => simp [Go.Deep.add_add]

section
variable (b : Nat) (A : Option Addr) (c : Nat) (all : List Nat) (s : Nat × Int) (r : Res) (w : World) (hV : Rd w (fun k => k = b) 1 (.slice A all.length c) all.length (bv all))
    (hn : all.length ≤ 140737488355328) (hb : ∀ x ∈ all, x < 256) (hr : Rst b A all.length c s r) (hs : Holds w r.foot [r] w)
include hV hn hb hr hs

set_option maxHeartbeats 1000000 in
theorem rnumber_spec : Spec Try.prog 43 [.pointer (some ⟨b, 0, .none⟩)] w r.foot
      fun v H => v = .int .u64 ((numF all 18446744073709551615 1 s).1 : Int) ∧ ∃ r', H = [r'] ∧ Rst b A all.length c (numF all 18446744073709551615 1 s).2 r' := by
  have hcn : all.length ≤ c := by
    obtain ⟨_, _, e, _, h, _⟩ := id hV
    injection e with _ _ e
    subst e
    exact h
  obtain ⟨q, A', rfl, hq, hA, hqs⟩ := id hr
  have hbd : ∀ x ∈ all.drop s.1, x < 256 := fun x hx => hb x (List.mem_of_mem_drop hx)
  have hru := readL_used (all.drop s.1)
  rw [List.length_drop] at hru
  have hrl : (readL (all.drop s.1)).1 ≤ 18446744073709551615 := readL_lt _
  refine enter (n := 36) Try.func43 rfl rfl [(0, _)] rfl ⟨rfl, trivial⟩ hs ?_
  refine w_seq ?_
  refine w_reg ?_
  refine wl_f (f_assign rfl) ?_
  refine wl_end [(0, _)] ⟨rfl, trivial⟩ ?_
  refine w_seq ?_
  refine w_seq ?_
  refine w_reg ?_
  refine wl_f (f_move rfl) ?_
  refine wl_f (f_nilCheck rfl) ?_
  refine wl_f (f_fieldAddr 1 rfl Try.underlying80 rfl rfl (by kernel_rfl)) ?_
  (first | refine wl_f (f_loadb 0 rfl Try.underlying25 rfl rfl rfl) ?_ | refine wl_f (f_loadb 1 rfl Try.underlying25 rfl rfl rfl) ?_ | refine wl_f (f_loadb 2 rfl Try.underlying25 rfl rfl rfl) ?_ | refine wl_f (f_loadb 3 rfl Try.underlying25 rfl rfl rfl) ?_ | refine wl_f (f_loadb 4 rfl Try.underlying25 rfl rfl rfl) ?_ | refine wl_f (f_loadb 5 rfl Try.underlying25 rfl rfl rfl) ?_ | refine wl_f (f_loadb 6 rfl Try.underlying25 rfl rfl rfl) ?_)
  refine wl_f (f_neq rfl rfl) ?_
  refine wl_end [(0, _), (10, _)] ⟨rfl, rfl, trivial⟩ ?_
  refine w_ifd rfl (fun hc1 => ?_) (fun hc1 => ?_)
  · skip
    refine w_seq ?_
    refine w_reg ?_
    refine wl_f (f_assign rfl) ?_
    refine wl_end [(2, _)] ⟨rfl, trivial⟩ ?_
    refine w_ret ?_
    refine ⟨_, _, fun a ha hh => results_tmps Try.results43 rfl a ha _, List.Sublist.refl _, ?_⟩
    exact ⟨by rw [numF, if_pos hc1]; rfl, _, rfl, by rw [numF, if_pos hc1]; exact hr⟩
  · skip
    have hs0 : s.2 = 0 := by simpa using hc1
    obtain rfl := hqs hs0
    refine w_skip ?_
    refine w_seq ?_
    refine w_reg ?_
    refine wl_f (f_move rfl) ?_
    refine wl_f (f_nilCheck rfl) ?_
    refine wl_f (f_fieldAddr 0 rfl Try.underlying80 rfl rfl (by kernel_rfl)) ?_
    (first | refine wl_f (f_loadb 0 rfl Try.underlying22 rfl rfl rfl) ?_ | refine wl_f (f_loadb 1 rfl Try.underlying22 rfl rfl rfl) ?_ | refine wl_f (f_loadb 2 rfl Try.underlying22 rfl rfl rfl) ?_ | refine wl_f (f_loadb 3 rfl Try.underlying22 rfl rfl rfl) ?_ | refine wl_f (f_loadb 4 rfl Try.underlying22 rfl rfl rfl) ?_ | refine wl_f (f_loadb 5 rfl Try.underlying22 rfl rfl rfl) ?_ | refine wl_f (f_loadb 6 rfl Try.underlying22 rfl rfl rfl) ?_)
    refine wl_e (e_call0 rfl Try.func28 (by kernel_rfl) (fun w hh => rread_spec _ (all.drop s.1) w (rd_behind (hV.old0 hh) hq hA) (by rw [List.length_drop]; omega) hbd)) ?_
    rintro _ _ w1 ⟨_, rfl, rfl, rfl⟩
    refine wl_f (f_move rfl) ?_
    refine wl_f (f_extract rfl rfl) ?_
    refine wl_f (f_extract rfl rfl) ?_
    refine wl_f (f_extract rfl rfl) ?_
    refine wl_f (f_assign rfl) ?_
    refine wl_f (f_assign rfl) ?_
    refine wl_f (f_assign rfl) ?_
    refine wl_end [(0, _), (3, _), (4, _), (5, _)] ⟨rfl, rfl, rfl, rfl, trivial⟩ ?_
    refine w_seq ?_
    refine w_seq ?_
    refine w_reg ?_
    refine wl_f (f_move rfl) ?_
    refine wl_f (f_neq rfl rfl) ?_
    refine wl_end [(0, _), (3, _), (4, _), (5, _), (21, _)] ⟨rfl, rfl, rfl, rfl, rfl, trivial⟩ ?_
    refine w_ifd rfl (fun hc2 => ?_) (fun hc2 => ?_)
    · skip
      refine w_seq ?_
      refine w_reg ?_
      refine wl_f (f_move rfl) ?_
      refine wl_f (f_move rfl) ?_
      refine wl_f (f_nilCheck rfl) ?_
      refine wl_f (f_fieldAddr 1 rfl Try.underlying80 rfl rfl (by kernel_rfl)) ?_
      (first | refine wl_e0 (e_store0 (us := [_]) rfl rfl rfl (by kernel_rfl) (by simp [Value.oneCell']) rfl rfl) ?_ | refine wl_e0 (e_store1 (us := [_]) rfl rfl rfl (by kernel_rfl) (by simp [Value.oneCell']) rfl rfl) ?_ | refine wl_e0 (e_store2 (us := [_]) rfl rfl rfl (by kernel_rfl) (by simp [Value.oneCell']) rfl rfl) ?_ | refine wl_e0 (e_store3 (us := [_]) rfl rfl rfl (by kernel_rfl) (by simp [Value.oneCell']) rfl rfl) ?_)
      rintro _ _ w5_4 rfl
      refine wl_end [] trivial ?_
      refine w_seq ?_
      refine w_reg ?_
      refine wl_f (f_assign rfl) ?_
      refine wl_end [(2, _)] ⟨rfl, trivial⟩ ?_
      refine w_ret ?_
      refine ⟨_, _, fun a ha hh => results_tmps Try.results43 rfl a ha _, List.Sublist.refl _, ?_⟩
      have hnf : numF all 18446744073709551615 1 s = (0, (s.1, (readL (all.drop s.1)).2.2)) := by rw [numF, if_neg hc1, if_pos hc2]
      exact ⟨by rw [hnf]; rfl, _, rfl, by rw [hnf]; exact ⟨s.1, A', rfl, hq, hA, fun _ => rfl⟩⟩
    · skip
      have hnf : numF all 18446744073709551615 1 s = ((readL (all.drop s.1)).1, (s.1 + (readL (all.drop s.1)).2.1, 0)) := by rw [numF, if_neg hc1, if_neg hc2, if_neg (by omega)]
      refine w_skip ?_
      refine w_seq ?_
      refine w_reg ?_
      refine wl_f (f_move rfl) ?_
      refine wl_f (f_move rfl) ?_
      refine wl_f (f_nilCheck rfl) ?_
      refine wl_f (f_fieldAddr 0 rfl Try.underlying80 rfl rfl (by kernel_rfl)) ?_
      (first | refine wl_f (f_loadb 0 rfl Try.underlying22 rfl rfl rfl) ?_ | refine wl_f (f_loadb 1 rfl Try.underlying22 rfl rfl rfl) ?_ | refine wl_f (f_loadb 2 rfl Try.underlying22 rfl rfl rfl) ?_ | refine wl_f (f_loadb 3 rfl Try.underlying22 rfl rfl rfl) ?_ | refine wl_f (f_loadb 4 rfl Try.underlying22 rfl rfl rfl) ?_ | refine wl_f (f_loadb 5 rfl Try.underlying22 rfl rfl rfl) ?_ | refine wl_f (f_loadb 6 rfl Try.underlying22 rfl rfl rfl) ?_)
      refine wl_f (f_move rfl) ?_
      refine wl_f (f_sliceA 1 (l := (readL (all.drop s.1)).2.1) (u := all.length - s.1) rfl Try.underlying22 (by kernel_rfl) ⟨_, rfl⟩ rfl (by omega) (by omega)) ?_
      refine wl_f (f_nilCheck rfl) ?_
      refine wl_f (f_fieldAddr 0 rfl Try.underlying80 rfl rfl (by kernel_rfl)) ?_
      (first | refine wl_e0 (e_store0 (us := [_]) rfl rfl rfl (by kernel_rfl) (by simp [Value.oneCell']) rfl rfl) ?_ | refine wl_e0 (e_store1 (us := [_]) rfl rfl rfl (by kernel_rfl) (by simp [Value.oneCell']) rfl rfl) ?_ | refine wl_e0 (e_store2 (us := [_]) rfl rfl rfl (by kernel_rfl) (by simp [Value.oneCell']) rfl rfl) ?_ | refine wl_e0 (e_store3 (us := [_]) rfl rfl rfl (by kernel_rfl) (by simp [Value.oneCell']) rfl rfl) ?_)
      rintro _ _ w7_9 rfl
      refine wl_end [(3, _)] ⟨rfl, trivial⟩ ?_
      refine w_seq ?_
      refine w_reg ?_
      refine wl_f (f_move rfl) ?_
      refine wl_f (f_assign rfl) ?_
      refine wl_end [(2, _)] ⟨rfl, trivial⟩ ?_
      refine w_ret ?_
      refine ⟨_, _, fun a ha hh => results_tmps Try.results43 rfl a ha _, List.Sublist.refl _, ?_⟩
      refine ⟨by rw [hnf]; rfl, _, rfl, by rw [hnf]; exact ⟨s.1 + (readL (all.drop s.1)).2.1, _, by rw [← hs0, Nat.sub_sub, Nat.sub_sub]; rfl, by omega, behind_step hA, fun _ => rfl⟩⟩

set_option maxHeartbeats 1000000 in
theorem rupto_spec (most : Nat) (over : Int) (hmost : most ≤ 9223372036854775807) (hover : over ≠ 0) : Spec Try.prog 42 [.pointer (some ⟨b, 0, .none⟩), .int .u64 most, .int .i64 over] w r.foot
      fun v H => v = .int .i64 ((numF all most over s).1 : Int) ∧ ∃ r', H = [r'] ∧ Rst b A all.length c (numF all most over s).2 r' := by
  have hsp : (fun k => k = b) = r.foot := hr.foot.symm
  have hrl : (readL (all.drop s.1)).1 ≤ 18446744073709551615 := readL_lt _
  refine enter (n := 31) Try.func42 rfl rfl [(0, _), (1, _), (2, _)] rfl ⟨rfl, rfl, rfl, trivial⟩ hs ?_
  refine w_seq ?_
  refine w_reg ?_
  refine wl_f (f_assign rfl) ?_
  refine wl_end [(0, _), (1, _), (2, _)] ⟨rfl, rfl, rfl, trivial⟩ ?_
  refine w_seq ?_
  refine w_reg ?_
  refine wl_f (f_move rfl) ?_
  refine wl_e (e_call1 r [] rfl Try.func43 (by kernel_rfl) (List.Perm.refl _) (fun w hh hs => rnumber_spec b A c all s r w (by rw [hsp]; exact (hsp ▸ hV : Rd _ r.foot _ _ _ _).old1 hh (List.Perm.refl _)) hn hb hr hs)) ?_
  rintro _ _ w1 ⟨_, rfl, rfl, r1, rfl, q, A', rfl, hq, hA, hqs⟩
  generalize hx : numF all 18446744073709551615 1 s = x at hq hA hqs ⊢
  have hx2 : numF all most over s = if x.2.2 ≠ 0 then (0, x.2) else if most < x.1 then (0, (s.1, over)) else x := by
    rw [← hx]
    unfold numF
    by_cases h1 : s.2 = 0
    · by_cases h2 : (readL (all.drop s.1)).2.2 = 0
      · simp [h1, h2, show ¬ 18446744073709551615 < (readL (all.drop s.1)).1 by omega]
      · simp [h1, h2]
    · simp [h1]
  refine wl_f (f_assign rfl) ?_
  refine wl_end [(0, _), (1, _), (2, _), (7, _)] ⟨rfl, rfl, rfl, rfl, trivial⟩ ?_
  refine w_seq ?_
  refine w_seq ?_
  refine w_reg ?_
  refine wl_f (f_move rfl) ?_
  refine wl_f (f_nilCheck rfl) ?_
  refine wl_f (f_fieldAddr 1 rfl Try.underlying80 rfl rfl (by kernel_rfl)) ?_
  (first | refine wl_f (f_loadb 0 rfl Try.underlying25 rfl rfl rfl) ?_ | refine wl_f (f_loadb 1 rfl Try.underlying25 rfl rfl rfl) ?_ | refine wl_f (f_loadb 2 rfl Try.underlying25 rfl rfl rfl) ?_ | refine wl_f (f_loadb 3 rfl Try.underlying25 rfl rfl rfl) ?_ | refine wl_f (f_loadb 4 rfl Try.underlying25 rfl rfl rfl) ?_ | refine wl_f (f_loadb 5 rfl Try.underlying25 rfl rfl rfl) ?_ | refine wl_f (f_loadb 6 rfl Try.underlying25 rfl rfl rfl) ?_)
  refine wl_f (f_eql rfl rfl) ?_
  refine wl_f (f_move rfl) ?_
  refine wl_and (j := 5) (c := decide ((most : Int) < (x.1 : Int))) 3 [(0, _), (2, _), (7, _)] ⟨rfl, rfl, rfl, trivial⟩ rfl rfl rfl rfl rfl (fun hg2_9 => ?_) (fun w2_9 => ?_)
  · skip
    refine wl_gf rfl rfl (f_move rfl) ?_
    refine wl_gf rfl rfl (f_move rfl) ?_
    refine wl_gf rfl rfl (f_gtr rfl rfl) ?_
    exact wl_pend rfl rfl ⟨rfl, rfl, rfl, trivial⟩ (List.Sublist.refl _)
  refine wl_end [(0, _), (2, _), (7, _), (19, _)] ⟨rfl, rfl, rfl, rfl, trivial⟩ ?_
  refine w_post (fun m H w => m = [(0, .pointer (some ⟨b, 0, .none⟩)), (7, .int .u64 x.1)] ∧ H = [blk b [.slice A' (all.length - q) (c - q), .int .i64 (if x.2.2 = 0 ∧ most < x.1 then over else x.2.2)] 80]) ?_ ?_
  · skip
    refine w_ifb rfl (fun hc1 => ?_) (fun hc1 => ?_)
    · skip
      refine w_reg ?_
      refine wl_f (f_move rfl) ?_
      refine wl_f (f_move rfl) ?_
      refine wl_f (f_nilCheck rfl) ?_
      refine wl_f (f_fieldAddr 1 rfl Try.underlying80 rfl rfl (by kernel_rfl)) ?_
      (first | refine wl_e0 (e_store0 (us := [_]) rfl rfl rfl (by kernel_rfl) (by simp [Value.oneCell']) rfl rfl) ?_ | refine wl_e0 (e_store1 (us := [_]) rfl rfl rfl (by kernel_rfl) (by simp [Value.oneCell']) rfl rfl) ?_ | refine wl_e0 (e_store2 (us := [_]) rfl rfl rfl (by kernel_rfl) (by simp [Value.oneCell']) rfl rfl) ?_ | refine wl_e0 (e_store3 (us := [_]) rfl rfl rfl (by kernel_rfl) (by simp [Value.oneCell']) rfl rfl) ?_)
      rintro _ _ w3_4 rfl
      refine wl_end [(0, _), (7, _)] ⟨rfl, rfl, trivial⟩ ?_
      simp only [Bool.and_eq_true, decide_eq_true_eq] at hc1
      rw [if_pos (by omega)]
      exact ⟨rfl, rfl⟩
    · skip
      refine w_sub [(0, _), (7, _)] ⟨rfl, rfl, trivial⟩ (w_skip ?_)
      simp only [Bool.and_eq_true, decide_eq_true_eq] at hc1
      rw [if_neg (by omega)]
      exact ⟨rfl, rfl⟩
  · rintro _ _ w ⟨rfl, rfl⟩
    refine w_seq ?_
    refine w_seq ?_
    refine w_reg ?_
    refine wl_f (f_move rfl) ?_
    refine wl_f (f_nilCheck rfl) ?_
    refine wl_f (f_fieldAddr 1 rfl Try.underlying80 rfl rfl (by kernel_rfl)) ?_
    (first | refine wl_f (f_loadb 0 rfl Try.underlying25 rfl rfl rfl) ?_ | refine wl_f (f_loadb 1 rfl Try.underlying25 rfl rfl rfl) ?_ | refine wl_f (f_loadb 2 rfl Try.underlying25 rfl rfl rfl) ?_ | refine wl_f (f_loadb 3 rfl Try.underlying25 rfl rfl rfl) ?_ | refine wl_f (f_loadb 4 rfl Try.underlying25 rfl rfl rfl) ?_ | refine wl_f (f_loadb 5 rfl Try.underlying25 rfl rfl rfl) ?_ | refine wl_f (f_loadb 6 rfl Try.underlying25 rfl rfl rfl) ?_)
    refine wl_f (f_neq rfl rfl) ?_
    refine wl_end [(7, _), (28, _)] ⟨rfl, rfl, trivial⟩ ?_
    refine w_ifd rfl (fun hc2 => ?_) (fun hc2 => ?_)
    · skip
      refine w_seq ?_
      refine w_reg ?_
      refine wl_f (f_assign rfl) ?_
      refine wl_end [(6, _)] ⟨rfl, trivial⟩ ?_
      refine w_ret ?_
      refine ⟨_, _, fun a ha hh => results_tmps Try.results42 rfl a ha _, List.Sublist.refl _, ?_⟩
      have he : (if x.2.2 = 0 ∧ most < x.1 then over else x.2.2) ≠ 0 := hc2
      have hnf : (numF all most over s).1 = 0 ∧ (numF all most over s).2.2 = (if x.2.2 = 0 ∧ most < x.1 then over else x.2.2) := by
        rw [hx2]
        split
        · rename_i h; exact ⟨rfl, by rw [if_neg (by omega)]⟩
        · rename_i h
          split
          · rename_i h2; exact ⟨rfl, by rw [if_pos ⟨by omega, h2⟩]⟩
          · rename_i h2; rw [if_neg (by omega)] at he; omega
      refine ⟨by rw [hnf.1]; rfl, _, rfl, q, A', by rw [hnf.2], hq, hA, fun h => ?_⟩
      rw [hnf.2] at h
      exact absurd h he
    · skip
      have he : ¬ (if x.2.2 = 0 ∧ most < x.1 then over else x.2.2) ≠ 0 := hc2
      have he2 : x.2.2 = 0 ∧ ¬ most < x.1 := by
        split at he
        · exact absurd hover he
        · rename_i h; exact ⟨by omega, fun h2 => h ⟨by omega, h2⟩⟩
      have hnf : numF all most over s = x := by rw [hx2, if_neg (by omega), if_neg he2.2]
      refine w_skip ?_
      refine w_seq ?_
      refine w_reg ?_
      refine wl_f (f_move rfl) ?_
      refine wl_f (f_convi rfl Try.underlying38 Try.underlying3 (by omega)) ?_
      refine wl_f (f_assign rfl) ?_
      refine wl_end [(6, _)] ⟨rfl, trivial⟩ ?_
      refine w_ret ?_
      refine ⟨_, _, fun a ha hh => results_tmps Try.results42 rfl a ha _, List.Sublist.refl _, ?_⟩
      refine ⟨by rw [hnf]; rfl, _, rfl, q, A', ?_, hq, hA, by rw [hnf]; exact hqs⟩
      rw [hnf, if_neg (by omega)]

set_option maxHeartbeats 1000000 in
theorem rtext_spec : Spec Try.prog 44 [.pointer (some ⟨b, 0, .none⟩), .int .u64 4096] w r.foot
      fun v H => v = .string (textF all s).1 ∧ ∃ r', H = [r'] ∧ Rst b A all.length c (textF all s).2 r' := by
  have hsp : (fun k => k = b) = r.foot := hr.foot.symm
  have hcn : all.length ≤ c := by
    obtain ⟨_, _, e, _, h, _⟩ := id hV
    injection e with _ _ e
    subst e
    exact h
  have hx1 := numF_le all 4096 4 s
  have htf : textF all s = if (numF all 4096 4 s).2.2 ≠ 0 then (⟨#[]⟩, (numF all 4096 4 s).2) else if all.length - (numF all 4096 4 s).2.1 < (numF all 4096 4 s).1 then (⟨#[]⟩, ((numF all 4096 4 s).2.1, 2)) else
    (str ((all.drop (numF all 4096 4 s).2.1).take (numF all 4096 4 s).1), ((numF all 4096 4 s).2.1 + (numF all 4096 4 s).1, 0)) := rfl
  refine enter (n := 49) Try.func44 rfl rfl [(0, _), (1, _)] rfl ⟨rfl, rfl, trivial⟩ hs ?_
  refine w_seq ?_
  refine w_reg ?_
  refine wl_f (f_assign rfl) ?_
  refine wl_end [(0, _), (1, _)] ⟨rfl, rfl, trivial⟩ ?_
  refine w_seq ?_
  refine w_reg ?_
  refine wl_f (f_move rfl) ?_
  refine wl_f (f_move rfl) ?_
  refine wl_e (e_call1 r [] rfl Try.func42 (by kernel_rfl) (List.Perm.refl _) (fun w hh hs => rupto_spec b A c all s r w (by rw [hsp]; exact (hsp ▸ hV : Rd _ r.foot _ _ _ _).old1 hh (List.Perm.refl _)) hn hb hr hs 4096 4 (by omega) (by omega))) ?_
  rintro _ _ w1 ⟨_, rfl, rfl, r1, rfl, q, A', rfl, hq, hA, hqs⟩
  generalize numF all 4096 4 s = x at hx1 htf hq hA hqs ⊢
  refine wl_f (f_assign rfl) ?_
  refine wl_end [(0, _), (5, _)] ⟨rfl, rfl, trivial⟩ ?_
  refine w_seq ?_
  refine w_seq ?_
  refine w_reg ?_
  refine wl_f (f_move rfl) ?_
  refine wl_f (f_nilCheck rfl) ?_
  refine wl_f (f_fieldAddr 1 rfl Try.underlying80 rfl rfl (by kernel_rfl)) ?_
  (first | refine wl_f (f_loadb 0 rfl Try.underlying25 rfl rfl rfl) ?_ | refine wl_f (f_loadb 1 rfl Try.underlying25 rfl rfl rfl) ?_ | refine wl_f (f_loadb 2 rfl Try.underlying25 rfl rfl rfl) ?_ | refine wl_f (f_loadb 3 rfl Try.underlying25 rfl rfl rfl) ?_ | refine wl_f (f_loadb 4 rfl Try.underlying25 rfl rfl rfl) ?_ | refine wl_f (f_loadb 5 rfl Try.underlying25 rfl rfl rfl) ?_ | refine wl_f (f_loadb 6 rfl Try.underlying25 rfl rfl rfl) ?_)
  refine wl_f (f_eql rfl rfl) ?_
  refine wl_f (f_move rfl) ?_
  refine wl_and (j := 5) (c := decide (((all.length - q : Nat) : Int) < (x.1 : Int))) 7 [(0, _), (5, _)] ⟨rfl, rfl, trivial⟩ rfl rfl rfl rfl rfl (fun hg2_13 => ?_) (fun w2_13 => ?_)
  · skip
    refine wl_gf rfl rfl (f_move rfl) ?_
    refine wl_gf rfl rfl (f_move rfl) ?_
    refine wl_gf rfl rfl (f_nilCheck rfl) ?_
    refine wl_gf rfl rfl (f_fieldAddr 0 rfl Try.underlying80 rfl rfl (by kernel_rfl)) ?_
    (first | refine wl_gf rfl rfl (f_loadb 0 rfl Try.underlying22 rfl rfl rfl) ?_ | refine wl_gf rfl rfl (f_loadb 1 rfl Try.underlying22 rfl rfl rfl) ?_ | refine wl_gf rfl rfl (f_loadb 2 rfl Try.underlying22 rfl rfl rfl) ?_ | refine wl_gf rfl rfl (f_loadb 3 rfl Try.underlying22 rfl rfl rfl) ?_ | refine wl_gf rfl rfl (f_loadb 4 rfl Try.underlying22 rfl rfl rfl) ?_ | refine wl_gf rfl rfl (f_loadb 5 rfl Try.underlying22 rfl rfl rfl) ?_ | refine wl_gf rfl rfl (f_loadb 6 rfl Try.underlying22 rfl rfl rfl) ?_)
    refine wl_gf rfl rfl (f_len rfl Try.underlying22) ?_
    refine wl_gf rfl rfl (f_gtr rfl rfl) ?_
    exact wl_pend rfl rfl ⟨rfl, rfl, trivial⟩ (List.Sublist.refl _)
  refine wl_end [(0, _), (5, _), (23, _)] ⟨rfl, rfl, rfl, trivial⟩ ?_
  refine w_post (fun m H w => m = [(0, .pointer (some ⟨b, 0, .none⟩)), (5, .int .i64 x.1)] ∧ H = [blk b [.slice A' (all.length - q) (c - q), .int .i64 (if x.2.2 = 0 ∧ all.length - q < x.1 then 2 else x.2.2)] 80]) ?_ ?_
  · skip
    refine w_ifb rfl (fun hc1 => ?_) (fun hc1 => ?_)
    · skip
      refine w_reg ?_
      refine wl_f (f_move rfl) ?_
      refine wl_f (f_nilCheck rfl) ?_
      refine wl_f (f_fieldAddr 1 rfl Try.underlying80 rfl rfl (by kernel_rfl)) ?_
      (first | refine wl_e0 (e_store0 (us := [_]) rfl rfl rfl (by kernel_rfl) (by simp [Value.oneCell']) rfl rfl) ?_ | refine wl_e0 (e_store1 (us := [_]) rfl rfl rfl (by kernel_rfl) (by simp [Value.oneCell']) rfl rfl) ?_ | refine wl_e0 (e_store2 (us := [_]) rfl rfl rfl (by kernel_rfl) (by simp [Value.oneCell']) rfl rfl) ?_ | refine wl_e0 (e_store3 (us := [_]) rfl rfl rfl (by kernel_rfl) (by simp [Value.oneCell']) rfl rfl) ?_)
      rintro _ _ w3_3 rfl
      refine wl_end [(0, _), (5, _)] ⟨rfl, rfl, trivial⟩ ?_
      simp only [Bool.and_eq_true, decide_eq_true_eq] at hc1
      rw [if_pos (by omega)]
      exact ⟨rfl, rfl⟩
    · skip
      refine w_sub [(0, _), (5, _)] ⟨rfl, rfl, trivial⟩ (w_skip ?_)
      simp only [Bool.and_eq_true, decide_eq_true_eq] at hc1
      rw [if_neg (by omega)]
      exact ⟨rfl, rfl⟩
  · rintro _ _ w ⟨rfl, rfl⟩
    refine w_seq ?_
    refine w_seq ?_
    refine w_reg ?_
    refine wl_f (f_move rfl) ?_
    refine wl_f (f_nilCheck rfl) ?_
    refine wl_f (f_fieldAddr 1 rfl Try.underlying80 rfl rfl (by kernel_rfl)) ?_
    (first | refine wl_f (f_loadb 0 rfl Try.underlying25 rfl rfl rfl) ?_ | refine wl_f (f_loadb 1 rfl Try.underlying25 rfl rfl rfl) ?_ | refine wl_f (f_loadb 2 rfl Try.underlying25 rfl rfl rfl) ?_ | refine wl_f (f_loadb 3 rfl Try.underlying25 rfl rfl rfl) ?_ | refine wl_f (f_loadb 4 rfl Try.underlying25 rfl rfl rfl) ?_ | refine wl_f (f_loadb 5 rfl Try.underlying25 rfl rfl rfl) ?_ | refine wl_f (f_loadb 6 rfl Try.underlying25 rfl rfl rfl) ?_)
    refine wl_f (f_neq rfl rfl) ?_
    refine wl_end [(0, _), (5, _), (31, _)] ⟨rfl, rfl, rfl, trivial⟩ ?_
    refine w_ifd rfl (fun hc2 => ?_) (fun hc2 => ?_)
    · skip
      refine w_seq ?_
      refine w_reg ?_
      refine wl_f (f_assign rfl) ?_
      refine wl_end [(4, _)] ⟨rfl, trivial⟩ ?_
      refine w_ret ?_
      refine ⟨_, _, fun a ha hh => results_tmps Try.results44 rfl a ha _, List.Sublist.refl _, ?_⟩
      have he : (if x.2.2 = 0 ∧ all.length - q < x.1 then 2 else x.2.2) ≠ 0 := hc2
      have hnf : (textF all s).1 = ⟨#[]⟩ ∧ (textF all s).2.2 = (if x.2.2 = 0 ∧ all.length - q < x.1 then 2 else x.2.2) := by
        rw [htf]
        by_cases h1 : x.2.2 = 0
        · rw [if_neg (by omega)]
          have h2 := hqs h1
          by_cases h3 : all.length - x.2.1 < x.1
          · rw [if_pos h3, if_pos ⟨h1, by omega⟩]; exact ⟨rfl, rfl⟩
          · rw [if_neg (fun h => h3 (by rw [← h2]; exact h.2))] at he
            exact absurd h1 he
        · rw [if_pos h1, if_neg (by omega)]; exact ⟨rfl, rfl⟩
      refine ⟨by rw [hnf.1]; rfl, _, rfl, q, A', by rw [hnf.2], hq, hA, fun h => ?_⟩
      rw [hnf.2] at h
      exact absurd h he
    · skip
      have he : ¬ (if x.2.2 = 0 ∧ all.length - q < x.1 then 2 else x.2.2) ≠ 0 := hc2
      have he2 : x.2.2 = 0 ∧ ¬ all.length - q < x.1 := by
        split at he
        · omega
        · rename_i h; exact ⟨by omega, fun h2 => h ⟨by omega, h2⟩⟩
      have hqx := hqs he2.1
      have hnf : textF all s = (str ((all.drop q).take x.1), (q + x.1, 0)) := by rw [htf, if_neg (by omega), if_neg (by omega), hqx]
      have hqe : (if x.2.2 = 0 ∧ all.length - q < x.1 then 2 else x.2.2) = 0 := by rw [if_neg (by omega)]; exact he2.1
      rw [hqe]
      clear hc2
      refine w_skip ?_
      refine w_seq ?_
      refine w_reg ?_
      refine wl_f (f_move rfl) ?_
      refine wl_f (f_nilCheck rfl) ?_
      refine wl_f (f_fieldAddr 0 rfl Try.underlying80 rfl rfl (by kernel_rfl)) ?_
      (first | refine wl_f (f_loadb 0 rfl Try.underlying22 rfl rfl rfl) ?_ | refine wl_f (f_loadb 1 rfl Try.underlying22 rfl rfl rfl) ?_ | refine wl_f (f_loadb 2 rfl Try.underlying22 rfl rfl rfl) ?_ | refine wl_f (f_loadb 3 rfl Try.underlying22 rfl rfl rfl) ?_ | refine wl_f (f_loadb 4 rfl Try.underlying22 rfl rfl rfl) ?_ | refine wl_f (f_loadb 5 rfl Try.underlying22 rfl rfl rfl) ?_ | refine wl_f (f_loadb 6 rfl Try.underlying22 rfl rfl rfl) ?_)
      refine wl_f (f_move rfl) ?_
      refine wl_f (f_sliceA 1 (l := 0) (u := x.1) rfl Try.underlying22 (by kernel_rfl) rfl ⟨_, rfl⟩ (by omega) (by omega)) ?_
      refine wl_f (f_b2s (xs := (all.drop q).take x.1) rfl Try.underlying22 Try.underlying5 Try.underlying9 (fun w hh => rd_prefix (rd_behind ((hsp ▸ hV : Rd _ r.foot _ _ _ _).old0 hh) hq hA) (by rw [List.length_drop]) (by rw [List.length_drop]; omega))) ?_
      refine wl_f (f_assign rfl) ?_
      refine wl_end [(0, _), (5, _), (6, _)] ⟨rfl, rfl, rfl, trivial⟩ ?_
      refine w_seq ?_
      refine w_reg ?_
      refine wl_f (f_move rfl) ?_
      refine wl_f (f_move rfl) ?_
      refine wl_f (f_nilCheck rfl) ?_
      refine wl_f (f_fieldAddr 0 rfl Try.underlying80 rfl rfl (by kernel_rfl)) ?_
      (first | refine wl_f (f_loadb 0 rfl Try.underlying22 rfl rfl rfl) ?_ | refine wl_f (f_loadb 1 rfl Try.underlying22 rfl rfl rfl) ?_ | refine wl_f (f_loadb 2 rfl Try.underlying22 rfl rfl rfl) ?_ | refine wl_f (f_loadb 3 rfl Try.underlying22 rfl rfl rfl) ?_ | refine wl_f (f_loadb 4 rfl Try.underlying22 rfl rfl rfl) ?_ | refine wl_f (f_loadb 5 rfl Try.underlying22 rfl rfl rfl) ?_ | refine wl_f (f_loadb 6 rfl Try.underlying22 rfl rfl rfl) ?_)
      refine wl_f (f_move rfl) ?_
      refine wl_f (f_sliceA 1 (l := x.1) (u := all.length - q) rfl Try.underlying22 (by kernel_rfl) ⟨_, rfl⟩ rfl (by omega) (by omega)) ?_
      refine wl_f (f_nilCheck rfl) ?_
      refine wl_f (f_fieldAddr 0 rfl Try.underlying80 rfl rfl (by kernel_rfl)) ?_
      (first | refine wl_e0 (e_store0 (us := [_]) rfl rfl rfl (by kernel_rfl) (by simp [Value.oneCell']) rfl rfl) ?_ | refine wl_e0 (e_store1 (us := [_]) rfl rfl rfl (by kernel_rfl) (by simp [Value.oneCell']) rfl rfl) ?_ | refine wl_e0 (e_store2 (us := [_]) rfl rfl rfl (by kernel_rfl) (by simp [Value.oneCell']) rfl rfl) ?_ | refine wl_e0 (e_store3 (us := [_]) rfl rfl rfl (by kernel_rfl) (by simp [Value.oneCell']) rfl rfl) ?_)
      rintro _ _ w7_9 rfl
      refine wl_end [(6, _)] ⟨rfl, trivial⟩ ?_
      refine w_seq ?_
      refine w_reg ?_
      refine wl_f (f_move rfl) ?_
      refine wl_f (f_assign rfl) ?_
      refine wl_end [(4, _)] ⟨rfl, trivial⟩ ?_
      refine w_ret ?_
      refine ⟨_, _, fun a ha hh => results_tmps Try.results44 rfl a ha _, List.Sublist.refl _, ?_⟩
      exact ⟨by rw [hnf]; rfl, _, rfl, by rw [hnf]; exact ⟨q + x.1, _, by rw [Nat.sub_sub, Nat.sub_sub]; rfl, by omega, behind_step hA, fun _ => rfl⟩⟩
end
end Go.Proofs.Ythbjjfpikfmmnaa
