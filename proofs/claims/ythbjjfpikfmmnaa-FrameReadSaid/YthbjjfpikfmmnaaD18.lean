/- Reading a number: both functions answer alike. -/
import Derived.Test.YthbjjfpikfmmnaaD4
namespace Go.Proofs.Ythbjjfpikfmmnaa
open Go.RowKit

/-- What is read at the beginning of bytes, of which i have been taken: the number, how many bytes it takes, the error. -/
def rd : List Nat → Nat → Nat → Nat × Nat × Int
  | [], i, _ => if i < 10 then (0, 0, 2) else (0, 0, 3)
  | b :: l, i, acc => if 10 ≤ i then (0, 0, 3) else if i = 9 ∧ 1 < b % 128 then (0, 0, 3) else
    if 128 ≤ b then rd l (i + 1) (acc + b % 128 * 128 ^ i) else if b = 0 ∧ 0 < i then (0, 0, 3) else (acc + b % 128 * 128 ^ i, i + 1, 0)
def readL (xs : List Nat) : Nat × Nat × Int := rd xs 0 0
theorem rd_ten (l : List Nat) (acc : Nat) : rd l 10 acc = (0, 0, 3) := by cases l <;> simp [rd]

theorem andNot128 (b : Nat) (h : b < 256) : bits .andNot .u8 (b : Int) 128 = ((b % 128 : Nat) : Int) := by
  have h' : ∀ a : Fin 256, bits .andNot .u8 (a.val : Int) 128 = ((a.val % 128 : Nat) : Int) := by decide +kernel
  exact h' ⟨b, h⟩
theorem u64_or_add (acc g i : Nat) (ha : acc < 128 ^ i) (hs : acc + g * 128 ^ i < 18446744073709551616) : bits .or .u64 (acc : Int) ((g * 128 ^ i : Nat) : Int) = ((acc + g * 128 ^ i : Nat) : Int) := by
  have h : bits .or .u64 (acc : Int) ((g * 128 ^ i : Nat) : Int) = IntKind.u64.wrap ((BitVec.ofInt 64 (acc : Int) ||| BitVec.ofInt 64 ((g * 128 ^ i : Nat) : Int)).toNat : Int) := rfl
  have e1 : (BitVec.ofInt 64 (acc : Int)).toNat = acc := by rw [BitVec.toNat_ofInt]; omega
  have e2 : (BitVec.ofInt 64 ((g * 128 ^ i : Nat) : Int)).toNat = g * 128 ^ i := by rw [BitVec.toNat_ofInt]; omega
  have e3 : acc ||| g * 128 ^ i = acc + g * 128 ^ i := by
    have h7 : (128 : Nat) ^ i = 2 ^ (7 * i) := by rw [Nat.pow_mul]
    rw [h7] at ha ⊢
    have := Nat.shiftLeft_add_eq_or_of_lt ha g
    rw [Nat.shiftLeft_eq] at this
    rw [Nat.or_comm, ← this, Nat.add_comm]
  rw [h, BitVec.toNat_or, e1, e2, e3, IntKind.wrap_u64]
  omega
theorem shl7 (g i : Nat) (hi : i ≤ 9) (hs : g * 128 ^ i < 18446744073709551616) : IntKind.u64.wrap ((g : Int) * 2 ^ min (Int.toNat (7 * (i : Int))) IntKind.u64.bits) = ((g * 128 ^ i : Nat) : Int) := by
  have e : min (Int.toNat (7 * (i : Int))) IntKind.u64.bits = 7 * i := by
    rw [show (7 * (i : Int)).toNat = 7 * i by omega]; exact Nat.min_eq_left (by show 7 * i ≤ 64; omega)
  have h7 : (128 : Nat) ^ i = 2 ^ (7 * i) := by rw [Nat.pow_mul]
  rw [e, IntKind.wrap_u64, show ((g : Int) * 2 ^ (7 * i)) = ((g * 2 ^ (7 * i) : Nat) : Int) by push_cast; rfl, ← h7]
  omega

def ReadSpec (f : FuncId) : Prop := ∀ (v : Value) (xs : List Nat) (w : World), Rd w Nil 1 v xs.length (bv xs) → xs.length ≤ 140737488355328 → (∀ b ∈ xs, b < 256) →
  Spec Try.prog f [v] w Nil fun r H => r = .tuple #[.int .u64 ((readL xs).1 : Int), .int .i64 ((readL xs).2.1 : Int), .int .i64 (readL xs).2.2] ∧ H = []

theorem pow128_le (i j : Nat) (h : i ≤ j) : 128 ^ i ≤ 128 ^ j := Nat.pow_le_pow_right (by omega) h
theorem drop_cons {xs : List Nat} {i : Nat} (h : i < xs.length) : xs.drop i = xs[i] :: xs.drop (i + 1) := List.drop_eq_getElem_cons h

set_option maxHeartbeats 1000000 in
theorem read_spec : ReadSpec 21 := by
  intro v xs w hr hn hb
  obtain ⟨A, c, rfl, hlen, hcap, hA⟩ := id hr
  refine enter (n := 55) Try.func21 rfl rfl [(0, _)] rfl ⟨rfl, trivial⟩ (Holds.start _ _) ?_
  refine w_seq ?_
  refine w_reg ?_
  refine wl_f (f_assign rfl) ?_
  refine wl_f (f_assign rfl) ?_
  refine wl_f (f_assign rfl) ?_
  refine wl_end [(0, _), (2, _)] ⟨rfl, rfl, trivial⟩ ?_
  refine w_seq ?_
  refine w_seq ?_
  refine w_reg ?_
  refine wl_f (f_assign rfl) ?_
  refine wl_end [(0, _), (2, _), (5, _)] ⟨rfl, rfl, rfl, trivial⟩ ?_
  refine w_block ?_
  refine w_loop (fun k m H w => ∃ (i acc : Nat), m = [(0, .slice A xs.length c), (2, .int .u64 acc), (5, .int .i64 i)] ∧ H = [] ∧ k + i = xs.length ∧ i ≤ 10 ∧ (i ≤ 9 → acc < 128 ^ i) ∧ readL xs = rd (xs.drop i) i acc) xs.length
    ⟨0, 0, rfl, rfl, by omega, by omega, fun _ => by simp, rfl⟩ ?_
  rintro k _ _ w1 ⟨i, acc, rfl, rfl, hk, hi10, hacc, hread⟩
  refine w_seq ?_
  refine w_seq ?_
  refine w_reg ?_
  refine wl_f (f_move rfl) ?_
  refine wl_f (f_move rfl) ?_
  refine wl_f (f_len rfl Try.underlying22) ?_
  refine wl_f (f_lss rfl rfl) ?_
  refine wl_f (f_move rfl) ?_
  refine wl_and (j := 4) (c := decide ((i : Int) < 10)) 2 [(0, _), (2, _), (5, _)] ⟨rfl, rfl, rfl, trivial⟩ rfl rfl rfl rfl rfl (fun hg2_7 => ?_) (fun w2_7 => ?_)
  · skip
    refine wl_gf rfl rfl (f_move rfl) ?_
    refine wl_gf rfl rfl (f_lss rfl rfl) ?_
    exact wl_pend rfl rfl ⟨rfl, rfl, rfl, trivial⟩ (List.Sublist.refl _)
  refine wl_end [(0, _), (2, _), (5, _), (14, _)] ⟨rfl, rfl, rfl, rfl, trivial⟩ ?_
  refine w_ifb rfl (fun hc1 => ?_) (fun hc1 => ?_)
  · skip
    simp only [Bool.and_eq_true, decide_eq_true_eq] at hc1
    have hlt : i < xs.length := by omega
    have hb256 := hb xs[i] (List.getElem_mem hlt)
    have hac := hacc (by omega)
    obtain ⟨bb, off, rfl, _, _, hcell⟩ := hA.resolve_left (by omega)
    rw [drop_cons hlt, rd, if_neg (by omega)] at hread
    refine w_skip ?_
    refine w_seq ?_
    refine w_block ?_
    refine w_seq ?_
    refine w_reg ?_
    refine wl_f (f_move rfl) ?_
    refine wl_f (f_move rfl) ?_
    refine wl_f (f_indexAddr 1 (i := i) rfl rfl Try.underlying22 (by kernel_rfl) rfl hlt) ?_
    refine wl_f (f_loado rfl Try.underlying5 rfl (hcell (i * 1) _ (bv_get1 xs i hlt)) id) ?_
    refine wl_f (f_andNot rfl rfl (andNot128 _ hb256)) ?_
    refine wl_f (f_convu rfl Try.underlying5 Try.underlying38 (by omega)) ?_
    refine wl_f (f_assign rfl) ?_
    refine wl_end [(0, _), (2, _), (5, _), (6, _)] ⟨rfl, rfl, rfl, rfl, trivial⟩ ?_
    refine w_seq ?_
    refine w_seq ?_
    refine w_reg ?_
    refine wl_f (f_move rfl) ?_
    refine wl_f (f_eql rfl rfl) ?_
    refine wl_f (f_move rfl) ?_
    refine wl_and (j := 2) (c := decide ((1 : Int) < ((xs[i] % 128 : Nat) : Int))) 2 [(0, _), (2, _), (5, _), (6, _)] ⟨rfl, rfl, rfl, rfl, trivial⟩ rfl rfl rfl rfl rfl (fun hg5_5 => ?_) (fun w5_5 => ?_)
    · skip
      refine wl_gf rfl rfl (f_move rfl) ?_
      refine wl_gf rfl rfl (f_gtr rfl rfl) ?_
      exact wl_pend rfl rfl ⟨rfl, rfl, rfl, rfl, trivial⟩ (List.Sublist.refl _)
    refine wl_end [(0, _), (2, _), (5, _), (6, _), (28, _)] ⟨rfl, rfl, rfl, rfl, rfl, trivial⟩ ?_
    refine w_ifb rfl (fun hc2 => ?_) (fun hc2 => ?_)
    · skip
      simp only [Bool.and_eq_true, decide_eq_true_eq] at hc2
      rw [if_pos (by omega)] at hread
      refine w_seq ?_
      refine w_reg ?_
      refine wl_f (f_assign rfl) ?_
      refine wl_f (f_assign rfl) ?_
      refine wl_f (f_assign rfl) ?_
      refine wl_end [(2, _), (3, _), (4, _)] ⟨rfl, rfl, rfl, trivial⟩ ?_
      refine w_ret ?_
      refine ⟨_, _, fun a ha hh => results_tmps Try.results21 rfl a ha _, List.Sublist.refl _, ?_⟩
      exact ⟨by rw [hread]; rfl, rfl⟩
    · skip
      simp only [Bool.and_eq_true, decide_eq_true_eq] at hc2
      have hg : xs[i] % 128 * 128 ^ i < 9223372036854775809 := by
        rcases Nat.lt_or_ge i 9 with h9 | h9
        · have h1 : xs[i] % 128 * 128 ^ i ≤ 127 * 128 ^ i := Nat.mul_le_mul_right _ (by omega)
          have h2 := pow128_le i 8 (by omega)
          omega
        · have : i = 9 := by omega
          subst this
          have h1 : xs[9] % 128 * 128 ^ 9 ≤ 1 * 128 ^ 9 := Nat.mul_le_mul_right _ (by omega)
          omega
      have hp9 := pow128_le i 9 (by omega)
      rw [if_neg (by omega)] at hread
      refine w_skip ?_
      refine w_seq ?_
      refine w_reg ?_
      refine wl_f (f_move rfl) ?_
      refine wl_f (f_move rfl) ?_
      refine wl_f (f_move rfl) ?_
      refine wl_f (f_mul rfl rfl (by omega)) ?_
      refine wl_f (f_shl (r := ((xs[i] % 128 * 128 ^ i : Nat) : Int)) rfl rfl (by omega) (shl7 _ i (by omega) (by omega))) ?_
      refine wl_f (f_or rfl rfl (u64_or_add acc (xs[i] % 128) i hac (by omega))) ?_
      refine wl_f (f_assign rfl) ?_
      refine wl_end [(0, _), (2, _), (5, _)] ⟨rfl, rfl, rfl, trivial⟩ ?_
      refine w_seq ?_
      refine w_seq ?_
      refine w_reg ?_
      refine wl_f (f_move rfl) ?_
      refine wl_f (f_move rfl) ?_
      refine wl_f (f_indexAddr 1 (i := i) rfl rfl Try.underlying22 (by kernel_rfl) rfl hlt) ?_
      refine wl_f (f_loado rfl Try.underlying5 rfl (hcell (i * 1) _ (bv_get1 xs i hlt)) id) ?_
      refine wl_f (f_geq rfl rfl) ?_
      refine wl_end [(0, _), (2, _), (5, _), (39, _)] ⟨rfl, rfl, rfl, rfl, trivial⟩ ?_
      refine w_ifd rfl (fun hc3 => ?_) (fun hc3 => ?_)
      · skip
        rw [if_pos (by omega)] at hread
        refine w_exit0 ?_
        refine w_reg ?_
        refine wl_f (f_move rfl) ?_
        refine wl_f (f_add rfl rfl (by omega)) ?_
        refine wl_f (f_assign rfl) ?_
        refine wl_end [(0, _), (2, _), (5, _)] ⟨rfl, rfl, rfl, trivial⟩ ?_
        refine ⟨k - 1, by omega, i + 1, acc + xs[i] % 128 * 128 ^ i, rfl, rfl, by omega, by omega, fun h9 => ?_, hread⟩
        have h1 : xs[i] % 128 * 128 ^ i ≤ 127 * 128 ^ i := Nat.mul_le_mul_right _ (by omega)
        rw [Nat.pow_succ]
        omega
      · skip
        rw [if_neg (by omega)] at hread
        refine w_skip ?_
        refine w_seq ?_
        refine w_seq ?_
        refine w_reg ?_
        refine wl_f (f_move rfl) ?_
        refine wl_f (f_move rfl) ?_
        refine wl_f (f_indexAddr 1 (i := i) rfl rfl Try.underlying22 (by kernel_rfl) rfl hlt) ?_
        refine wl_f (f_loado rfl Try.underlying5 rfl (hcell (i * 1) _ (bv_get1 xs i hlt)) id) ?_
        refine wl_f (f_eql rfl rfl) ?_
        refine wl_f (f_move rfl) ?_
        refine wl_and (j := 5) (c := decide ((0 : Int) < (i : Int))) 2 [(2, _), (5, _)] ⟨rfl, rfl, trivial⟩ rfl rfl rfl rfl rfl (fun hg9_8 => ?_) (fun w9_8 => ?_)
        · skip
          refine wl_gf rfl rfl (f_move rfl) ?_
          refine wl_gf rfl rfl (f_gtr rfl rfl) ?_
          exact wl_pend rfl rfl ⟨rfl, rfl, trivial⟩ (List.Sublist.refl _)
        refine wl_end [(2, _), (5, _), (48, _)] ⟨rfl, rfl, rfl, trivial⟩ ?_
        refine w_ifb rfl (fun hc4 => ?_) (fun hc4 => ?_)
        · skip
          simp only [Bool.and_eq_true, decide_eq_true_eq] at hc4
          rw [if_pos (by omega)] at hread
          refine w_seq ?_
          refine w_reg ?_
          refine wl_f (f_assign rfl) ?_
          refine wl_f (f_assign rfl) ?_
          refine wl_f (f_assign rfl) ?_
          refine wl_end [(2, _), (3, _), (4, _)] ⟨rfl, rfl, rfl, trivial⟩ ?_
          refine w_ret ?_
          refine ⟨_, _, fun a ha hh => results_tmps Try.results21 rfl a ha _, List.Sublist.refl _, ?_⟩
          exact ⟨by rw [hread]; rfl, rfl⟩
        · skip
          simp only [Bool.and_eq_true, decide_eq_true_eq] at hc4
          rw [if_neg (by omega)] at hread
          refine w_skip ?_
          refine w_seq ?_
          refine w_reg ?_
          refine wl_f (f_move rfl) ?_
          refine wl_f (f_move rfl) ?_
          refine wl_f (f_add rfl rfl (by omega)) ?_
          refine wl_f (f_assign rfl) ?_
          refine wl_f (f_assign rfl) ?_
          refine wl_f (f_assign rfl) ?_
          refine wl_end [(2, _), (3, _), (4, _)] ⟨rfl, rfl, rfl, trivial⟩ ?_
          refine w_ret ?_
          refine ⟨_, _, fun a ha hh => results_tmps Try.results21 rfl a ha _, List.Sublist.refl _, ?_⟩
          exact ⟨by rw [hread]; rfl, rfl⟩
  · skip
    simp only [Bool.and_eq_true, decide_eq_true_eq] at hc1
    refine w_exit0 ?_
    refine w_seq ?_
    refine w_seq ?_
    refine w_reg ?_
    refine wl_f (f_move rfl) ?_
    refine wl_f (f_len rfl Try.underlying22) ?_
    refine wl_f (f_lss rfl rfl) ?_
    refine wl_end [(54, _)] ⟨rfl, trivial⟩ ?_
    refine w_ifd rfl (fun hc5 => ?_) (fun hc5 => ?_)
    · skip
      refine w_seq ?_
      refine w_reg ?_
      refine wl_f (f_assign rfl) ?_
      refine wl_f (f_assign rfl) ?_
      refine wl_f (f_assign rfl) ?_
      refine wl_end [(2, _), (3, _), (4, _)] ⟨rfl, rfl, rfl, trivial⟩ ?_
      refine w_ret ?_
      refine ⟨_, _, fun a ha hh => results_tmps Try.results21 rfl a ha _, List.Sublist.refl _, ?_⟩
      exact ⟨by rw [hread, List.drop_eq_nil_of_le (by omega), rd, if_pos (by omega)]; rfl, rfl⟩
    · skip
      refine w_skip ?_
      refine w_seq ?_
      refine w_reg ?_
      refine wl_f (f_assign rfl) ?_
      refine wl_f (f_assign rfl) ?_
      refine wl_f (f_assign rfl) ?_
      refine wl_end [(2, _), (3, _), (4, _)] ⟨rfl, rfl, rfl, trivial⟩ ?_
      refine w_ret ?_
      refine ⟨_, _, fun a ha hh => results_tmps Try.results21 rfl a ha _, List.Sublist.refl _, ?_⟩
      have : i = 10 := by omega
      subst this
      exact ⟨by rw [hread, rd_ten]; rfl, rfl⟩

def valL : List Nat → Nat
  | [] => 0
  | b :: l => b % 128 + 128 * valL l
theorem valL_append (l : List Nat) (b : Nat) : valL (l ++ [b]) = valL l + b % 128 * 128 ^ l.length := by
  induction l with
  | nil => simp [valL]
  | cons a l ih =>
    simp only [List.cons_append, valL, ih, List.length_cons, Nat.pow_succ, Nat.mul_add]
    have : 128 * (b % 128 * 128 ^ l.length) = b % 128 * (128 ^ l.length * 128) := by rw [Nat.mul_comm 128, Nat.mul_assoc]
    omega
theorem valL_lt (l : List Nat) : valL l < 128 ^ l.length := by
  induction l with
  | nil => simp [valL]
  | cons a l ih =>
    simp only [valL, List.length_cons, Nat.pow_succ]
    omega
theorem valL_drop (l : List Nat) (j : Nat) : valL (l.drop j) ≤ valL l := by
  induction l generalizing j with
  | nil => simp
  | cons a l ih =>
    cases j with
    | zero => simp
    | succ j => have := ih j; simp only [List.drop_succ_cons, valL]; omega
theorem rd_skip (xs : List Nat) : ∀ j, j ≤ 9 → j ≤ xs.length → (∀ x ∈ xs.take j, 128 ≤ x) → readL xs = rd (xs.drop j) j (valL (xs.take j)) := by
  intro j
  induction j with
  | zero => intro _ _ _; simp [readL, valL]
  | succ j ih =>
    intro h9 hl hx
    have hlt : j < xs.length := by omega
    have hs : xs.take (j + 1) = xs.take j ++ [xs[j]] := List.take_succ_eq_append_getElem hlt
    rw [ih (by omega) (by omega) (fun x hx' => hx x (by rw [hs]; exact List.mem_append_left _ hx')), drop_cons hlt, rd, if_neg (by omega), if_neg (by omega), if_pos (hx xs[j] (by rw [hs]; exact List.mem_append_right _ (List.mem_singleton.2 rfl))), hs, valL_append, List.length_take, Nat.min_eq_left (by omega)]
theorem readL_ten (xs : List Nat) (h : 10 ≤ xs.length) (hx : ∀ x ∈ xs.take 10, 128 ≤ x) : readL xs = (0, 0, 3) := by
  have hlt : 9 < xs.length := by omega
  have hs : xs.take (9 + 1) = xs.take 9 ++ [xs[9]] := List.take_succ_eq_append_getElem hlt
  rw [rd_skip xs 9 (by omega) (by omega) (fun x hx' => hx x (by rw [hs]; exact List.mem_append_left _ hx')), drop_cons hlt, rd, if_neg (by omega)]
  split
  · rfl
  · rw [if_pos (hx xs[9] (by rw [hs]; exact List.mem_append_right _ (List.mem_singleton.2 rfl))), rd_ten]

set_option maxHeartbeats 1000000 in
theorem rread_spec : ReadSpec 28 := by
  intro v xs w hr hn hb
  obtain ⟨A, c, rfl, hlen, hcap, hA⟩ := id hr
  refine enter (n := 67) Try.func28 rfl rfl [(0, _)] rfl ⟨rfl, trivial⟩ (Holds.start _ _) ?_
  refine w_seq ?_
  refine w_reg ?_
  refine wl_f (f_assign rfl) ?_
  refine wl_f (f_assign rfl) ?_
  refine wl_f (f_assign rfl) ?_
  refine wl_end [(0, _), (2, _)] ⟨rfl, rfl, trivial⟩ ?_
  refine w_seq ?_
  refine w_reg ?_
  refine wl_f (f_assign rfl) ?_
  refine wl_end [(0, _), (2, _), (5, _)] ⟨rfl, rfl, rfl, trivial⟩ ?_
  refine w_seq ?_
  refine w_block ?_
  refine w_loop (fun k m H w => ∃ i : Nat, m = [(0, .slice A xs.length c), (2, .int .u64 0), (5, .int .i64 i)] ∧ H = [] ∧ k + i = xs.length ∧ i ≤ 10 ∧ ∀ x ∈ xs.take i, 128 ≤ x) xs.length
    ⟨0, rfl, rfl, by omega, by omega, by simp⟩ ?_
  rintro k _ _ w1 ⟨i, rfl, rfl, hk, hi10, hall⟩
  refine w_seq ?_
  refine w_seq ?_
  refine w_reg ?_
  refine wl_f (f_move rfl) ?_
  refine wl_f (f_move rfl) ?_
  refine wl_f (f_len rfl Try.underlying22) ?_
  refine wl_f (f_lss rfl rfl) ?_
  refine wl_f (f_move rfl) ?_
  refine wl_and (j := 4) (c := decide ((i : Int) < 10)) 2 [(0, _), (2, _), (5, _)] ⟨rfl, rfl, rfl, trivial⟩ rfl rfl rfl rfl rfl (fun hg2_7 => ?_) (fun w2_7 => ?_)
  · skip
    refine wl_gf rfl rfl (f_move rfl) ?_
    refine wl_gf rfl rfl (f_lss rfl rfl) ?_
    exact wl_pend rfl rfl ⟨rfl, rfl, rfl, trivial⟩ (List.Sublist.refl _)
  refine wl_f (f_move rfl) ?_
  refine wl_and (j := 8) (c := decide ((128 : Int) ≤ ((xs.getD i 0 : Nat) : Int))) 5 [(0, _), (2, _), (5, _)] ⟨rfl, rfl, rfl, trivial⟩ rfl rfl rfl rfl rfl (fun hg2_14 => ?_) (fun w2_14 => ?_)
  · skip
    refine wl_gf rfl rfl (f_move rfl) ?_
    refine wl_gf rfl rfl (f_move rfl) ?_
    simp only [Bool.and_eq_true, decide_eq_true_eq] at hg2_14
    have hlt : i < xs.length := by omega
    obtain ⟨bb, off, rfl, _, _, hcell⟩ := hA.resolve_left (by omega)
    refine wl_gf rfl rfl (f_indexAddr 1 (i := i) rfl rfl Try.underlying22 (by kernel_rfl) rfl hlt) ?_
    refine wl_gf rfl rfl (f_eqv (v' := .int .u8 ((xs.getD i 0 : Nat) : Int)) (f_loado rfl Try.underlying5 rfl (hcell (i * 1) _ (bv_get1 xs i hlt)) id) (by simp [hlt])) ?_
    refine wl_gf rfl rfl (f_geq rfl rfl) ?_
    exact wl_pend rfl rfl ⟨rfl, rfl, rfl, trivial⟩ (List.Sublist.refl _)
  refine wl_end [(0, _), (2, _), (5, _), (21, _)] ⟨rfl, rfl, rfl, rfl, trivial⟩ ?_
  refine w_ifb rfl (fun hc1 => ?_) (fun hc1 => ?_)
  · skip
    simp only [Bool.and_eq_true, decide_eq_true_eq] at hc1
    have hlt : i < xs.length := by omega
    have hgd : xs.getD i 0 = xs[i] := by simp [hlt]
    refine w_skip ?_
    refine w_block ?_
    refine w_reg ?_
    refine wl_f (f_move rfl) ?_
    refine wl_f (f_add rfl rfl (by omega)) ?_
    refine wl_f (f_assign rfl) ?_
    refine wl_end [(0, _), (2, _), (5, _)] ⟨rfl, rfl, rfl, trivial⟩ ?_
    refine ⟨k - 1, by omega, i + 1, rfl, rfl, by omega, by omega, ?_⟩
    rw [List.take_succ_eq_append_getElem hlt]
    intro x hx
    rcases List.mem_append.1 hx with hx | hx
    · exact hall x hx
    · rw [List.mem_singleton] at hx; subst hx; omega
  · skip
    simp only [Bool.and_eq_true, decide_eq_true_eq] at hc1
    refine w_exit0 ?_
    refine w_seq ?_
    refine w_seq ?_
    refine w_reg ?_
    refine wl_f (f_move rfl) ?_
    refine wl_f (f_eql rfl rfl) ?_
    refine wl_end [(0, _), (2, _), (5, _), (25, _)] ⟨rfl, rfl, rfl, rfl, trivial⟩ ?_
    refine w_ifd rfl (fun hc2 => ?_) (fun hc2 => ?_)
    · skip
      have : i = 10 := by omega
      subst this
      refine w_seq ?_
      refine w_reg ?_
      refine wl_f (f_assign rfl) ?_
      refine wl_f (f_assign rfl) ?_
      refine wl_f (f_assign rfl) ?_
      refine wl_end [(2, _), (3, _), (4, _)] ⟨rfl, rfl, rfl, trivial⟩ ?_
      refine w_ret ?_
      refine ⟨_, _, fun a ha hh => results_tmps Try.results28 rfl a ha _, List.Sublist.refl _, ?_⟩
      exact ⟨by rw [readL_ten xs (by omega) hall]; rfl, rfl⟩
    · skip
      have hread := rd_skip xs i (by omega) (by omega) hall
      refine w_skip ?_
      refine w_seq ?_
      refine w_seq ?_
      refine w_reg ?_
      refine wl_f (f_move rfl) ?_
      refine wl_f (f_move rfl) ?_
      refine wl_f (f_len rfl Try.underlying22) ?_
      refine wl_f (f_eql rfl rfl) ?_
      refine wl_end [(0, _), (2, _), (5, _), (29, _)] ⟨rfl, rfl, rfl, rfl, trivial⟩ ?_
      refine w_ifd rfl (fun hc3 => ?_) (fun hc3 => ?_)
      · skip
        rw [List.drop_eq_nil_of_le (by omega), rd, if_pos (by omega)] at hread
        refine w_seq ?_
        refine w_reg ?_
        refine wl_f (f_assign rfl) ?_
        refine wl_f (f_assign rfl) ?_
        refine wl_f (f_assign rfl) ?_
        refine wl_end [(2, _), (3, _), (4, _)] ⟨rfl, rfl, rfl, trivial⟩ ?_
        refine w_ret ?_
        refine ⟨_, _, fun a ha hh => results_tmps Try.results28 rfl a ha _, List.Sublist.refl _, ?_⟩
        exact ⟨by rw [hread]; rfl, rfl⟩
      · skip
        have hlt : i < xs.length := by omega
        have hgd : xs.getD i 0 = xs[i] := by simp [hlt]
        have hsm : xs[i] < 128 := by omega
        obtain ⟨bb, off, rfl, _, _, hcell⟩ := hA.resolve_left (by omega)
        clear hA
        rw [drop_cons hlt, rd, if_neg (by omega), if_neg (show ¬ 128 ≤ xs[i] by omega)] at hread
        refine w_skip ?_
        refine w_seq ?_
        refine w_seq ?_
        refine w_reg ?_
        refine wl_f (f_move rfl) ?_
        refine wl_f (f_eql rfl rfl) ?_
        refine wl_f (f_move rfl) ?_
        refine wl_and (j := 2) (c := decide ((1 : Int) < ((xs[i] : Nat) : Int))) 5 [(0, _), (2, _), (5, _)] ⟨rfl, rfl, rfl, trivial⟩ rfl rfl rfl rfl rfl (fun hg8_8 => ?_) (fun w8_8 => ?_)
        · skip
          refine wl_gf rfl rfl (f_move rfl) ?_
          refine wl_gf rfl rfl (f_move rfl) ?_
          refine wl_gf rfl rfl (f_indexAddr 1 (i := i) rfl rfl Try.underlying22 (by kernel_rfl) rfl hlt) ?_
          refine wl_gf rfl rfl (f_loado rfl Try.underlying5 rfl (hcell (i * 1) _ (bv_get1 xs i hlt)) id) ?_
          refine wl_gf rfl rfl (f_gtr rfl rfl) ?_
          exact wl_pend rfl rfl ⟨rfl, rfl, rfl, trivial⟩ (List.Sublist.refl _)
        refine wl_f (f_move rfl) ?_
        refine wl_or (j := 9) (c := decide ((0 : Int) < (i : Int)) && decide (((xs[i] : Nat) : Int) = 0)) 9 [(0, _), (2, _), (5, _)] ⟨rfl, rfl, rfl, trivial⟩ rfl rfl rfl rfl rfl (fun hg8_19 => ?_) (fun w8_19 => ?_)
        · skip
          refine wl_gf rfl rfl (f_move rfl) ?_
          refine wl_gf rfl rfl (f_gtr rfl rfl) ?_
          refine wl_gf rfl rfl (f_move rfl) ?_
          refine wl_andg (j := 12) (c := decide (((xs[i] : Nat) : Int) = 0)) 5 [(0, _), (2, _), (5, _), (39, _)] ⟨rfl, rfl, rfl, rfl, trivial⟩ rfl rfl rfl rfl rfl rfl rfl (fun hg8_18 => ?_) (fun w8_18 => ?_)
          · skip
            refine wl_gf rfl rfl (f_move rfl) ?_
            refine wl_gf rfl rfl (f_move rfl) ?_
            refine wl_gf rfl rfl (f_indexAddr 1 (i := i) rfl rfl Try.underlying22 (by kernel_rfl) rfl hlt) ?_
            refine wl_gf rfl rfl (f_loado rfl Try.underlying5 rfl (hcell (i * 1) _ (bv_get1 xs i hlt)) id) ?_
            refine wl_gf rfl rfl (f_eql rfl rfl) ?_
            exact wl_pend rfl rfl ⟨rfl, rfl, rfl, rfl, trivial⟩ (List.Sublist.refl _)
          exact wl_pend rfl rfl ⟨rfl, rfl, rfl, trivial⟩ (List.Sublist.refl _)
        refine wl_end [(0, _), (2, _), (5, _), (49, _)] ⟨rfl, rfl, rfl, rfl, trivial⟩ ?_
        refine w_ifb rfl (fun hc4 => ?_) (fun hc4 => ?_)
        · skip
          simp only [Bool.or_eq_true, Bool.and_eq_true, decide_eq_true_eq] at hc4
          have hread : readL xs = (0, 0, 3) := by
            rw [hread]
            split
            · rfl
            · rw [if_pos (by omega)]
          refine w_seq ?_
          refine w_reg ?_
          refine wl_f (f_assign rfl) ?_
          refine wl_f (f_assign rfl) ?_
          refine wl_f (f_assign rfl) ?_
          refine wl_end [(2, _), (3, _), (4, _)] ⟨rfl, rfl, rfl, trivial⟩ ?_
          refine w_ret ?_
          refine ⟨_, _, fun a ha hh => results_tmps Try.results28 rfl a ha _, List.Sublist.refl _, ?_⟩
          exact ⟨by rw [hread]; rfl, rfl⟩
        · skip
          simp only [Bool.or_eq_true, Bool.and_eq_true, decide_eq_true_eq, not_or] at hc4
          rw [if_neg (by omega), if_neg (by omega)] at hread
          have hts : xs.take (i + 1) = xs.take i ++ [xs[i]] := List.take_succ_eq_append_getElem hlt
          have htl : (xs.take i).length = i := by rw [List.length_take]; omega
          have hval : valL (xs.take (i + 1)) = valL (xs.take i) + xs[i] % 128 * 128 ^ i := by rw [hts, valL_append, htl]
          have hbound : valL (xs.take (i + 1)) < 18446744073709551616 := by
            have h1 := valL_lt (xs.take i)
            rw [htl] at h1
            rw [hval]
            rcases Nat.lt_or_ge i 9 with h9 | h9
            · have h2 : xs[i] % 128 * 128 ^ i ≤ 127 * 128 ^ i := Nat.mul_le_mul_right _ (by omega)
              have h3 := pow128_le i 8 (by omega)
              omega
            · have : i = 9 := by omega
              subst this
              have h2 : xs[9] % 128 * 128 ^ 9 ≤ 1 * 128 ^ 9 := Nat.mul_le_mul_right _ (by omega)
              omega
          rw [← hval] at hread
          refine w_skip ?_
          refine w_seq ?_
          refine w_seq ?_
          refine w_reg ?_
          refine wl_f (f_move rfl) ?_
          refine wl_f (f_assign rfl) ?_
          refine wl_end [(0, _), (2, _), (5, _), (6, _)] ⟨rfl, rfl, rfl, rfl, trivial⟩ ?_
          refine w_block ?_
          refine w_loop (fun k m H w => ∃ j : Nat, m = [(0, .slice (some ⟨bb, off, .none⟩) xs.length c), (2, .int .u64 (valL ((xs.take (i + 1)).drop j) : Nat)), (5, .int .i64 i), (6, .int .i64 ((j : Int) - 1))] ∧ H = [] ∧ k = j ∧ j ≤ i + 1) (i + 1)
            ⟨i + 1, by rw [List.drop_eq_nil_of_le (by rw [List.length_take]; omega), show ((i + 1 : Nat) : Int) - 1 = (i : Int) by omega]; rfl, rfl, rfl, by omega⟩ ?_
          rintro k2 _ _ w2 ⟨j, rfl, rfl, rfl, hj⟩
          refine w_seq ?_
          refine w_seq ?_
          refine w_reg ?_
          refine wl_f (f_move rfl) ?_
          refine wl_f (f_geq rfl rfl) ?_
          refine wl_end [(0, _), (2, _), (5, _), (6, _), (52, _)] ⟨rfl, rfl, rfl, rfl, rfl, trivial⟩ ?_
          refine w_ifd rfl (fun hc5 => ?_) (fun hc5 => ?_)
          · skip
            obtain ⟨q, rfl⟩ : ∃ q, k2 = q + 1 := ⟨k2 - 1, by omega⟩
            have hq : q < (xs.take (i + 1)).length := by rw [List.length_take]; omega
            have hqx : (xs.take (i + 1))[q] = xs[q]'(by omega) := List.getElem_take
            have hdv : valL ((xs.take (i + 1)).drop q) = xs[q]'(by omega) % 128 + 128 * valL ((xs.take (i + 1)).drop (q + 1)) := by rw [drop_cons hq, valL, hqx]
            have hle := valL_drop (xs.take (i + 1)) q
            refine w_skip ?_
            refine w_seq ?_
            refine w_block ?_
            refine w_reg ?_
            refine wl_f (f_move rfl) ?_
            refine wl_f (f_mulu rfl rfl (by omega)) ?_
            refine wl_f (f_move rfl) ?_
            refine wl_f (f_move rfl) ?_
            refine wl_f (f_indexAddr 1 (i := q) rfl rfl Try.underlying22 (by kernel_rfl) (by omega) (by omega)) ?_
            refine wl_f (f_loado rfl Try.underlying5 rfl (hcell (q * 1) _ (bv_get1 xs q (by omega))) id) ?_
            refine wl_f (f_rem rfl rfl (by omega)) ?_
            refine wl_f (f_convu rfl Try.underlying5 Try.underlying38 (by omega)) ?_
            refine wl_f (f_addu rfl rfl (by omega)) ?_
            refine wl_f (f_assign rfl) ?_
            refine wl_end [(0, _), (2, _), (5, _), (6, _)] ⟨rfl, rfl, rfl, rfl, trivial⟩ ?_
            refine w_reg ?_
            refine wl_f (f_move rfl) ?_
            refine wl_f (f_sub rfl rfl (by omega)) ?_
            refine wl_f (f_assign rfl) ?_
            refine wl_end [(0, _), (2, _), (5, _), (6, _)] ⟨rfl, rfl, rfl, rfl, trivial⟩ ?_
            refine ⟨q, by omega, q, ?_, rfl, rfl, by omega⟩
            rw [hdv, show ((q + 1 : Nat) : Int) - 1 - 1 = (q : Int) - 1 by omega]
            congr 3
            exact congrArg (Value.int IntKind.u64) (by omega)
          · skip
            have hj0 : k2 = 0 := by omega
            subst hj0
            rw [List.drop_zero]
            refine w_exit0 ?_
            refine w_seq ?_
            refine w_reg ?_
            refine wl_f (f_move rfl) ?_
            refine wl_f (f_move rfl) ?_
            refine wl_f (f_add rfl rfl (by omega)) ?_
            refine wl_f (f_assign rfl) ?_
            refine wl_f (f_assign rfl) ?_
            refine wl_f (f_assign rfl) ?_
            refine wl_end [(2, _), (3, _), (4, _)] ⟨rfl, rfl, rfl, trivial⟩ ?_
            refine w_ret ?_
            refine ⟨_, _, fun a ha hh => results_tmps Try.results28 rfl a ha _, List.Sublist.refl _, ?_⟩
            exact ⟨by rw [hread]; rfl, rfl⟩
end Go.Proofs.Ythbjjfpikfmmnaa
