/- The reference's tables: making one. -/
import Derived.Test.YtmppbpajncpjnaaI8
namespace Go.Proofs.Ytmppbpajncpjnaa
open Go.RowKit

def rms (q n : Nat) (M : List (ByteArray × Int)) (KV VV : Value) : List Res :=
  [blk q [.int .i64 (n : Int), KV, VV] 76, row KV 9 1 M.length (sv (keys M)), row VV 3 1 M.length (iv (M.map Prod.snd))]
def RmR (q n : Nat) (M : List (ByteArray × Int)) (r : Res) : Prop := ∃ KV VV, r = bun (rms q n M KV VV)
theorem build_rmap (n : Int) (w : World) : (Instr.build 76 [(0, .int .i64 n)].toArray).run Try.prog w = .ok (.agg [.int .i64 n, .slice .none 0 0, .slice .none 0 0].toArray) w := by kernel_rfl
theorem rtable_spec (A : Option Addr) (l c : Nat) (w : World) : Spec Try.prog 38 [.slice A l c] w Nil fun r H => r = .int .i64 (if l = 16 then 0 else 11) ∧ H = [] := by
  refine enter (n := 6) Try.func38 rfl rfl [(0, _)] rfl ⟨rfl, trivial⟩ (Holds.start _ _) ?_
  refine w_seq ?_
  refine w_reg ?_
  refine wl_f (f_assign rfl) ?_
  refine wl_end [(0, _)] ⟨rfl, trivial⟩ ?_
  refine w_seq ?_
  refine w_seq ?_
  refine w_reg ?_
  refine wl_f (f_move rfl) ?_
  refine wl_f (f_len rfl Try.underlying28) ?_
  refine wl_f (f_neq rfl rfl) ?_
  refine wl_end [(5, _)] ⟨rfl, trivial⟩ ?_
  refine w_ifd rfl (fun hc1 => ?_) (fun hc1 => ?_)
  · skip
    refine w_seq ?_
    refine w_reg ?_
    refine wl_f (f_assign rfl) ?_
    refine wl_end [(2, _)] ⟨rfl, trivial⟩ ?_
    refine w_ret ?_
    refine ⟨_, _, fun a ha hh => results_tmps Try.results38 rfl a ha _, List.Sublist.refl _, ?_⟩
    rw [if_neg (fun h => hc1 (by rw [h]; rfl))]; exact ⟨rfl, rfl⟩
  · skip
    have h : l = 16 := by
      have : (l : Int) = 16 := Classical.not_not.1 hc1
      omega
    refine w_skip ?_
    refine w_seq ?_
    refine w_reg ?_
    refine wl_f (f_assign rfl) ?_
    refine wl_end [(2, _)] ⟨rfl, trivial⟩ ?_
    refine w_ret ?_
    refine ⟨_, _, fun a ha hh => results_tmps Try.results38 rfl a ha _, List.Sublist.refl _, ?_⟩
    rw [if_pos h]; exact ⟨rfl, rfl⟩
/-- The error of making a table. -/
def newE (n : Int) (l : Nat) : Int := if n < 1 ∨ 8192 < n then 1 else if l = 16 then 0 else 11
theorem rmnew_spec (n : Int) (A : Option Addr) (l c : Nat) (w : World) : Spec Try.prog 23 [.int .i64 n, .slice A l c] w Nil fun r H => (newE n l ≠ 0 ∧ r = .tuple #[.pointer .none, .int .i64 (newE n l)] ∧ H = []) ∨
    ∃ (k q : Nat) (r' : Res), n = k ∧ 1 ≤ k ∧ k ≤ 8192 ∧ l = 16 ∧ r = .tuple #[.pointer (some ⟨q, 0, .none⟩), .int .i64 0] ∧ H = [r'] ∧ RmR q k [] r' := by
  refine enter (n := 21) Try.func23 rfl rfl [(0, _), (1, _)] rfl ⟨rfl, rfl, trivial⟩ (Holds.start _ _) ?_
  refine w_seq ?_
  refine w_reg ?_
  refine wl_f (f_assign rfl) ?_
  refine wl_f (f_assign rfl) ?_
  refine wl_end [(0, _), (1, _)] ⟨rfl, rfl, trivial⟩ ?_
  refine w_seq ?_
  refine w_seq ?_
  refine w_reg ?_
  refine wl_f (f_move rfl) ?_
  refine wl_f (f_lss rfl rfl) ?_
  refine wl_f (f_move rfl) ?_
  refine wl_or (j := 2) (c := decide (8192 < n)) 2 [(0, _), (1, _)] ⟨rfl, rfl, trivial⟩ rfl rfl rfl rfl rfl (fun hg1_5 => ?_) (fun w1_5 => ?_)
  · skip
    refine wl_gf rfl rfl (f_move rfl) ?_
    refine wl_gf rfl rfl (f_gtr rfl rfl) ?_
    exact wl_pend rfl rfl ⟨rfl, rfl, trivial⟩ (List.Sublist.refl _)
  refine wl_end [(0, _), (1, _), (12, _)] ⟨rfl, rfl, rfl, trivial⟩ ?_
  refine w_ifb rfl (fun hc1 => ?_) (fun hc1 => ?_)
  · skip
    simp only [Bool.or_eq_true, decide_eq_true_eq] at hc1
    have e : newE n l = 1 := if_pos hc1
    refine w_seq ?_
    refine w_reg ?_
    refine wl_f (f_assign rfl) ?_
    refine wl_f (f_assign rfl) ?_
    refine wl_end [(4, _), (5, _)] ⟨rfl, rfl, trivial⟩ ?_
    refine w_ret ?_
    refine ⟨_, _, fun a ha hh => results_tmps Try.results23 rfl a ha _, List.Sublist.refl _, ?_⟩
    rw [e]; exact .inl ⟨by decide, rfl, rfl⟩
  · skip
    simp only [Bool.or_eq_true, decide_eq_true_eq] at hc1
    refine w_skip ?_
    refine w_seq ?_
    refine w_seq ?_
    refine w_reg ?_
    refine wl_f (f_move rfl) ?_
    refine wl_e (e_call0 rfl Try.func38 (by kernel_rfl) (fun w hh => rtable_spec A l c w)) ?_
    rintro _ _ w1 ⟨_, rfl, rfl, rfl⟩
    refine wl_f (f_assign rfl) ?_
    refine wl_end [(0, _), (6, _)] ⟨rfl, rfl, trivial⟩ ?_
    refine w_seq ?_
    refine w_reg ?_
    refine wl_f (f_move rfl) ?_
    refine wl_f (f_neq rfl rfl) ?_
    refine wl_end [(0, _), (6, _), (16, _)] ⟨rfl, rfl, rfl, trivial⟩ ?_
    refine w_ifd rfl (fun hc2 => ?_) (fun hc2 => ?_)
    · skip
      have hl : l ≠ 16 := fun h => by rw [if_pos h] at hc2; exact hc2 rfl
      have e : newE n l = 11 := (if_neg hc1).trans (if_neg hl)
      refine w_seq ?_
      refine w_reg ?_
      refine wl_f (f_move rfl) ?_
      refine wl_f (f_assign rfl) ?_
      refine wl_f (f_assign rfl) ?_
      refine wl_end [(4, _), (5, _)] ⟨rfl, rfl, trivial⟩ ?_
      refine w_ret ?_
      refine ⟨_, _, fun a ha hh => results_tmps Try.results23 rfl a ha _, List.Sublist.refl _, ?_⟩
      rw [e, if_neg hl]; exact .inl ⟨by decide, rfl, rfl⟩
    · skip
      have hl : l = 16 := Classical.byContradiction fun h => by rw [if_neg h] at hc2; exact hc2 (by decide)
      refine w_skip ?_
      refine w_seq ?_
      refine w_reg ?_
      refine wl_f (f_move rfl) ?_
      refine wl_f (f_build rfl (fun w => build_rmap _ w)) ?_
      refine wl_e (e_box (cs := [_, _, _]) rfl rfl) ?_
      rintro _ _ w6_2 ⟨b6_2, rfl, rfl⟩
      refine wl_f (f_assign rfl) ?_
      refine wl_f (f_assign rfl) ?_
      refine wl_end [(4, _), (5, _)] ⟨rfl, rfl, trivial⟩ ?_
      refine w_nilrow 9 1 ?_
      refine w_nilrow 3 1 ?_
      refine w_pick [2, 1, 0] rfl ?_
      refine w_bun (H := []) [_, _, _] ?_
      refine w_ret ?_
      refine ⟨_, _, fun a ha hh => results_tmps Try.results23 rfl a ha _, List.Sublist.refl _, ?_⟩
      obtain ⟨k, rfl⟩ : ∃ k : Nat, n = k := ⟨n.toNat, by omega⟩
      exact .inr ⟨k, b6_2, _, rfl, by omega, by omega, hl, rfl, rfl, _, _, rfl⟩
theorem rmnew_form (n : Int) (A : Option Addr) (l c : Nat) (w : World) : Spec Try.prog 23 [.int .i64 n, .slice A l c] w Nil fun r H => ∃ p : Option Addr, r = .tuple [.pointer p, .int .i64 (newE n l)].toArray :=
  (rmnew_spec n A l c w).mono fun v H hv => by
    rcases hv with ⟨_, rfl, _⟩ | ⟨k, q, r', rfl, h1, h2, h3, rfl, _⟩
    · exact ⟨_, rfl⟩
    · refine ⟨some ⟨q, 0, .none⟩, ?_⟩
      rw [newE, if_neg (by omega), if_pos h3]
theorem ixnew_form (n : Int) (T : List Nat) (A : Option Addr) (l c : Nat) (seed : Int) (w : World) (hl0 : T.length = l) (ht : Rd w Nil 1 (.slice A l c) l (u64v T)) : Spec Try.prog 16 [.int .i64 n, .slice A l c, .int .u64 seed] w Nil
    fun r H => ∃ p : Option Addr, r = .tuple [.pointer p, .int .i64 (newE n l)].toArray ∧ p.isNone = decide (newE n l ≠ 0) := by
  subst hl0
  by_cases h : n < 1 ∨ 8192 < n ∨ T.length ≠ 16
  · refine (ixnew_bad n A T.length c seed w h).mono fun v H hv => ⟨.none, ?_⟩
    by_cases h1 : n < 1 ∨ 8192 < n
    · have e : newE n T.length = 1 := if_pos h1
      rw [e, hv.1, if_pos h1]; exact ⟨rfl, rfl⟩
    · have hl : T.length ≠ 16 := by
        rcases h with h | h | h
        · exact absurd (.inl h) h1
        · exact absurd (.inr h) h1
        · exact h
      have e : newE n T.length = 11 := (if_neg h1).trans (if_neg hl)
      rw [e, hv.1, if_neg h1]; exact ⟨rfl, rfl⟩
  · obtain ⟨k, rfl⟩ : ∃ k : Nat, n = k := ⟨n.toNat, by omega⟩
    have hl : T.length = 16 := Classical.byContradiction fun h' => h (.inr (.inr h'))
    have e : newE (k : Int) T.length = 0 := (if_neg (by omega)).trans (if_pos hl)
    refine (ixnew_ok k T (.slice A T.length c) seed w (by omega) (by omega) hl (by rw [hl] at ht ⊢; exact ht)).mono fun v H hv => ?_
    obtain ⟨b, r', rfl, _⟩ := hv
    exact ⟨some ⟨b, 0, .none⟩, by rw [e], by rw [e]; rfl⟩
theorem sxnew_form (n : Int) (T : List Nat) (A : Option Addr) (l c : Nat) (seed : Int) (w : World) (hl0 : T.length = l) (ht : Rd w Nil 1 (.slice A l c) l (u64v T)) : Spec Try.prog 7 [.int .i64 n, .slice A l c, .int .u64 seed] w Nil
    fun r H => ∃ p : Option Addr, r = .tuple [.pointer p, .int .i64 (newE n l)].toArray ∧ p.isNone = decide (newE n l ≠ 0) := by
  subst hl0
  by_cases h : n < 1 ∨ 8192 < n ∨ T.length ≠ 16
  · refine (sxnew_bad n A T.length c seed w h).mono fun v H hv => ⟨.none, ?_⟩
    by_cases h1 : n < 1 ∨ 8192 < n
    · have e : newE n T.length = 1 := if_pos h1
      rw [e, hv.1, if_pos h1]; exact ⟨rfl, rfl⟩
    · have hl : T.length ≠ 16 := by
        rcases h with h | h | h
        · exact absurd (.inl h) h1
        · exact absurd (.inr h) h1
        · exact h
      have e : newE n T.length = 11 := (if_neg h1).trans (if_neg hl)
      rw [e, hv.1, if_neg h1]; exact ⟨rfl, rfl⟩
  · obtain ⟨k, rfl⟩ : ∃ k : Nat, n = k := ⟨n.toNat, by omega⟩
    have hl : T.length = 16 := Classical.byContradiction fun h' => h (.inr (.inr h'))
    have e : newE (k : Int) T.length = 0 := (if_neg (by omega)).trans (if_pos hl)
    refine (sxnew_ok k T (.slice A T.length c) seed w (by omega) (by omega) hl (by rw [hl] at ht ⊢; exact ht)).mono fun v H hv => ?_
    obtain ⟨b, r', rfl, _⟩ := hv
    exact ⟨some ⟨b, 0, .none⟩, by rw [e], by rw [e]; rfl⟩
end Go.Proofs.Ytmppbpajncpjnaa
