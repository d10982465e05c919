/- The reference's orders: making one; both ways of making one agree. -/
import Derived.Test.YtkabdnijhjccoaaR10
import Derived.Test.YtkabdnijhjccoaaCR
namespace Go.Proofs.Ytkabdnijhjccoaa
open Go.RowKit

theorem t77 : SlT Try.prog 77 63 1 8 (.int .u64 0) := .mk' Try.underlying77 (by kernel_rfl) rfl (by decide)
def u64v (l : List Nat) : List Value := l.map fun c : Nat => Value.int .u64 (c : Int)
def rrs (q n : Nat) (l : Ord) (IV CV : Value) : List Res :=
  [blk q [.int .i64 (n : Int), IV, CV] 79, row IV 3 1 l.length (iv (ids l)), row CV 63 1 l.length (u64v (l.map Prod.snd))]
def RfR (q n : Nat) (l : Ord) (r : Res) : Prop := ∃ IV CV, r = bun (rrs q n l IV CV)
theorem build_rranks (n : Int) (w : World) : (Instr.build 79 [(0, .int .i64 n)].toArray).run Try.prog w = .ok (.agg [.int .i64 n, .slice .none 0 0, .slice .none 0 0].toArray) w := by kernel_rfl
theorem rfnew_spec (n : Int) (w : World) : Spec Try.prog 54 [.int .i64 n] w Nil fun r H => ((n < 1 ∨ 8192 < n) ∧ r = .tuple #[.pointer .none, .int .i64 1] ∧ H = []) ∨
    ∃ (k q : Nat) (r' : Res), n = k ∧ 1 ≤ k ∧ k ≤ 8192 ∧ r = .tuple #[.pointer (some ⟨q, 0, .none⟩), .int .i64 0] ∧ H = [r'] ∧ RfR q k [] r' := by
  refine enter (n := 13) Try.func54 rfl rfl [(0, _)] rfl ⟨rfl, trivial⟩ (Holds.start _ _) ?_
  refine w_seq ?_
  refine w_reg ?_
  refine wl_f (f_assign rfl) ?_
  refine wl_f (f_assign rfl) ?_
  refine wl_end [(0, _)] ⟨rfl, trivial⟩ ?_
  refine w_seq ?_
  refine w_seq ?_
  refine w_reg ?_
  refine wl_f (f_move rfl) ?_
  refine wl_f (f_lss rfl rfl) ?_
  refine wl_f (f_move rfl) ?_
  refine wl_or (j := 2) (c := decide (8192 < n)) 2 [(0, _)] ⟨rfl, trivial⟩ rfl rfl rfl rfl rfl (fun hg1_5 => ?_) (fun w1_5 => ?_)
  · skip
    refine wl_gf rfl rfl (f_move rfl) ?_
    refine wl_gf rfl rfl (f_gtr rfl rfl) ?_
    exact wl_pend rfl rfl ⟨rfl, trivial⟩ (List.Sublist.refl _)
  refine wl_end [(0, _), (9, _)] ⟨rfl, rfl, trivial⟩ ?_
  refine w_ifb rfl (fun hc1 => ?_) (fun hc1 => ?_)
  · skip
    simp only [Bool.or_eq_true, decide_eq_true_eq] at hc1
    refine w_seq ?_
    refine w_reg ?_
    refine wl_f (f_assign rfl) ?_
    refine wl_f (f_assign rfl) ?_
    refine wl_end [(2, _), (3, _)] ⟨rfl, rfl, trivial⟩ ?_
    refine w_ret ?_
    refine ⟨_, _, fun a ha hh => results_tmps Try.results54 rfl a ha _, List.Sublist.refl _, ?_⟩
    exact .inl ⟨hc1, rfl, rfl⟩
  · skip
    simp only [Bool.or_eq_true, decide_eq_true_eq, not_or] at hc1
    refine w_skip ?_
    refine w_seq ?_
    refine w_reg ?_
    refine wl_f (f_move rfl) ?_
    refine wl_f (f_build rfl (fun w => build_rranks _ w)) ?_
    refine wl_e (e_box (cs := [_, _, _]) rfl rfl) ?_
    rintro _ _ w3_2 ⟨b3_2, rfl, rfl⟩
    refine wl_f (f_assign rfl) ?_
    refine wl_f (f_assign rfl) ?_
    refine wl_end [(2, _), (3, _)] ⟨rfl, rfl, trivial⟩ ?_
    refine w_nilrow 3 1 ?_
    refine w_nilrow 63 1 ?_
    refine w_pick [2, 1, 0] rfl ?_
    refine w_bun (H := []) [_, _, _] ?_
    refine w_ret ?_
    refine ⟨_, _, fun a ha hh => results_tmps Try.results54 rfl a ha _, List.Sublist.refl _, ?_⟩
    obtain ⟨k, rfl⟩ : ∃ k : Nat, n = k := ⟨n.toNat, by omega⟩
    exact .inr ⟨k, b3_2, _, rfl, by omega, by omega, rfl, rfl, _, _, rfl⟩
theorem rfnew_ok (k : Nat) (h : 1 ≤ k ∧ k ≤ 8192) {r : Value} {H : List Res} (hs : ((((k : Nat) : Int) < 1 ∨ 8192 < ((k : Nat) : Int)) ∧ r = .tuple #[.pointer .none, .int .i64 1] ∧ H = []) ∨
    ∃ (k' b : Nat) (r' : Res), ((k : Nat) : Int) = k' ∧ 1 ≤ k' ∧ k' ≤ 8192 ∧ r = .tuple #[.pointer (some ⟨b, 0, .none⟩), .int .i64 0] ∧ H = [r'] ∧ RfR b k' [] r') :
    ∃ (b : Nat) (r' : Res), r = .tuple #[.pointer (some ⟨b, 0, .none⟩), .int .i64 0] ∧ H = [r'] ∧ RfR b k [] r' := by
  rcases hs with ⟨h', _⟩ | ⟨k', b, r', e, _, _, h1, h2, h3⟩
  · omega
  · obtain rfl : k = k' := by omega
    exact ⟨b, r', h1, h2, h3⟩
theorem rknew_form (n : Int) (w : World) : Spec Try.prog 45 [.int .i64 n] w Nil fun r H => ∃ (p : Option Addr), r = .tuple [.pointer p, .int .i64 (if n < 1 ∨ 8192 < n then 1 else 0)].toArray ∧ p.isNone = decide (n < 1 ∨ 8192 < n) := by
  by_cases h : n < 1 ∨ 8192 < n
  · exact (rknew_bad n w h).mono fun v H hv => ⟨.none, by rw [hv.1, if_pos h], (decide_eq_true h).symm⟩
  · obtain ⟨k, rfl⟩ : ∃ k : Nat, n = k := ⟨n.toNat, by omega⟩
    exact (rknew_ok k w (by omega) (by omega)).mono fun v H hv => by
      obtain ⟨b, r', rfl, _⟩ := hv
      exact ⟨some ⟨b, 0, .none⟩, by rw [if_neg h], (decide_eq_false h).symm⟩
theorem rfnew_form (n : Int) (w : World) : Spec Try.prog 54 [.int .i64 n] w Nil fun r H => ∃ (p : Option Addr), r = .tuple [.pointer p, .int .i64 (if n < 1 ∨ 8192 < n then 1 else 0)].toArray :=
  (rfnew_spec n w).mono fun v H hv => by
    rcases hv with ⟨h, rfl, _⟩ | ⟨k, q, r', rfl, h1, h2, rfl, _⟩
    · exact ⟨_, by rw [if_pos h]⟩
    · exact ⟨_, by rw [if_neg (by omega)]⟩
end Go.Proofs.Ytkabdnijhjccoaa
