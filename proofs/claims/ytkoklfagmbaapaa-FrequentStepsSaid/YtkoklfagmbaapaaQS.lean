/- Sums of weights. -/
import Derived.Test.YtkoklfagmbaapaaK4
import Derived.Test.YtkoklfagmbaapaaProg
namespace Go.Proofs.Ytkoklfagmbaapaa
open Go.RowKit

def addE : Array Value → Sem Value := fun args => do
  let (x, y, c) ← Extern.MathBitsCarry.three "Add64" args
  pure (Extern.MathBitsCarry.pair ((x + y + c) % Extern.MathBitsCarry.m64) ((x + y + c) / Extern.MathBitsCarry.m64))
theorem run_add64 {P : Program} (a b : Nat) (w : World) : (addE #[.int .u64 (a : Int), .int .u64 (b : Int), .int .u64 0]).run P w = .ok (.tuple #[.int .u64 (((a + b) % 18446744073709551616 : Nat) : Int), .int .u64 (((a + b) / 18446744073709551616 : Nat) : Int)]) w := by
  rfl
theorem satadd_spec (a b : Nat) (w : World) (ha : a < 18446744073709551616) (hb : b < 18446744073709551616) : Spec Try.prog 49 [.int .u64 (a : Int), .int .u64 (b : Int)] w Nil fun r H =>
    r = .tuple #[.int .u64 (if a + b < 18446744073709551616 then ((a + b : Nat) : Int) else 18446744073709551615), .bool (decide (a + b < 18446744073709551616))] ∧ H = [] := by
  refine enter (n := 17) Try.func49 rfl rfl [(0, _), (1, _)] rfl ⟨rfl, rfl, trivial⟩ (Holds.start _ _) ?_
  refine w_seq ?_
  refine w_reg ?_
  refine wl_f (f_assign rfl) ?_
  refine wl_f (f_assign rfl) ?_
  refine wl_end [(0, _), (1, _)] ⟨rfl, rfl, trivial⟩ ?_
  refine w_seq ?_
  refine w_reg ?_
  refine wl_f (f_move rfl) ?_
  refine wl_f (f_move rfl) ?_
  refine wl_f (f_extern (e := addE) rfl Try.func54 (by kernel_rfl) rfl (by kernel_rfl) (by kernel_rfl) (fun w => run_add64 a b w)) ?_
  skip
  refine wl_f (f_move rfl) ?_
  refine wl_f (f_extract rfl rfl) ?_
  refine wl_f (f_extract rfl rfl) ?_
  refine wl_f (f_assign rfl) ?_
  refine wl_f (f_assign rfl) ?_
  refine wl_end [(6, _), (7, _)] ⟨rfl, rfl, trivial⟩ ?_
  refine w_seq ?_
  refine w_seq ?_
  refine w_reg ?_
  refine wl_f (f_move rfl) ?_
  refine wl_f (f_neq rfl rfl) ?_
  refine wl_end [(6, _), (15, _)] ⟨rfl, rfl, trivial⟩ ?_
  refine w_ifd rfl (fun hc1 => ?_) (fun hc1 => ?_)
  · skip
    have hov : ¬ a + b < 18446744073709551616 := fun h => hc1 (by rw [Nat.div_eq_of_lt h]; rfl)
    refine w_seq ?_
    refine w_reg ?_
    refine wl_f (f_assign rfl) ?_
    refine wl_f (f_assign rfl) ?_
    refine wl_end [(4, _), (5, _)] ⟨rfl, rfl, trivial⟩ ?_
    refine w_ret ?_
    refine ⟨_, _, fun a ha hh => results_tmps Try.results49 rfl a ha _, List.Sublist.refl _, ?_⟩
    exact ⟨by rw [if_neg hov, decide_eq_false hov]; rfl, rfl⟩
  · skip
    have hov : a + b < 18446744073709551616 := by
      refine Classical.byContradiction fun h => hc1 fun e => ?_
      have h2 : (a + b) / 18446744073709551616 = 0 := by exact_mod_cast e
      omega
    refine w_skip ?_
    refine w_seq ?_
    refine w_reg ?_
    refine wl_f (f_move rfl) ?_
    refine wl_f (f_assign rfl) ?_
    refine wl_f (f_assign rfl) ?_
    refine wl_end [(4, _), (5, _)] ⟨rfl, rfl, trivial⟩ ?_
    refine w_ret ?_
    refine ⟨_, _, fun a ha hh => results_tmps Try.results49 rfl a ha _, List.Sublist.refl _, ?_⟩
    exact ⟨by rw [if_pos hov, decide_eq_true hov, Nat.mod_eq_of_lt hov]; rfl, rfl⟩
theorem satfits_spec (a b : Nat) (w : World) (ha : a < 18446744073709551616) (hb : b < 18446744073709551616) : Spec Try.prog 33 [.int .u64 (a : Int), .int .u64 (b : Int)] w Nil fun r H =>
    r = .bool (decide (a + b ≤ 9223372036854775808)) ∧ H = [] := by
  refine enter (n := 18) Try.func33 rfl rfl [(0, _), (1, _)] rfl ⟨rfl, rfl, trivial⟩ (Holds.start _ _) ?_
  refine w_seq ?_
  refine w_reg ?_
  refine wl_f (f_assign rfl) ?_
  refine wl_end [(0, _), (1, _)] ⟨rfl, rfl, trivial⟩ ?_
  refine w_seq ?_
  refine w_reg ?_
  refine wl_f (f_move rfl) ?_
  refine wl_f (f_move rfl) ?_
  refine wl_e (e_call0 rfl Try.func49 (by kernel_rfl) (fun w hh => satadd_spec a b w ha hb)) ?_
  rintro _ _ w1 ⟨_, rfl, rfl, rfl⟩
  refine wl_f (f_move rfl) ?_
  refine wl_f (f_extract rfl rfl) ?_
  refine wl_f (f_extract rfl rfl) ?_
  refine wl_f (f_assign rfl) ?_
  refine wl_f (f_assign rfl) ?_
  refine wl_end [(5, _), (6, _)] ⟨rfl, rfl, trivial⟩ ?_
  refine w_seq ?_
  refine w_reg ?_
  refine wl_f (f_move rfl) ?_
  refine wl_f (f_move rfl) ?_
  refine wl_and (j := 1) (c := decide ((if a + b < 18446744073709551616 then ((a + b : Nat) : Int) else 18446744073709551615) ≤ 9223372036854775808)) 2 [] trivial rfl rfl rfl rfl rfl (fun hg2_4 => ?_) (fun w2_4 => ?_)
  · skip
    refine wl_gf rfl rfl (f_move rfl) ?_
    refine wl_gf rfl rfl (f_leq rfl rfl) ?_
    exact wl_pend rfl rfl trivial (List.Sublist.refl _)
  refine wl_f (f_assign rfl) ?_
  refine wl_end [(4, _)] ⟨rfl, trivial⟩ ?_
  refine w_ret ?_
  refine ⟨_, _, fun a ha hh => results_tmps Try.results33 rfl a ha _, List.Sublist.refl _, ?_⟩
  refine ⟨?_, rfl⟩
  show Value.bool _ = _
  congr 1
  by_cases h : a + b < 18446744073709551616
  · rw [if_pos h, decide_eq_true h, Bool.true_and]
    by_cases h2 : a + b ≤ 9223372036854775808
    · rw [decide_eq_true h2]; exact decide_eq_true (by omega)
    · rw [decide_eq_false h2]; exact decide_eq_false (by omega)
  · rw [decide_eq_false h, Bool.false_and, decide_eq_false (by omega)]
end Go.Proofs.Ytkoklfagmbaapaa
