/- The walks of the functions that append a number. -/
import Derived.Test.YthbjjfpikfmmnaaD1
namespace Go.Proofs.Ythbjjfpikfmmnaa
open Go.RowKit

def AppendSpec (f : FuncId) : Prop := ∀ (v : Value) (xs : List Nat) (x : Nat) (w : World), Rd w Nil 1 v xs.length (bv xs) → xs.length ≤ 1000000 → x < 18446744073709551616 →
  Spec Try.prog f [v, .int .u64 x] w Nil fun r H => H = [row r 5 1 (xs ++ venc x).length (bv (xs ++ venc x))]

theorem append_spec : AppendSpec 32 := by
  intro v xs x w hr hlen hx
  refine enter (n := 24) Try.func32 rfl rfl [(0, _), (1, _)] rfl ⟨rfl, rfl, trivial⟩ (Holds.start _ _) ?_
  refine w_seq ?_
  refine w_reg ?_
  refine wl_f (f_assign rfl) ?_
  refine wl_end [(0, _), (1, _)] ⟨rfl, rfl, trivial⟩ ?_
  refine w_seq ?_
  refine w_reg ?_
  refine wl_e (e_lit0 t22) ?_
  rintro _ _ w1 ⟨b1, rfl, rfl⟩
  refine wl_f (f_move rfl) ?_
  refine wl_e (e_app0 t22 rfl rfl (fun w hh => hr.old0 hh) (bv_one xs) (by omega) (by omega)) ?_
  rintro v1 _ w2 rfl
  refine wl_f (f_assign rfl) ?_
  refine wl_end [(1, _), (5, _)] ⟨rfl, rfl, trivial⟩ ?_
  refine w_seq (w_block ?_)
  refine w_loop (fun k m H w => ∃ (y : Nat) (ys : List Nat) (u : Value), m = [(1, .int .u64 y), (5, u)] ∧ H = [row u 5 1 (xs ++ ys).length (bv (xs ++ ys))] ∧
    ys ++ enc k y = venc x ∧ y < 128 ^ k ∧ ys.length + k = 10) 10 ⟨x, [], v1, rfl, by simp, rfl, by omega, rfl⟩ ?_
  rintro k _ _ w3 ⟨y, ys, u, rfl, rfl, he, hy, hk⟩
  refine w_seq (w_seq ?_)
  refine w_reg ?_
  refine wl_f (f_move rfl) ?_
  refine wl_f (f_geq rfl rfl) ?_
  refine wl_end [(1, _), (5, _), (10, _)] ⟨rfl, rfl, rfl, trivial⟩ ?_
  refine w_ifd rfl (fun h => ?_) (fun h => ?_)
  · refine w_skip ?_
    refine w_block ?_
    refine w_seq ?_
    refine w_reg ?_
    refine wl_f (f_move rfl) ?_
    refine wl_f (f_move rfl) ?_
    refine wl_f (f_convw rfl Try.underlying38 Try.underlying5 (wrapu8 y)) ?_
    refine wl_f (f_or rfl rfl (or128 y)) ?_
    refine wl_e (e_lit1 (cs := [_]) t22 rfl rfl rfl (by omega)) ?_
    rintro _ _ w4 ⟨b2, rfl, rfl⟩
    refine wl_e (e_app1 t22 rfl rfl (fun w hh => Rd.held0 hh (i := 0) rfl) (by simp [Value.oneCell']) (by simp; omega) (by simp; omega)) ?_
    rintro v3 _ w5 rfl
    refine wl_f (f_assign rfl) ?_
    refine wl_rm0 ?_
    refine wl_end [(1, _), (5, _)] ⟨rfl, rfl, trivial⟩ ?_
    refine w_reg ?_
    refine wl_f (f_move rfl) ?_
    refine wl_f (f_shr rfl rfl (by omega) (shr7 y)) ?_
    refine wl_f (f_assign rfl) ?_
    refine wl_end [(1, _), (5, _)] ⟨rfl, rfl, trivial⟩ ?_
    obtain ⟨k, rfl⟩ : ∃ k', k = k' + 1 := ⟨k - 1, by cases k with | zero => simp at hy; omega | succ k => rfl⟩
    refine ⟨k, by omega, y / 128, ys ++ [y % 128 + 128], v3, rfl, ?_, ?_, ?_, ?_⟩
    · rw [← List.append_assoc, bv_app (xs ++ ys)]
      simp [bv, Nat.add_assoc]
    · rw [enc_big k y (by omega)] at he
      simpa using he
    · rw [Nat.pow_succ] at hy; exact Nat.div_lt_of_lt_mul (by omega)
    · simp; omega
  · refine w_exit0 ?_
    refine w_seq ?_
    refine w_reg ?_
    refine wl_f (f_move rfl) ?_
    refine wl_f (f_move rfl) ?_
    refine wl_f (f_convw rfl Try.underlying38 Try.underlying5 (wrapu8 y)) ?_
    refine wl_e (e_lit1 (cs := [_]) t22 rfl rfl rfl (by omega)) ?_
    rintro _ _ w4 ⟨b2, rfl, rfl⟩
    refine wl_e (e_app1 t22 rfl rfl (fun w hh => Rd.held0 hh (i := 0) rfl) (by simp [Value.oneCell']) (by simp; omega) (by simp; omega)) ?_
    rintro v3 _ w5 rfl
    refine wl_f (f_assign rfl) ?_
    refine wl_rm0 ?_
    refine wl_end [(4, _)] ⟨rfl, trivial⟩ ?_
    refine w_ret ?_
    refine ⟨_, _, fun a ha hh => results_tmps Try.results32 rfl a ha _, List.Sublist.refl _, ?_⟩
    rw [enc_small k y (by omega)] at he
    rw [← he, ← List.append_assoc, bv_app (xs ++ ys), Nat.mod_eq_of_lt (by omega)]
    simp [bv, tup, Nat.add_assoc]

theorem rappend_spec : AppendSpec 22 := by
  intro v xs x w hr hlen hx
  refine enter (n := 25) Try.func22 rfl rfl [(0, _), (1, _)] rfl ⟨rfl, rfl, trivial⟩ (Holds.start _ _) ?_
  refine w_seq ?_
  refine w_reg ?_
  refine wl_f (f_assign rfl) ?_
  refine wl_end [(0, _), (1, _)] ⟨rfl, rfl, trivial⟩ ?_
  refine w_seq ?_
  refine w_reg ?_
  refine wl_e (e_lit0 t22) ?_
  rintro _ _ w1 ⟨b1, rfl, rfl⟩
  refine wl_f (f_move rfl) ?_
  refine wl_e (e_app0 t22 rfl rfl (fun w hh => hr.old0 hh) (bv_one xs) (by omega) (by omega)) ?_
  rintro v1 _ w2 rfl
  refine wl_f (f_assign rfl) ?_
  refine wl_end [(1, _), (5, _)] ⟨rfl, rfl, trivial⟩ ?_
  refine w_seq (w_block ?_)
  refine w_loop (fun k m H w => ∃ (y : Nat) (ys : List Nat) (u : Value), m = [(1, .int .u64 y), (5, u)] ∧ H = [row u 5 1 (xs ++ ys).length (bv (xs ++ ys))] ∧
    ys ++ enc k y = venc x ∧ y < 128 ^ k ∧ ys.length + k = 10 ∧ y ≤ x) 10 ⟨x, [], v1, rfl, by simp, rfl, by omega, rfl, Nat.le_refl _⟩ ?_
  rintro k _ _ w3 ⟨y, ys, u, rfl, rfl, he, hy, hk, hyx⟩
  refine w_seq (w_seq ?_)
  refine w_reg ?_
  refine wl_f (f_move rfl) ?_
  refine wl_f (f_geq rfl rfl) ?_
  refine wl_end [(1, _), (5, _), (10, _)] ⟨rfl, rfl, rfl, trivial⟩ ?_
  refine w_ifd rfl (fun h => ?_) (fun h => ?_)
  · refine w_skip ?_
    refine w_block ?_
    refine w_seq ?_
    refine w_reg ?_
    refine wl_f (f_move rfl) ?_
    refine wl_f (f_move rfl) ?_
    refine wl_f (f_rem rfl rfl (by omega)) ?_
    refine wl_f (f_convb rfl Try.underlying38 Try.underlying5 (by omega)) ?_
    refine wl_f (f_addr (r := ((y % 128 + 128 : Nat) : Int)) rfl rfl (by rw [IntWalk.u8_in _ (by omega)]; omega)) ?_
    refine wl_e (e_lit1 (cs := [_]) t22 rfl rfl rfl (by omega)) ?_
    rintro _ _ w4 ⟨b2, rfl, rfl⟩
    refine wl_e (e_app1 t22 rfl rfl (fun w hh => Rd.held0 hh (i := 0) rfl) (by simp [Value.oneCell']) (by simp; omega) (by simp; omega)) ?_
    rintro v3 _ w5 rfl
    refine wl_f (f_assign rfl) ?_
    refine wl_rm0 ?_
    refine wl_end [(1, _), (5, _)] ⟨rfl, rfl, trivial⟩ ?_
    refine w_reg ?_
    refine wl_f (f_move rfl) ?_
    refine wl_f (f_quou rfl rfl (by omega)) ?_
    refine wl_f (f_assign rfl) ?_
    refine wl_end [(1, _), (5, _)] ⟨rfl, rfl, trivial⟩ ?_
    obtain ⟨k, rfl⟩ : ∃ k', k = k' + 1 := ⟨k - 1, by cases k with | zero => simp at hy; omega | succ k => rfl⟩
    refine ⟨k, by omega, y / 128, ys ++ [y % 128 + 128], v3, rfl, ?_, ?_, ?_, ?_, by omega⟩
    · rw [← List.append_assoc, bv_app (xs ++ ys)]
      simp [bv, Nat.add_assoc]
    · rw [enc_big k y (by omega)] at he
      simpa using he
    · rw [Nat.pow_succ] at hy; exact Nat.div_lt_of_lt_mul (by omega)
    · simp; omega
  · refine w_exit0 ?_
    refine w_seq ?_
    refine w_reg ?_
    refine wl_f (f_move rfl) ?_
    refine wl_f (f_move rfl) ?_
    refine wl_f (f_convw rfl Try.underlying38 Try.underlying5 (wrapu8 y)) ?_
    refine wl_e (e_lit1 (cs := [_]) t22 rfl rfl rfl (by omega)) ?_
    rintro _ _ w4 ⟨b2, rfl, rfl⟩
    refine wl_e (e_app1 t22 rfl rfl (fun w hh => Rd.held0 hh (i := 0) rfl) (by simp [Value.oneCell']) (by simp; omega) (by simp; omega)) ?_
    rintro v3 _ w5 rfl
    refine wl_f (f_assign rfl) ?_
    refine wl_rm0 ?_
    refine wl_end [(4, _)] ⟨rfl, trivial⟩ ?_
    refine w_ret ?_
    refine ⟨_, _, fun a ha hh => results_tmps Try.results22 rfl a ha _, List.Sublist.refl _, ?_⟩
    rw [enc_small k y (by omega)] at he
    rw [← he, ← List.append_assoc, bv_app (xs ++ ys), Nat.mod_eq_of_lt (by omega)]
    simp [bv, tup, Nat.add_assoc]
end Go.Proofs.Ythbjjfpikfmmnaa
