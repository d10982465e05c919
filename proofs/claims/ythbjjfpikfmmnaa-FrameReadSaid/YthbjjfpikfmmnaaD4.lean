/- Two lists of bytes are compared; is an event short; the sanity check. -/
import Derived.Test.YthbjjfpikfmmnaaD3
namespace Go.Proofs.Ythbjjfpikfmmnaa
open Go.RowKit

theorem bv_get1 (l : List Nat) (i : Nat) (h : i < l.length) : (bv l)[i * 1]? = some (.int .u8 (l[i] : Int)) := by rw [Nat.mul_one]; exact bv_get l i h

theorem same_spec (v1 v2 : Value) (xs ys : List Nat) (w : World) (h1 : Rd w Nil 1 v1 xs.length (bv xs)) (h2 : Rd w Nil 1 v2 ys.length (bv ys)) (hx : xs.length ≤ 1000000000) (hy : ys.length ≤ 1000000000) :
    Spec Try.prog 20 [v1, v2] w Nil fun r H => r = .bool (decide (xs = ys)) ∧ H = [] := by
  obtain ⟨A1, c1, rfl, -, hc1', g1⟩ := h1
  obtain ⟨A2, c2, rfl, -, hc2', g2⟩ := h2
  refine enter (n := 26) Try.func20 rfl rfl [(0, _), (1, _)] rfl ⟨rfl, rfl, trivial⟩ (Holds.start _ _) ?_
  refine w_seq ?_
  refine w_reg ?_
  refine wl_f (f_assign rfl) ?_
  refine wl_end [(0, _), (1, _)] ⟨rfl, rfl, trivial⟩ ?_
  refine w_seq ?_
  refine w_seq ?_
  refine w_reg ?_
  refine wl_f (f_move rfl) ?_
  refine wl_f (f_len rfl Try.underlying22) ?_
  refine wl_f (f_move rfl) ?_
  refine wl_f (f_len rfl Try.underlying22) ?_
  refine wl_f (f_neq rfl rfl) ?_
  refine wl_end [(0, _), (1, _), (10, _)] ⟨rfl, rfl, rfl, trivial⟩ ?_
  refine w_ifd rfl (fun hc1 => ?_) (fun hc1 => ?_)
  · skip
    refine w_seq ?_
    refine w_reg ?_
    refine wl_f (f_assign rfl) ?_
    refine wl_end [(4, _)] ⟨rfl, trivial⟩ ?_
    refine w_ret ?_
    refine ⟨_, _, fun a ha hh => results_tmps Try.results20 rfl a ha _, List.Sublist.refl _, ?_⟩
    exact ⟨by rw [decide_eq_false (fun e => hc1 (by rw [e]))]; rfl, rfl⟩
  · skip
    refine w_skip ?_
    refine w_seq ?_
    refine w_seq ?_
    refine w_reg ?_
    refine wl_f (f_move rfl) ?_
    refine wl_f (f_len rfl Try.underlying22) ?_
    refine wl_f (f_move rfl) ?_
    refine wl_end [(0, _), (1, _), (12, _), (13, _)] ⟨rfl, rfl, rfl, rfl, trivial⟩ ?_
    refine w_block ?_
    refine w_loop (fun k m H w => ∃ i : Nat, m = [(0, .slice A1 xs.length c1), (1, .slice A2 ys.length c2), (12, .int .i64 xs.length), (13, .int .i64 i)] ∧ H = [] ∧ k + i = xs.length ∧ xs.take i = ys.take i) xs.length ⟨0, rfl, rfl, rfl, rfl⟩ ?_
    rintro k _ _ w' ⟨i, rfl, rfl, hk, ht⟩
    refine w_seq ?_
    refine w_reg ?_
    refine wl_f (f_lss rfl rfl) ?_
    refine wl_end [(0, _), (1, _), (12, _), (13, _), (14, _)] ⟨rfl, rfl, rfl, rfl, rfl, trivial⟩ ?_
    refine w_seq ?_
    refine w_ifd rfl (fun hc2 => ?_) (fun hc2 => ?_)
    · skip
      have hlen : xs.length = ys.length := by omega
      have hi1 : i < xs.length := by omega
      have hi2 : i < ys.length := by omega
      obtain ⟨b1, o1, rfl, -, -, d1⟩ := g1.resolve_left (by omega)
      obtain ⟨b2, o2, rfl, -, -, d2⟩ := g2.resolve_left (by omega)
      refine w_skip ?_
      refine w_seq ?_
      refine w_block ?_
      refine w_seq ?_
      refine w_reg ?_
      refine wl_f (f_move rfl) ?_
      refine wl_f (f_assign rfl) ?_
      refine wl_end [(0, _), (1, _), (5, _), (12, _), (13, _)] ⟨rfl, rfl, rfl, rfl, rfl, trivial⟩ ?_
      refine w_seq ?_
      refine w_draw [(0, true), (1, true), (2, true), (3, true), (4, true), (5, true), (6, true), (7, true), (8, true)] (_) ([]) mixed (by kernel_rfl) (by kernel_rfl) rfl (perm_all _) (fun w6_ => ?_)
      refine wd_f rfl (f_move rfl) ?_
      refine wd_f rfl (f_move rfl) ?_
      refine wd_f rfl (f_indexAddr 1 rfl rfl Try.underlying22 (by kernel_rfl) rfl (by omega)) ?_
      refine wd_f rfl (f_loado rfl Try.underlying5 rfl (d1 (i * 1) _ (bv_get1 xs i hi1)) id) ?_
      refine wd_f rfl (f_move rfl) ?_
      refine wd_f rfl (f_move rfl) ?_
      refine wd_f rfl (f_indexAddr 1 rfl rfl Try.underlying22 (by kernel_rfl) rfl (by omega)) ?_
      refine wd_f rfl (f_loado rfl Try.underlying5 rfl (d2 (i * 1) _ (bv_get1 ys i hi2)) id) ?_
      refine wd_f rfl (f_neq rfl rfl) ?_
      refine wd_end [(0, _), (1, _), (12, _), (13, _), (24, _)] ⟨rfl, rfl, rfl, rfl, rfl, trivial⟩ ?_
      refine w_ifd rfl (fun hc3 => ?_) (fun hc3 => ?_)
      · skip
        refine w_seq ?_
        refine w_reg ?_
        refine wl_f (f_assign rfl) ?_
        refine wl_end [(4, _)] ⟨rfl, trivial⟩ ?_
        refine w_ret ?_
        refine ⟨_, _, fun a ha hh => results_tmps Try.results20 rfl a ha _, List.Sublist.refl _, ?_⟩
        exact ⟨by rw [decide_eq_false (fun e => hc3 (by subst e; rfl))]; rfl, rfl⟩
      · skip
        refine w_skip ?_
        refine w_reg ?_
        refine wl_f (f_add rfl rfl (by omega)) ?_
        refine wl_f (f_move rfl) ?_
        refine wl_end [(0, _), (1, _), (12, _), (13, _)] ⟨rfl, rfl, rfl, rfl, trivial⟩ ?_
        refine ⟨k - 1, by omega, i + 1, rfl, rfl, by omega, ?_⟩
        rw [List.take_succ_eq_append_getElem hi1, List.take_succ_eq_append_getElem hi2, ht, show xs[i] = ys[i] from by omega]
    · skip
      refine w_exit0 ?_
      refine w_seq ?_
      refine w_reg ?_
      refine wl_f (f_assign rfl) ?_
      refine wl_end [(4, _)] ⟨rfl, trivial⟩ ?_
      refine w_ret ?_
      refine ⟨_, _, fun a ha hh => results_tmps Try.results20 rfl a ha _, List.Sublist.refl _, ?_⟩
      exact ⟨by rw [decide_eq_true (by rw [List.take_of_length_le (by omega), List.take_of_length_le (by omega)] at ht; exact ht)]; rfl, rfl⟩

def plainOk (tags : List Tg) : Prop := tags.length ≤ 12 ∧ ∀ t ∈ tags, t.1.size ≤ 200 ∧ t.2.size ≤ 200


theorem build_tag (a b : ByteArray) (w : World) : (Instr.build 52 [(0, .string a), (1, .string b)].toArray).run Try.prog w = .ok (.agg [.string a, .string b].toArray) w := by kernel_rfl
theorem build_ev (A : Option Addr) (l c : Nat) (t wt : Int) (w : World) : (Instr.build 40 [(0, .slice A l c), (1, .int .i64 t), (2, .int .u64 wt)].toArray).run Try.prog w = .ok (.agg [.slice A l c, .int .i64 t, .int .u64 wt].toArray) w := by kernel_rfl
def tg1 : Tg := (⟨#[97]⟩, ⟨#[98]⟩)
theorem enc1 : encEv [tg1] 5 300 = ([5, 172, 2, 1, 1, 97, 1, 98], 0) := by decide +kernel

end Go.Proofs.Ythbjjfpikfmmnaa
