/- The deck: it yields some numbers, tags and events. -/
import Derived.Test.YthbjjfpikfmmnaaD4
namespace Go.Proofs.Ythbjjfpikfmmnaa
open Go.RowKit

theorem t23 : SlT Try.prog 23 3 1 8 (.int .i64 0) := .mk' Try.underlying23 (by kernel_rfl) rfl (by decide)
def iv (l : List Int) : List Value := l.map fun i => Value.int .i64 i
theorem iv_get1 (l : List Int) (i : Nat) (h : i < l.length) : (iv l)[i * 1]? = some (.int .i64 l[i]) := by simp [iv, h]

/-- A deck whose list can be read. -/
def deck (b : Nat) (lv : Value) (p : Nat) : Res := blk b [lv, .int .i64 p] 61
def DRd (w : World) (b : Nat) (lv : Value) (L : List Int) (p : Nat) : Prop := Rd w (fun k => k = b) 1 lv L.length (iv L) ∧ L.length ≤ 140737488355328 ∧ p ≤ L.length

theorem tmod_bounds (x n : Int) (h : 1 ≤ n) : -n < x.tmod n ∧ x.tmod n < n := by
  have h1 := Int.tmod_lt_of_pos x (b := n) (by omega)
  have h2 := Int.tmod_lt_of_pos (-x) (b := n) (by omega)
  rw [Int.neg_tmod] at h2
  omega

theorem within_spec (x : Int) (n : Nat) (w : World) (hn : 1 ≤ n ∧ n ≤ 4398046511104) :
    Spec Try.prog 35 [.int .i64 x, .int .i64 n] w Nil fun r H => ∃ y : Nat, r = .int .i64 y ∧ y < n ∧ H = [] := by
  have hb := tmod_bounds x n (by omega)
  refine enter (n := 12) Try.func35 rfl rfl [(0, _), (1, _)] rfl ⟨rfl, rfl, trivial⟩ (Holds.start _ _) ?_
  refine w_seq ?_
  refine w_reg ?_
  refine wl_f (f_assign rfl) ?_
  refine wl_end [(0, _), (1, _)] ⟨rfl, rfl, trivial⟩ ?_
  refine w_seq ?_
  refine w_reg ?_
  refine wl_f (f_move rfl) ?_
  refine wl_f (f_move rfl) ?_
  refine wl_f (f_remw rfl rfl (by omega) rfl) ?_
  refine wl_f (f_move rfl) ?_
  refine wl_f (f_add rfl rfl (by omega)) ?_
  refine wl_f (f_move rfl) ?_
  refine wl_f (f_remw (r := (((x.tmod n + n) % n).toNat : Nat)) rfl rfl (by omega) ?_) ?_
  · rw [Int.tmod_eq_emod_of_nonneg (by omega), Int.toNat_of_nonneg (Int.emod_nonneg _ (by omega))]
  refine wl_f (f_assign rfl) ?_
  refine wl_end [(4, _)] ⟨rfl, trivial⟩ ?_
  refine w_ret ?_
  refine ⟨_, _, fun a ha hh => results_tmps Try.results35 rfl a ha _, List.Sublist.refl _, ?_⟩
  exact ⟨_, rfl, by have := Int.emod_lt_of_pos (x.tmod n + n) (b := (n : Int)) (by omega); have := Int.emod_nonneg (x.tmod n + n) (b := (n : Int)) (by omega); omega, rfl⟩

theorem next_spec (b : Nat) (lv : Value) (L : List Int) (p n : Nat) (w : World) (hd : DRd w b lv L p) (hs : Holds w (deck b lv p).foot [deck b lv p] w) (hn : 1 ≤ n ∧ n ≤ 4398046511104) :
    Spec Try.prog 24 [.pointer (some ⟨b, 0, .none⟩), .int .i64 n] w (deck b lv p).foot fun r H => ∃ y p' : Nat, r = .int .i64 y ∧ y < n ∧ H = [deck b lv p'] ∧ p' ≤ L.length := by
  obtain ⟨hrd, hL, hp⟩ := hd
  obtain ⟨A, c, rfl, -, hc', g⟩ := hrd
  refine enter (n := 35) Try.func24 rfl rfl [(0, _), (1, _)] rfl ⟨rfl, rfl, trivial⟩ hs ?_
  refine w_seq ?_
  refine w_reg ?_
  refine wl_f (f_assign rfl) ?_
  refine wl_end [(0, _), (1, _)] ⟨rfl, rfl, trivial⟩ ?_
  refine w_seq ?_
  refine w_seq ?_
  refine w_draw [(0, true), (1, true), (2, true), (3, true), (4, true), (5, true), (6, true), (7, true), (8, true), (9, true)] (_) ([]) mixed (by kernel_rfl) (by kernel_rfl) rfl (perm_all _) (fun w1_ => ?_)
  refine wd_f rfl (f_move rfl) ?_
  refine wd_f rfl (f_nilCheck rfl) ?_
  refine wd_f rfl (f_fieldAddr 1 rfl Try.underlying61 rfl rfl (by kernel_rfl)) ?_
  (first | refine wd_f rfl (f_loadb 0 rfl Try.underlying3 rfl rfl rfl) ?_ | refine wd_f rfl (f_loadb 1 rfl Try.underlying3 rfl rfl rfl) ?_ | refine wd_f rfl (f_loadb 2 rfl Try.underlying3 rfl rfl rfl) ?_ | refine wd_f rfl (f_loadb 3 rfl Try.underlying3 rfl rfl rfl) ?_ | refine wd_f rfl (f_loadb 4 rfl Try.underlying3 rfl rfl rfl) ?_ | refine wd_f rfl (f_loadb 5 rfl Try.underlying3 rfl rfl rfl) ?_ | refine wd_f rfl (f_loadb 6 rfl Try.underlying3 rfl rfl rfl) ?_)
  refine wd_f rfl (f_move rfl) ?_
  refine wd_f rfl (f_nilCheck rfl) ?_
  refine wd_f rfl (f_fieldAddr 0 rfl Try.underlying61 rfl rfl (by kernel_rfl)) ?_
  (first | refine wd_f rfl (f_loadb 0 rfl Try.underlying23 rfl rfl rfl) ?_ | refine wd_f rfl (f_loadb 1 rfl Try.underlying23 rfl rfl rfl) ?_ | refine wd_f rfl (f_loadb 2 rfl Try.underlying23 rfl rfl rfl) ?_ | refine wd_f rfl (f_loadb 3 rfl Try.underlying23 rfl rfl rfl) ?_ | refine wd_f rfl (f_loadb 4 rfl Try.underlying23 rfl rfl rfl) ?_ | refine wd_f rfl (f_loadb 5 rfl Try.underlying23 rfl rfl rfl) ?_ | refine wd_f rfl (f_loadb 6 rfl Try.underlying23 rfl rfl rfl) ?_)
  refine wd_f rfl (f_len rfl Try.underlying23) ?_
  refine wd_f rfl (f_geq rfl rfl) ?_
  refine wd_end [(0, _), (1, _), (14, _)] ⟨rfl, rfl, rfl, trivial⟩ ?_
  refine w_ifd rfl (fun hc1 => ?_) (fun hc1 => ?_)
  · skip
    refine w_seq ?_
    refine w_reg ?_
    refine wl_f (f_assign rfl) ?_
    refine wl_end [(4, _)] ⟨rfl, trivial⟩ ?_
    refine w_ret ?_
    refine ⟨_, _, fun a ha hh => results_tmps Try.results24 rfl a ha _, List.Sublist.refl _, ?_⟩
    exact ⟨0, p, rfl, by omega, rfl, hp⟩
  · skip
    obtain ⟨b1, o1, rfl, hF, -, d1⟩ := g.resolve_left (by omega)
    refine w_skip ?_
    refine w_seq ?_
    refine w_reg ?_
    refine wl_f (f_move rfl) ?_
    refine wl_f (f_nilCheck rfl) ?_
    refine wl_f (f_fieldAddr 1 rfl Try.underlying61 rfl rfl (by kernel_rfl)) ?_
    (first | refine wl_f (f_loadb 0 rfl Try.underlying3 rfl rfl rfl) ?_ | refine wl_f (f_loadb 1 rfl Try.underlying3 rfl rfl rfl) ?_ | refine wl_f (f_loadb 2 rfl Try.underlying3 rfl rfl rfl) ?_ | refine wl_f (f_loadb 3 rfl Try.underlying3 rfl rfl rfl) ?_ | refine wl_f (f_loadb 4 rfl Try.underlying3 rfl rfl rfl) ?_ | refine wl_f (f_loadb 5 rfl Try.underlying3 rfl rfl rfl) ?_ | refine wl_f (f_loadb 6 rfl Try.underlying3 rfl rfl rfl) ?_)
    refine wl_f (f_add rfl rfl (by omega)) ?_
    refine wl_f (f_nilCheck rfl) ?_
    refine wl_f (f_fieldAddr 1 rfl Try.underlying61 rfl rfl (by kernel_rfl)) ?_
    (first | refine wl_e0 (e_store0 (us := [_]) rfl rfl rfl (by kernel_rfl) (by simp [Value.oneCell']) rfl rfl) ?_ | refine wl_e0 (e_store1 (us := [_]) rfl rfl rfl (by kernel_rfl) (by simp [Value.oneCell']) rfl rfl) ?_ | refine wl_e0 (e_store2 (us := [_]) rfl rfl rfl (by kernel_rfl) (by simp [Value.oneCell']) rfl rfl) ?_ | refine wl_e0 (e_store3 (us := [_]) rfl rfl rfl (by kernel_rfl) (by simp [Value.oneCell']) rfl rfl) ?_)
    rintro _ _ w3_7 rfl
    refine wl_end [(0, _), (1, _)] ⟨rfl, rfl, trivial⟩ ?_
    refine w_seq ?_
    refine w_draw [(0, true), (1, true), (2, true), (3, true), (4, true), (5, true), (6, true), (7, true), (8, true), (9, true), (10, true), (11, true), (12, false), (13, true)] (_) ([]) mixed (by kernel_rfl) (by kernel_rfl) rfl (perm_all _) (fun w4_ => ?_)
    refine wd_f rfl (f_move rfl) ?_
    refine wd_f rfl (f_nilCheck rfl) ?_
    refine wd_f rfl (f_fieldAddr 0 rfl Try.underlying61 rfl rfl (by kernel_rfl)) ?_
    (first | refine wd_f rfl (f_loadb 0 rfl Try.underlying23 rfl rfl rfl) ?_ | refine wd_f rfl (f_loadb 1 rfl Try.underlying23 rfl rfl rfl) ?_ | refine wd_f rfl (f_loadb 2 rfl Try.underlying23 rfl rfl rfl) ?_ | refine wd_f rfl (f_loadb 3 rfl Try.underlying23 rfl rfl rfl) ?_ | refine wd_f rfl (f_loadb 4 rfl Try.underlying23 rfl rfl rfl) ?_ | refine wd_f rfl (f_loadb 5 rfl Try.underlying23 rfl rfl rfl) ?_ | refine wd_f rfl (f_loadb 6 rfl Try.underlying23 rfl rfl rfl) ?_)
    refine wd_f rfl (f_move rfl) ?_
    refine wd_f rfl (f_nilCheck rfl) ?_
    refine wd_f rfl (f_fieldAddr 1 rfl Try.underlying61 rfl rfl (by kernel_rfl)) ?_
    (first | refine wd_f rfl (f_loadb 0 rfl Try.underlying3 rfl rfl rfl) ?_ | refine wd_f rfl (f_loadb 1 rfl Try.underlying3 rfl rfl rfl) ?_ | refine wd_f rfl (f_loadb 2 rfl Try.underlying3 rfl rfl rfl) ?_ | refine wd_f rfl (f_loadb 3 rfl Try.underlying3 rfl rfl rfl) ?_ | refine wd_f rfl (f_loadb 4 rfl Try.underlying3 rfl rfl rfl) ?_ | refine wd_f rfl (f_loadb 5 rfl Try.underlying3 rfl rfl rfl) ?_ | refine wd_f rfl (f_loadb 6 rfl Try.underlying3 rfl rfl rfl) ?_)
    refine wd_f rfl (f_sub rfl rfl (by omega)) ?_
    refine wd_f rfl (f_indexAddr 1 (i := p) rfl rfl Try.underlying23 (by kernel_rfl) (by omega) (by omega)) ?_
    refine wd_f rfl (f_loado rfl Try.underlying3 rfl (d1 (p * 1) _ (iv_get1 L p (by omega))) hF) ?_
    refine wd_f rfl (f_move rfl) ?_
    refine wd_e rfl (e_call0 rfl Try.func35 (by kernel_rfl) (fun w hh => within_spec _ n w hn)) ?_
    rintro _ _ w4 ⟨_, rfl, y, rfl, hy, rfl⟩
    refine ⟨_, List.perm_append_comm_assoc _ _ _, ?_⟩
    refine wd_f rfl (f_assign rfl) ?_
    refine wd_end [(4, _)] ⟨rfl, trivial⟩ ?_
    refine w_ret ?_
    refine ⟨_, _, fun a ha hh => results_tmps Try.results24 rfl a ha _, List.Sublist.refl _, ?_⟩
    exact ⟨y, p + 1, rfl, hy, rfl, by omega⟩

theorem small_spec (b : Nat) (lv : Value) (L : List Int) (p : Nat) (w : World) (hd : DRd w b lv L p) (hs : Holds w (deck b lv p).foot [deck b lv p] w) :
    Spec Try.prog 37 [.pointer (some ⟨b, 0, .none⟩)] w (deck b lv p).foot fun r H => ∃ y p' : Nat, r = .int .u64 y ∧ 1 ≤ y ∧ y ≤ 20 ∧ H = [deck b lv p'] ∧ p' ≤ L.length := by
  refine enter (n := 7) Try.func37 rfl rfl [(0, _)] rfl ⟨rfl, trivial⟩ hs ?_
  refine w_seq ?_
  refine w_reg ?_
  refine wl_f (f_assign rfl) ?_
  refine wl_end [(0, _)] ⟨rfl, trivial⟩ ?_
  refine w_seq ?_
  refine w_reg ?_
  refine wl_f (f_move rfl) ?_
  refine wl_e (e_call1 (deck b lv p) [] rfl Try.func24 (by kernel_rfl) (List.Perm.refl _) (fun w hh hs' => next_spec b lv L p 20 w ⟨hd.1.old1 hh (List.Perm.refl _), hd.2⟩ hs' (by omega))) ?_
  rintro _ _ w1 ⟨_, rfl, y, p', rfl, hy, rfl, hp'⟩
  refine wl_f (f_add rfl rfl (by omega)) ?_
  refine wl_f (f_convu rfl Try.underlying3 Try.underlying38 (by omega)) ?_
  refine wl_f (f_assign rfl) ?_
  refine wl_end [(2, _)] ⟨rfl, trivial⟩ ?_
  refine w_ret ?_
  refine ⟨_, _, fun a ha hh => results_tmps Try.results37 rfl a ha _, List.Sublist.refl _, ?_⟩
  exact ⟨1 + y, p', by simp [tup], by omega, by omega, rfl, hp'⟩
end Go.Proofs.Ythbjjfpikfmmnaa
