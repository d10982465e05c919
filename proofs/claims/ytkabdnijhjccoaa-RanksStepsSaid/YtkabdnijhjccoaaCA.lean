/- Linked lists: comparing, the example of the chapter. -/
import Derived.Test.YtkabdnijhjccoaaC10
namespace Go.Proofs.Ytkabdnijhjccoaa
open Go.RowKit

instance (N : List Nat) (x : Nat) : Decidable (Fresh N x) := by unfold Fresh; infer_instance
section
variable {α : Type} {R : List (Nat × α) → Res → Prop} {K : VK α} {n : Nat} {A B : List (Nat × α)} {v a : α} {r : Res} {u : Value} {H : List Res} {y : Nat}
theorem NewG.ok (h : NewG R n A B v r u H) (hn : (A ++ B).length ≠ n) (x : Nat) (hx : Fresh (nodes (A ++ B)) x) : ∃ r', u = .tuple #[.int .i64 x, .int .i64 0] ∧ H = [r'] ∧ R (A ++ (x, v) :: B) r' := by
  rcases h with ⟨h, _⟩ | ⟨_, x', r', hx', rfl, rfl, hr⟩
  · exact absurd h hn
  · obtain rfl := hx.uniq hx'
    exact ⟨r', rfl, rfl, hr⟩
theorem isAt_split (A B : List (Nat × α)) (y : Nat) (a : α) : isAt (y : Int) (nodes (A ++ (y, a) :: B)) = true := by rw [isAt_nat, nodes_split]; simp
theorem BehindG.ok (h : BehindG R n (A ++ (y, a) :: B) y v r u H) (hnd : (nodes (A ++ (y, a) :: B)).Nodup) : NewG R n (A ++ [(y, a)]) B v r u H := by
  rcases h with ⟨h, _⟩ | ⟨A', y', a', B', he, hy, h⟩
  · rw [isAt_split] at h; cases h
  · obtain rfl : y = y' := by omega
    obtain ⟨rfl, rfl, rfl⟩ := node_uniq hnd he
    exact h
theorem RemG.ok (h : RemG K R (A ++ (y, a) :: B) y r u H) (hnd : (nodes (A ++ (y, a) :: B)).Nodup) : ∃ r', u = .tuple #[K.val a, .int .i64 0] ∧ H = [r'] ∧ R (A ++ B) r' := by
  rcases h with ⟨h, _⟩ | ⟨A', y', a', B', r', he, hy, rfl, rfl, hr⟩
  · rw [isAt_split] at h; cases h
  · obtain rfl : y = y' := by omega
    obtain ⟨rfl, rfl, rfl⟩ := node_uniq hnd he
    exact ⟨r', rfl, rfl, hr⟩
end

def sv (l : List ByteArray) : List Value := l.map Value.string
set_option maxHeartbeats 1000000 in
theorem sameInts_spec (v1 v2 : Value) (xs ys : List Int) (w : World) (h1 : Rd w Nil 1 v1 xs.length (iv xs)) (h2 : Rd w Nil 1 v2 ys.length (iv ys)) (hx : xs.length ≤ 140737488355328) (hy : ys.length ≤ 140737488355328) :
    Spec Try.prog 37 [v1, v2] w Nil fun r H => r = .bool (decide (xs = ys)) ∧ H = [] := by
  obtain ⟨A1, c1, rfl, -, hc1', g1⟩ := h1
  obtain ⟨A2, c2, rfl, -, hc2', g2⟩ := h2
  refine enter (n := 26) Try.func37 rfl rfl [(0, _), (1, _)] rfl ⟨rfl, rfl, trivial⟩ (Holds.start _ _) ?_
  refine w_seq ?_
  refine w_reg ?_
  refine wl_f (f_assign rfl) ?_
  refine wl_end [(0, _), (1, _)] ⟨rfl, rfl, trivial⟩ ?_
  refine w_seq ?_
  refine w_seq ?_
  refine w_reg ?_
  refine wl_f (f_move rfl) ?_
  refine wl_f (f_len rfl Try.underlying33) ?_
  refine wl_f (f_move rfl) ?_
  refine wl_f (f_len rfl Try.underlying33) ?_
  refine wl_f (f_neq rfl rfl) ?_
  refine wl_end [(0, _), (1, _), (10, _)] ⟨rfl, rfl, rfl, trivial⟩ ?_
  refine w_ifd rfl (fun hc1 => ?_) (fun hc1 => ?_)
  · skip
    refine w_seq ?_
    refine w_reg ?_
    refine wl_f (f_assign rfl) ?_
    refine wl_end [(4, _)] ⟨rfl, trivial⟩ ?_
    refine w_ret ?_
    refine ⟨_, _, fun a ha hh => results_tmps Try.results37 rfl a ha _, List.Sublist.refl _, ?_⟩
    exact ⟨by rw [decide_eq_false (fun e => hc1 (by rw [e]))]; rfl, rfl⟩
  · skip
    refine w_skip ?_
    refine w_seq ?_
    refine w_seq ?_
    refine w_reg ?_
    refine wl_f (f_move rfl) ?_
    refine wl_f (f_len rfl Try.underlying33) ?_
    refine wl_f (f_move rfl) ?_
    refine wl_end [(0, _), (1, _), (12, _), (13, _)] ⟨rfl, rfl, rfl, rfl, trivial⟩ ?_
    refine w_block ?_
    refine w_loop (fun k m H w => ∃ i : Nat, m = [(0, .slice A1 xs.length c1), (1, .slice A2 ys.length c2), (12, .int .i64 xs.length), (13, .int .i64 i)] ∧ H = [] ∧ k + i = xs.length ∧ xs.take i = ys.take i) xs.length ⟨0, rfl, rfl, rfl, rfl⟩ ?_
    rintro k _ _ w' ⟨i, rfl, rfl, hk, ht⟩
    refine w_seq ?_
    refine w_reg ?_
    refine wl_f (f_lss rfl rfl) ?_
    refine wl_end [(0, _), (1, _), (12, _), (13, _), (14, _)] ⟨rfl, rfl, rfl, rfl, rfl, trivial⟩ ?_
    refine w_seq ?_
    refine w_ifd rfl (fun hc2 => ?_) (fun hc2 => ?_)
    · skip
      have hlen : xs.length = ys.length := by omega
      have hi1 : i < xs.length := by omega
      have hi2 : i < ys.length := by omega
      obtain ⟨b1, o1, rfl, -, -, d1⟩ := g1.resolve_left (by omega)
      obtain ⟨b2, o2, rfl, -, -, d2⟩ := g2.resolve_left (by omega)
      refine w_skip ?_
      refine w_seq ?_
      refine w_block ?_
      refine w_seq ?_
      refine w_reg ?_
      refine wl_f (f_move rfl) ?_
      refine wl_f (f_assign rfl) ?_
      refine wl_end [(0, _), (1, _), (5, _), (12, _), (13, _)] ⟨rfl, rfl, rfl, rfl, rfl, trivial⟩ ?_
      refine w_seq ?_
      refine w_draw [(0, true), (1, true), (2, true), (3, true), (4, true), (5, true), (6, true), (7, true), (8, true)] (_) ([]) mixed (by kernel_rfl) (by kernel_rfl) rfl (perm_all _) (fun w6_ => ?_)
      refine wd_f rfl (f_move rfl) ?_
      refine wd_f rfl (f_move rfl) ?_
      refine wd_f rfl (f_indexAddr 1 rfl rfl Try.underlying33 (by kernel_rfl) rfl (by omega)) ?_
      refine wd_f rfl (f_loado (v := .int .i64 xs[i]) rfl Try.underlying3 rfl (d1 _ _ (by simp [iv])) id) ?_
      refine wd_f rfl (f_move rfl) ?_
      refine wd_f rfl (f_move rfl) ?_
      refine wd_f rfl (f_indexAddr 1 rfl rfl Try.underlying33 (by kernel_rfl) rfl (by omega)) ?_
      refine wd_f rfl (f_loado (v := .int .i64 ys[i]) rfl Try.underlying3 rfl (d2 _ _ (by simp [iv])) id) ?_
      refine wd_f rfl (f_neq rfl rfl) ?_
      refine wd_end [(0, _), (1, _), (12, _), (13, _), (24, _)] ⟨rfl, rfl, rfl, rfl, rfl, trivial⟩ ?_
      refine w_ifd rfl (fun hc3 => ?_) (fun hc3 => ?_)
      · skip
        refine w_seq ?_
        refine w_reg ?_
        refine wl_f (f_assign rfl) ?_
        refine wl_end [(4, _)] ⟨rfl, trivial⟩ ?_
        refine w_ret ?_
        refine ⟨_, _, fun a ha hh => results_tmps Try.results37 rfl a ha _, List.Sublist.refl _, ?_⟩
        exact ⟨by rw [decide_eq_false (fun e => hc3 (by subst e; rfl))]; rfl, rfl⟩
      · skip
        refine w_skip ?_
        refine w_reg ?_
        refine wl_f (f_add rfl rfl (by omega)) ?_
        refine wl_f (f_move rfl) ?_
        refine wl_end [(0, _), (1, _), (12, _), (13, _)] ⟨rfl, rfl, rfl, rfl, trivial⟩ ?_
        refine ⟨k - 1, by omega, i + 1, rfl, rfl, by omega, ?_⟩
        have : xs[i] = ys[i] := Classical.not_not.1 hc3
        rw [List.take_succ_eq_append_getElem hi1, List.take_succ_eq_append_getElem hi2, ht, this]
    · skip
      refine w_exit0 ?_
      refine w_seq ?_
      refine w_reg ?_
      refine wl_f (f_assign rfl) ?_
      refine wl_end [(4, _)] ⟨rfl, trivial⟩ ?_
      refine w_ret ?_
      refine ⟨_, _, fun a ha hh => results_tmps Try.results37 rfl a ha _, List.Sublist.refl _, ?_⟩
      exact ⟨by rw [decide_eq_true (by rw [List.take_of_length_le (by omega), List.take_of_length_le (by omega)] at ht; exact ht)]; rfl, rfl⟩
set_option maxHeartbeats 1000000 in
theorem sameTexts_spec (v1 v2 : Value) (xs ys : List ByteArray) (w : World) (h1 : Rd w Nil 1 v1 xs.length (sv xs)) (h2 : Rd w Nil 1 v2 ys.length (sv ys)) (hx : xs.length ≤ 140737488355328) (hy : ys.length ≤ 140737488355328) :
    Spec Try.prog 14 [v1, v2] w Nil fun r H => r = .bool (decide (xs = ys)) ∧ H = [] := by
  obtain ⟨A1, c1, rfl, -, hc1', g1⟩ := h1
  obtain ⟨A2, c2, rfl, -, hc2', g2⟩ := h2
  refine enter (n := 26) Try.func14 rfl rfl [(0, _), (1, _)] rfl ⟨rfl, rfl, trivial⟩ (Holds.start _ _) ?_
  refine w_seq ?_
  refine w_reg ?_
  refine wl_f (f_assign rfl) ?_
  refine wl_end [(0, _), (1, _)] ⟨rfl, rfl, trivial⟩ ?_
  refine w_seq ?_
  refine w_seq ?_
  refine w_reg ?_
  refine wl_f (f_move rfl) ?_
  refine wl_f (f_len rfl Try.underlying22) ?_
  refine wl_f (f_move rfl) ?_
  refine wl_f (f_len rfl Try.underlying22) ?_
  refine wl_f (f_neq rfl rfl) ?_
  refine wl_end [(0, _), (1, _), (10, _)] ⟨rfl, rfl, rfl, trivial⟩ ?_
  refine w_ifd rfl (fun hc1 => ?_) (fun hc1 => ?_)
  · skip
    refine w_seq ?_
    refine w_reg ?_
    refine wl_f (f_assign rfl) ?_
    refine wl_end [(4, _)] ⟨rfl, trivial⟩ ?_
    refine w_ret ?_
    refine ⟨_, _, fun a ha hh => results_tmps Try.results14 rfl a ha _, List.Sublist.refl _, ?_⟩
    exact ⟨by rw [decide_eq_false (fun e => hc1 (by rw [e]))]; rfl, rfl⟩
  · skip
    refine w_skip ?_
    refine w_seq ?_
    refine w_seq ?_
    refine w_reg ?_
    refine wl_f (f_move rfl) ?_
    refine wl_f (f_len rfl Try.underlying22) ?_
    refine wl_f (f_move rfl) ?_
    refine wl_end [(0, _), (1, _), (12, _), (13, _)] ⟨rfl, rfl, rfl, rfl, trivial⟩ ?_
    refine w_block ?_
    refine w_loop (fun k m H w => ∃ i : Nat, m = [(0, .slice A1 xs.length c1), (1, .slice A2 ys.length c2), (12, .int .i64 xs.length), (13, .int .i64 i)] ∧ H = [] ∧ k + i = xs.length ∧ xs.take i = ys.take i) xs.length ⟨0, rfl, rfl, rfl, rfl⟩ ?_
    rintro k _ _ w' ⟨i, rfl, rfl, hk, ht⟩
    refine w_seq ?_
    refine w_reg ?_
    refine wl_f (f_lss rfl rfl) ?_
    refine wl_end [(0, _), (1, _), (12, _), (13, _), (14, _)] ⟨rfl, rfl, rfl, rfl, rfl, trivial⟩ ?_
    refine w_seq ?_
    refine w_ifd rfl (fun hc2 => ?_) (fun hc2 => ?_)
    · skip
      have hlen : xs.length = ys.length := by omega
      have hi1 : i < xs.length := by omega
      have hi2 : i < ys.length := by omega
      obtain ⟨b1, o1, rfl, -, -, d1⟩ := g1.resolve_left (by omega)
      obtain ⟨b2, o2, rfl, -, -, d2⟩ := g2.resolve_left (by omega)
      refine w_skip ?_
      refine w_seq ?_
      refine w_block ?_
      refine w_seq ?_
      refine w_reg ?_
      refine wl_f (f_move rfl) ?_
      refine wl_f (f_assign rfl) ?_
      refine wl_end [(0, _), (1, _), (5, _), (12, _), (13, _)] ⟨rfl, rfl, rfl, rfl, rfl, trivial⟩ ?_
      refine w_seq ?_
      refine w_draw [(0, true), (1, true), (2, true), (3, true), (4, true), (5, true), (6, true), (7, true), (8, true)] (_) ([]) mixed (by kernel_rfl) (by kernel_rfl) rfl (perm_all _) (fun w6_ => ?_)
      refine wd_f rfl (f_move rfl) ?_
      refine wd_f rfl (f_move rfl) ?_
      refine wd_f rfl (f_indexAddr 1 rfl rfl Try.underlying22 (by kernel_rfl) rfl (by omega)) ?_
      refine wd_f rfl (f_loado (v := .string xs[i]) rfl Try.underlying9 rfl (d1 _ _ (by simp [sv])) id) ?_
      refine wd_f rfl (f_move rfl) ?_
      refine wd_f rfl (f_move rfl) ?_
      refine wd_f rfl (f_indexAddr 1 rfl rfl Try.underlying22 (by kernel_rfl) rfl (by omega)) ?_
      refine wd_f rfl (f_loado (v := .string ys[i]) rfl Try.underlying9 rfl (d2 _ _ (by simp [sv])) id) ?_
      refine wd_f rfl (f_neqs rfl rfl) ?_
      refine wd_end [(0, _), (1, _), (12, _), (13, _), (24, _)] ⟨rfl, rfl, rfl, rfl, rfl, trivial⟩ ?_
      refine w_ifd rfl (fun hc3 => ?_) (fun hc3 => ?_)
      · skip
        refine w_seq ?_
        refine w_reg ?_
        refine wl_f (f_assign rfl) ?_
        refine wl_end [(4, _)] ⟨rfl, trivial⟩ ?_
        refine w_ret ?_
        refine ⟨_, _, fun a ha hh => results_tmps Try.results14 rfl a ha _, List.Sublist.refl _, ?_⟩
        exact ⟨by rw [decide_eq_false (fun e => hc3 (by subst e; rfl))]; rfl, rfl⟩
      · skip
        refine w_skip ?_
        refine w_reg ?_
        refine wl_f (f_add rfl rfl (by omega)) ?_
        refine wl_f (f_move rfl) ?_
        refine wl_end [(0, _), (1, _), (12, _), (13, _)] ⟨rfl, rfl, rfl, rfl, trivial⟩ ?_
        refine ⟨k - 1, by omega, i + 1, rfl, rfl, by omega, ?_⟩
        have : xs[i] = ys[i] := Classical.not_not.1 hc3
        rw [List.take_succ_eq_append_getElem hi1, List.take_succ_eq_append_getElem hi2, ht, this]
    · skip
      refine w_exit0 ?_
      refine w_seq ?_
      refine w_reg ?_
      refine wl_f (f_assign rfl) ?_
      refine wl_end [(4, _)] ⟨rfl, trivial⟩ ?_
      refine w_ret ?_
      refine ⟨_, _, fun a ha hh => results_tmps Try.results14 rfl a ha _, List.Sublist.refl _, ?_⟩
      exact ⟨by rw [decide_eq_true (by rw [List.take_of_length_le (by omega), List.take_of_length_le (by omega)] at ht; exact ht)]; rfl, rfl⟩
end Go.Proofs.Ytkabdnijhjccoaa
