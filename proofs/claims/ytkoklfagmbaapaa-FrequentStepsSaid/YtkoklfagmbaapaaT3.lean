/- Comparing entries. -/
import Derived.Test.YtkoklfagmbaapaaT1
namespace Go.Proofs.Ytkoklfagmbaapaa
open Go.RowKit

theorem eqEn (s s' : ByteArray) (t t' u u' : Int) (w : World) : (Op.equalIn 10000 36 (.agg [.string s, .int .u64 t, .int .u64 u].toArray) (.agg [.string s', .int .u64 t', .int .u64 u'].toArray)).run Try.prog w = .ok (decide (s = s' ∧ t = t' ∧ u = u')) w := by
  have ht : Try.prog.underlying 36 = some (.struct (Try.prog.fieldsOf 36)) := by kernel_rfl
  rw [run_equalIn_struct w 9999 36 _ _ ht (by kernel_rfl)]
  simp only [Program.fieldsOf, Try.underlying36]
  have p0 : ∀ (s : ByteArray) (t u : Int), (part 9 #[.string s, .int .u64 t, .int .u64 u] 0).run Try.prog w = .ok (.string s) w := fun s t u => by kernel_rfl
  have p1 : ∀ (s : ByteArray) (t u : Int), (part 33 #[.string s, .int .u64 t, .int .u64 u] 1).run Try.prog w = .ok (.int .u64 t) w := fun s t u => by kernel_rfl
  have p2 : ∀ (s : ByteArray) (t u : Int), (part 33 #[.string s, .int .u64 t, .int .u64 u] 2).run Try.prog w = .ok (.int .u64 u) w := fun s t u => by kernel_rfl
  have q0 : (Op.equalIn 9999 9 (.string s) (.string s')).run Try.prog w = .ok (s.toList == s'.toList) w := run_equalIn_string w 9998 _ s s' Try.underlying9
  have q1 : (Op.equalIn 9999 33 (.int .u64 t) (.int .u64 t')).run Try.prog w = .ok (t == t') w := run_equalIn_int w 9998 33 .u64 .u64 t t' Try.underlying33
  have q2 : (Op.equalIn 9999 33 (.int .u64 u) (.int .u64 u')).run Try.prog w = .ok (u == u') w := run_equalIn_int w 9998 33 .u64 .u64 u u' Try.underlying33
  by_cases h0 : s = s'
  · subst h0
    by_cases h1 : t = t'
    · subst h1
      by_cases h2 : u = u'
      · subst h2; simp [Op.eqFields, p0, p1, p2, q0, q1, q2]
      · simp [Op.eqFields, p0, p1, p2, q0, q1, q2, h2]
    · simp [Op.eqFields, p0, p1, p2, q0, q1, q2, h1]
  · have : ¬ s.toList = s'.toList := fun e => h0 (toList_inj.1 e)
    simp [Op.eqFields, p0, p1, p2, q0, q1, q2, h0, this]
theorem neqEn (s s' : ByteArray) (t t' u u' : Int) (w : World) : (binOp .neq 36 (.agg [.string s, .int .u64 t, .int .u64 u].toArray) (.agg [.string s', .int .u64 t', .int .u64 u'].toArray)).run Try.prog w = .ok (.bool (!decide (s = s' ∧ t = t' ∧ u = u'))) w := by
  rw [run_neq_struct, eqEn]; rfl
theorem eqlEn (s s' : ByteArray) (t t' u u' : Int) (w : World) : (binOp .eql 36 (.agg [.string s, .int .u64 t, .int .u64 u].toArray) (.agg [.string s', .int .u64 t', .int .u64 u'].toArray)).run Try.prog w = .ok (.bool (decide (s = s' ∧ t = t' ∧ u = u'))) w := by
  rw [run_eql_struct, eqEn]; rfl
theorem encs_len (l : List En) : (encs l).length = l.length * 3 := by rw [encs, ecells_len, List.length_map]
theorem encs_get {l : List En} {i : Nat} {x : En} (h : l[i]? = some x) : ((encs l).drop (0 + i * 3)).take 3 = ecell (some x) := ecells_get (by rw [List.getElem?_map, h]; rfl)
/-- The cells of an entry that a reader sees. -/
theorem encs_at {w : World} {b off : Nat} {l : List En} {i : Nat} {x : En} (d : ∀ j u, (encs l)[j]? = some u → w.cell? ⟨b, off + j, .none⟩ = some u) (h : l[i]? = some x) :
    ∀ j u, (ecell (some x))[j]? = some u → w.cell? ⟨b, off + i * 3 + j, .none⟩ = some u := by
  intro j u hu
  have h' := encs_get h
  rw [← h', List.getElem?_take] at hu
  split at hu
  · rw [List.getElem?_drop, Nat.zero_add] at hu
    have := d (i * 3 + j) u hu
    rwa [← Nat.add_assoc] at this
  · cases hu
theorem sameEntries_spec (v1 v2 : Value) (xs ys : List En) (w : World) (h1 : Rd w Nil 3 v1 xs.length (encs xs)) (h2 : Rd w Nil 3 v2 ys.length (encs ys)) (hx : xs.length ≤ 140737488355328) (hy : ys.length ≤ 140737488355328) :
    Spec Try.prog 27 [v1, v2] w Nil fun r H => r = .bool (decide (xs = ys)) ∧ H = [] := by
  obtain ⟨A1, c1, rfl, -, hc1', g1⟩ := h1
  obtain ⟨A2, c2, rfl, -, hc2', g2⟩ := h2
  refine enter (n := 26) Try.func27 rfl rfl [(0, _), (1, _)] rfl ⟨rfl, rfl, trivial⟩ (Holds.start _ _) ?_
  refine w_seq ?_
  refine w_reg ?_
  refine wl_f (f_assign rfl) ?_
  refine wl_end [(0, _), (1, _)] ⟨rfl, rfl, trivial⟩ ?_
  refine w_seq ?_
  refine w_seq ?_
  refine w_reg ?_
  refine wl_f (f_move rfl) ?_
  refine wl_f (f_len rfl Try.underlying40) ?_
  refine wl_f (f_move rfl) ?_
  refine wl_f (f_len rfl Try.underlying40) ?_
  refine wl_f (f_neq rfl rfl) ?_
  refine wl_end [(0, _), (1, _), (10, _)] ⟨rfl, rfl, rfl, trivial⟩ ?_
  refine w_ifd rfl (fun hc1 => ?_) (fun hc1 => ?_)
  · skip
    refine w_seq ?_
    refine w_reg ?_
    refine wl_f (f_assign rfl) ?_
    refine wl_end [(4, _)] ⟨rfl, trivial⟩ ?_
    refine w_ret ?_
    refine ⟨_, _, fun a ha hh => results_tmps Try.results27 rfl a ha _, List.Sublist.refl _, ?_⟩
    exact ⟨by rw [decide_eq_false (fun e => hc1 (by rw [e]))]; rfl, rfl⟩
  · skip
    refine w_skip ?_
    refine w_seq ?_
    refine w_seq ?_
    refine w_reg ?_
    refine wl_f (f_move rfl) ?_
    refine wl_f (f_len rfl Try.underlying40) ?_
    refine wl_f (f_move rfl) ?_
    refine wl_end [(0, _), (1, _), (12, _), (13, _)] ⟨rfl, rfl, rfl, rfl, trivial⟩ ?_
    refine w_block ?_
    refine w_loop (fun k m H w => ∃ i : Nat, m = [(0, .slice A1 xs.length c1), (1, .slice A2 ys.length c2), (12, .int .i64 xs.length), (13, .int .i64 i)] ∧ H = [] ∧ k + i = xs.length ∧ xs.take i = ys.take i) xs.length ⟨0, rfl, rfl, rfl, rfl⟩ ?_
    rintro k _ _ w' ⟨i, rfl, rfl, hk, ht⟩
    refine w_seq ?_
    refine w_reg ?_
    refine wl_f (f_lss rfl rfl) ?_
    refine wl_end [(0, _), (1, _), (12, _), (13, _), (14, _)] ⟨rfl, rfl, rfl, rfl, rfl, trivial⟩ ?_
    refine w_seq ?_
    refine w_ifd rfl (fun hc2 => ?_) (fun hc2 => ?_)
    · skip
      have hlen : xs.length = ys.length := by omega
      have hi1 : i < xs.length := by omega
      have hi2 : i < ys.length := by omega
      obtain ⟨b1, o1, rfl, -, -, d1⟩ := g1.resolve_left (by omega)
      obtain ⟨b2, o2, rfl, -, -, d2⟩ := g2.resolve_left (by omega)
      have e1 : xs[i]? = some xs[i] := List.getElem?_eq_getElem hi1
      have e2 : ys[i]? = some ys[i] := List.getElem?_eq_getElem hi2
      refine w_skip ?_
      refine w_seq ?_
      refine w_block ?_
      refine w_seq ?_
      refine w_reg ?_
      refine wl_f (f_move rfl) ?_
      refine wl_f (f_assign rfl) ?_
      refine wl_end [(0, _), (1, _), (5, _), (12, _), (13, _)] ⟨rfl, rfl, rfl, rfl, rfl, trivial⟩ ?_
      refine w_seq ?_
      refine w_draw [(0, true), (1, true), (2, true), (3, true), (4, true), (5, true), (6, true), (7, true), (8, true)] (_) ([]) mixed (by kernel_rfl) (by kernel_rfl) rfl (perm_all _) (fun w6_ => ?_)
      refine wd_f rfl (f_move rfl) ?_
      refine wd_f rfl (f_move rfl) ?_
      refine wd_f rfl (f_indexAddr 3 (i := i) rfl rfl Try.underlying40 (by kernel_rfl) rfl hi1) ?_
      refine wd_f rfl (f_loadso (cs := ecell (some xs[i])) rfl Try.underlying36 rfl (by kernel_rfl) (encs_at d1 e1) id) ?_
      refine wd_f rfl (f_move rfl) ?_
      refine wd_f rfl (f_move rfl) ?_
      refine wd_f rfl (f_indexAddr 3 (i := i) rfl rfl Try.underlying40 (by kernel_rfl) rfl hi2) ?_
      refine wd_f rfl (f_loadso (cs := ecell (some ys[i])) rfl Try.underlying36 rfl (by kernel_rfl) (encs_at d2 e2) id) ?_
      refine wd_f rfl (f_bin rfl rfl (fun w => run_eqGuard_agg w _ _ _ _ _ _ (by kernel_rfl)) (fun w => neqEn _ _ _ _ _ _ w)) ?_
      refine wd_end [(0, _), (1, _), (12, _), (13, _), (24, _)] ⟨rfl, rfl, rfl, rfl, rfl, trivial⟩ ?_
      refine w_ifb rfl (fun hc3 => ?_) (fun hc3 => ?_)
      · skip
        refine w_seq ?_
        refine w_reg ?_
        refine wl_f (f_assign rfl) ?_
        refine wl_end [(4, _)] ⟨rfl, trivial⟩ ?_
        refine w_ret ?_
        refine ⟨_, _, fun a ha hh => results_tmps Try.results27 rfl a ha _, List.Sublist.refl _, ?_⟩
        exact ⟨by rw [decide_eq_false (fun e => by subst e; simp at hc3)]; rfl, rfl⟩
      · skip
        refine w_skip ?_
        refine w_reg ?_
        refine wl_f (f_add rfl rfl (by omega)) ?_
        refine wl_f (f_move rfl) ?_
        refine wl_end [(0, _), (1, _), (12, _), (13, _)] ⟨rfl, rfl, rfl, rfl, trivial⟩ ?_
        refine ⟨k - 1, by omega, i + 1, rfl, rfl, by omega, ?_⟩
        have h3 : xs[i].1 = ys[i].1 ∧ (xs[i].2.1 : Int) = (ys[i].2.1 : Int) ∧ (xs[i].2.2 : Int) = (ys[i].2.2 : Int) := by simpa using hc3
        have : xs[i] = ys[i] := Prod.ext h3.1 (Prod.ext (by have := h3.2.1; omega) (by have := h3.2.2; omega))
        rw [List.take_succ_eq_append_getElem hi1, List.take_succ_eq_append_getElem hi2, ht, this]
    · skip
      refine w_exit0 ?_
      refine w_seq ?_
      refine w_reg ?_
      refine wl_f (f_assign rfl) ?_
      refine wl_end [(4, _)] ⟨rfl, trivial⟩ ?_
      refine w_ret ?_
      refine ⟨_, _, fun a ha hh => results_tmps Try.results27 rfl a ha _, List.Sublist.refl _, ?_⟩
      exact ⟨by rw [decide_eq_true (by rw [List.take_of_length_le (by omega), List.take_of_length_le (by omega)] at ht; exact ht)]; rfl, rfl⟩
end Go.Proofs.Ytkoklfagmbaapaa
