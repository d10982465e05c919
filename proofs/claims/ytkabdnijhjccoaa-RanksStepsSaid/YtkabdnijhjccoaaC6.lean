/- Linked lists: first, last, number, neighbours, values. -/
import Derived.Test.YtkabdnijhjccoaaC5
namespace Go.Proofs.Ytkabdnijhjccoaa
open Go.RowKit

theorem not_isAt {node : Int} {N : List Nat} (h : (!isAt node N) = true) : isAt node N = false := by simpa using h
theorem is_isAt {node : Int} {N : List Nat} (h : ¬ (!isAt node N) = true) : isAt node N = true := by simpa using h
theorem nodes_split {α : Type} (A B : List (Nat × α)) (x : Nat) (v : α) : nodes (A ++ (x, v) :: B) = nodes A ++ x :: nodes B := by simp [nodes]
theorem CInv.next {α : Type} {n : Nat} {A B : List (Nat × α)} {x : Nat} {v : α} {used : List Bool} {nx pv : List Int} {vs : List α} (h : CInv n (A ++ (x, v) :: B) used nx pv vs) : nx[x]? = some (hdE (-1) (nodes B)) := by
  have := h.nxt
  rw [nodes_split] at this
  exact Lk_get this
theorem CInv.prev {α : Type} {n : Nat} {A B : List (Nat × α)} {x : Nat} {v : α} {used : List Bool} {nx pv : List Int} {vs : List α} (h : CInv n (A ++ (x, v) :: B) used nx pv vs) : pv[x]? = some (hdE (-1) (nodes A).reverse) := by
  have := h.prv
  rw [nodes_split, List.reverse_append, List.reverse_cons, List.append_assoc, List.singleton_append] at this
  exact Lk_get this
theorem CInv.at {α : Type} {n : Nat} {A B : List (Nat × α)} {x : Nat} {v : α} {used : List Bool} {nx pv : List Int} {vs : List α} (h : CInv n (A ++ (x, v) :: B) used nx pv vs) : vs[x]? = some v := h.val (x, v) (by simp)
theorem CInv.atlt {α : Type} {n : Nat} {A B : List (Nat × α)} {x : Nat} {v : α} {used : List Bool} {nx pv : List Int} {vs : List α} (h : CInv n (A ++ (x, v) :: B) used nx pv vs) : x < used.length := h.lt x (by simp [nodes])

theorem ifirst_spec (b n : Nat) (l : List (Nat × _)) (r : Res) (w : World) (hr : ChR kInt b n l r) (hs : Holds w r.foot [r] w) :
    Spec Try.prog 43 [.pointer (some ⟨b, 0, .none⟩)] w r.foot fun v H => v = .int .i64 (hdE (-1) (nodes l)) ∧ H = [r] := by
  obtain ⟨uV, nV, pV, vV, used, nx, pv, vs, rfl, hc⟩ := hr
  refine enter (n := 9) Try.func43 rfl rfl [(0, _)] rfl ⟨rfl, trivial⟩ hs ?_
  refine w_unb (chs kInt b n l uV nV pV vV used nx pv vs) ?_
  refine w_seq ?_
  refine w_reg ?_
  refine wl_f (f_assign rfl) ?_
  refine wl_end [(0, _)] ⟨rfl, trivial⟩ ?_
  refine w_seq ?_
  refine w_seq ?_
  refine w_reg ?_
  refine wl_f (f_move rfl) ?_
  refine wl_f (f_eqlnil rfl rfl Try.underlying34) ?_
  refine wl_end [(0, _), (4, _)] ⟨rfl, rfl, trivial⟩ ?_
  refine w_iff rfl ?_
  refine w_skip ?_
  refine w_seq ?_
  refine w_reg ?_
  refine wl_f (f_move rfl) ?_
  refine wl_f (f_nilCheck rfl) ?_
  refine wl_f (f_fieldAddr 2 rfl Try.underlying86 rfl rfl (by kernel_rfl)) ?_
  (first | refine wl_f (f_loadb 0 rfl Try.underlying3 rfl rfl rfl) ?_ | refine wl_f (f_loadb 1 rfl Try.underlying3 rfl rfl rfl) ?_ | refine wl_f (f_loadb 2 rfl Try.underlying3 rfl rfl rfl) ?_ | refine wl_f (f_loadb 3 rfl Try.underlying3 rfl rfl rfl) ?_ | refine wl_f (f_loadb 4 rfl Try.underlying3 rfl rfl rfl) ?_ | refine wl_f (f_loadb 5 rfl Try.underlying3 rfl rfl rfl) ?_ | refine wl_f (f_loadb 6 rfl Try.underlying3 rfl rfl rfl) ?_)
  refine wl_f (f_assign rfl) ?_
  refine wl_end [(2, _)] ⟨rfl, trivial⟩ ?_
  refine w_bun (H := []) (chs kInt b n l uV nV pV vV used nx pv vs) ?_
  refine w_ret ?_
  refine ⟨_, _, fun a ha hh => results_tmps Try.results43 rfl a ha _, List.Sublist.refl _, ?_⟩
  exact ⟨rfl, rfl⟩
theorem bfirst_spec (b n : Nat) (l : List (Nat × _)) (r : Res) (w : World) (hr : ChR kBuc b n l r) (hs : Holds w r.foot [r] w) :
    Spec Try.prog 73 [.pointer (some ⟨b, 0, .none⟩)] w r.foot fun v H => v = .int .i64 (hdE (-1) (nodes l)) ∧ H = [r] := by
  obtain ⟨uV, nV, pV, vV, used, nx, pv, vs, rfl, hc⟩ := hr
  refine enter (n := 9) Try.func73 rfl rfl [(0, _)] rfl ⟨rfl, trivial⟩ hs ?_
  refine w_unb (chs kBuc b n l uV nV pV vV used nx pv vs) ?_
  refine w_seq ?_
  refine w_reg ?_
  refine wl_f (f_assign rfl) ?_
  refine wl_end [(0, _)] ⟨rfl, trivial⟩ ?_
  refine w_seq ?_
  refine w_seq ?_
  refine w_reg ?_
  refine wl_f (f_move rfl) ?_
  refine wl_f (f_eqlnil rfl rfl Try.underlying88) ?_
  refine wl_end [(0, _), (4, _)] ⟨rfl, rfl, trivial⟩ ?_
  refine w_iff rfl ?_
  refine w_skip ?_
  refine w_seq ?_
  refine w_reg ?_
  refine wl_f (f_move rfl) ?_
  refine wl_f (f_nilCheck rfl) ?_
  refine wl_f (f_fieldAddr 2 rfl Try.underlying107 rfl rfl (by kernel_rfl)) ?_
  (first | refine wl_f (f_loadb 0 rfl Try.underlying3 rfl rfl rfl) ?_ | refine wl_f (f_loadb 1 rfl Try.underlying3 rfl rfl rfl) ?_ | refine wl_f (f_loadb 2 rfl Try.underlying3 rfl rfl rfl) ?_ | refine wl_f (f_loadb 3 rfl Try.underlying3 rfl rfl rfl) ?_ | refine wl_f (f_loadb 4 rfl Try.underlying3 rfl rfl rfl) ?_ | refine wl_f (f_loadb 5 rfl Try.underlying3 rfl rfl rfl) ?_ | refine wl_f (f_loadb 6 rfl Try.underlying3 rfl rfl rfl) ?_)
  refine wl_f (f_assign rfl) ?_
  refine wl_end [(2, _)] ⟨rfl, trivial⟩ ?_
  refine w_bun (H := []) (chs kBuc b n l uV nV pV vV used nx pv vs) ?_
  refine w_ret ?_
  refine ⟨_, _, fun a ha hh => results_tmps Try.results73 rfl a ha _, List.Sublist.refl _, ?_⟩
  exact ⟨rfl, rfl⟩
theorem ilast_spec (b n : Nat) (l : List (Nat × _)) (r : Res) (w : World) (hr : ChR kInt b n l r) (hs : Holds w r.foot [r] w) :
    Spec Try.prog 44 [.pointer (some ⟨b, 0, .none⟩)] w r.foot fun v H => v = .int .i64 (hdE (-1) (nodes l).reverse) ∧ H = [r] := by
  obtain ⟨uV, nV, pV, vV, used, nx, pv, vs, rfl, hc⟩ := hr
  refine enter (n := 9) Try.func44 rfl rfl [(0, _)] rfl ⟨rfl, trivial⟩ hs ?_
  refine w_unb (chs kInt b n l uV nV pV vV used nx pv vs) ?_
  refine w_seq ?_
  refine w_reg ?_
  refine wl_f (f_assign rfl) ?_
  refine wl_end [(0, _)] ⟨rfl, trivial⟩ ?_
  refine w_seq ?_
  refine w_seq ?_
  refine w_reg ?_
  refine wl_f (f_move rfl) ?_
  refine wl_f (f_eqlnil rfl rfl Try.underlying34) ?_
  refine wl_end [(0, _), (4, _)] ⟨rfl, rfl, trivial⟩ ?_
  refine w_iff rfl ?_
  refine w_skip ?_
  refine w_seq ?_
  refine w_reg ?_
  refine wl_f (f_move rfl) ?_
  refine wl_f (f_nilCheck rfl) ?_
  refine wl_f (f_fieldAddr 3 rfl Try.underlying86 rfl rfl (by kernel_rfl)) ?_
  (first | refine wl_f (f_loadb 0 rfl Try.underlying3 rfl rfl rfl) ?_ | refine wl_f (f_loadb 1 rfl Try.underlying3 rfl rfl rfl) ?_ | refine wl_f (f_loadb 2 rfl Try.underlying3 rfl rfl rfl) ?_ | refine wl_f (f_loadb 3 rfl Try.underlying3 rfl rfl rfl) ?_ | refine wl_f (f_loadb 4 rfl Try.underlying3 rfl rfl rfl) ?_ | refine wl_f (f_loadb 5 rfl Try.underlying3 rfl rfl rfl) ?_ | refine wl_f (f_loadb 6 rfl Try.underlying3 rfl rfl rfl) ?_)
  refine wl_f (f_assign rfl) ?_
  refine wl_end [(2, _)] ⟨rfl, trivial⟩ ?_
  refine w_bun (H := []) (chs kInt b n l uV nV pV vV used nx pv vs) ?_
  refine w_ret ?_
  refine ⟨_, _, fun a ha hh => results_tmps Try.results44 rfl a ha _, List.Sublist.refl _, ?_⟩
  exact ⟨rfl, rfl⟩
theorem ilen_spec (b n : Nat) (l : List (Nat × _)) (r : Res) (w : World) (hr : ChR kInt b n l r) (hs : Holds w r.foot [r] w) :
    Spec Try.prog 39 [.pointer (some ⟨b, 0, .none⟩)] w r.foot fun v H => v = .int .i64 ((l.length : Int)) ∧ H = [r] := by
  obtain ⟨uV, nV, pV, vV, used, nx, pv, vs, rfl, hc⟩ := hr
  refine enter (n := 9) Try.func39 rfl rfl [(0, _)] rfl ⟨rfl, trivial⟩ hs ?_
  refine w_unb (chs kInt b n l uV nV pV vV used nx pv vs) ?_
  refine w_seq ?_
  refine w_reg ?_
  refine wl_f (f_assign rfl) ?_
  refine wl_end [(0, _)] ⟨rfl, trivial⟩ ?_
  refine w_seq ?_
  refine w_seq ?_
  refine w_reg ?_
  refine wl_f (f_move rfl) ?_
  refine wl_f (f_eqlnil rfl rfl Try.underlying34) ?_
  refine wl_end [(0, _), (4, _)] ⟨rfl, rfl, trivial⟩ ?_
  refine w_iff rfl ?_
  refine w_skip ?_
  refine w_seq ?_
  refine w_reg ?_
  refine wl_f (f_move rfl) ?_
  refine wl_f (f_nilCheck rfl) ?_
  refine wl_f (f_fieldAddr 1 rfl Try.underlying86 rfl rfl (by kernel_rfl)) ?_
  (first | refine wl_f (f_loadb 0 rfl Try.underlying3 rfl rfl rfl) ?_ | refine wl_f (f_loadb 1 rfl Try.underlying3 rfl rfl rfl) ?_ | refine wl_f (f_loadb 2 rfl Try.underlying3 rfl rfl rfl) ?_ | refine wl_f (f_loadb 3 rfl Try.underlying3 rfl rfl rfl) ?_ | refine wl_f (f_loadb 4 rfl Try.underlying3 rfl rfl rfl) ?_ | refine wl_f (f_loadb 5 rfl Try.underlying3 rfl rfl rfl) ?_ | refine wl_f (f_loadb 6 rfl Try.underlying3 rfl rfl rfl) ?_)
  refine wl_f (f_assign rfl) ?_
  refine wl_end [(2, _)] ⟨rfl, trivial⟩ ?_
  refine w_bun (H := []) (chs kInt b n l uV nV pV vV used nx pv vs) ?_
  refine w_ret ?_
  refine ⟨_, _, fun a ha hh => results_tmps Try.results39 rfl a ha _, List.Sublist.refl _, ?_⟩
  exact ⟨rfl, rfl⟩
theorem sfirst_nil (w : World) : Spec Try.prog 25 [.pointer .none] w Nil fun v H => v = .int .i64 (-1) ∧ H = [] := by
  refine enter (n := 9) Try.func25 rfl rfl [(0, _)] rfl ⟨rfl, trivial⟩ (Holds.start _ _) ?_
  refine w_seq ?_
  refine w_reg ?_
  refine wl_f (f_assign rfl) ?_
  refine wl_end [(0, _)] ⟨rfl, trivial⟩ ?_
  refine w_seq ?_
  refine w_seq ?_
  refine w_reg ?_
  refine wl_f (f_move rfl) ?_
  refine wl_f (f_eqlnil rfl rfl Try.underlying23) ?_
  refine wl_end [(0, _), (4, _)] ⟨rfl, rfl, trivial⟩ ?_
  refine w_ift rfl ?_
  refine w_seq ?_
  refine w_reg ?_
  refine wl_f (f_assign rfl) ?_
  refine wl_end [(2, _)] ⟨rfl, trivial⟩ ?_
  refine w_ret ?_
  refine ⟨_, _, fun a ha hh => results_tmps Try.results25 rfl a ha _, List.Sublist.refl _, ?_⟩
  exact ⟨rfl, rfl⟩
theorem slast_nil (w : World) : Spec Try.prog 26 [.pointer .none] w Nil fun v H => v = .int .i64 (-1) ∧ H = [] := by
  refine enter (n := 9) Try.func26 rfl rfl [(0, _)] rfl ⟨rfl, trivial⟩ (Holds.start _ _) ?_
  refine w_seq ?_
  refine w_reg ?_
  refine wl_f (f_assign rfl) ?_
  refine wl_end [(0, _)] ⟨rfl, trivial⟩ ?_
  refine w_seq ?_
  refine w_seq ?_
  refine w_reg ?_
  refine wl_f (f_move rfl) ?_
  refine wl_f (f_eqlnil rfl rfl Try.underlying23) ?_
  refine wl_end [(0, _), (4, _)] ⟨rfl, rfl, trivial⟩ ?_
  refine w_ift rfl ?_
  refine w_seq ?_
  refine w_reg ?_
  refine wl_f (f_assign rfl) ?_
  refine wl_end [(2, _)] ⟨rfl, trivial⟩ ?_
  refine w_ret ?_
  refine ⟨_, _, fun a ha hh => results_tmps Try.results26 rfl a ha _, List.Sublist.refl _, ?_⟩
  exact ⟨rfl, rfl⟩
theorem slen_nil (w : World) : Spec Try.prog 27 [.pointer .none] w Nil fun v H => v = .int .i64 (0) ∧ H = [] := by
  refine enter (n := 9) Try.func27 rfl rfl [(0, _)] rfl ⟨rfl, trivial⟩ (Holds.start _ _) ?_
  refine w_seq ?_
  refine w_reg ?_
  refine wl_f (f_assign rfl) ?_
  refine wl_end [(0, _)] ⟨rfl, trivial⟩ ?_
  refine w_seq ?_
  refine w_seq ?_
  refine w_reg ?_
  refine wl_f (f_move rfl) ?_
  refine wl_f (f_eqlnil rfl rfl Try.underlying23) ?_
  refine wl_end [(0, _), (4, _)] ⟨rfl, rfl, trivial⟩ ?_
  refine w_ift rfl ?_
  refine w_seq ?_
  refine w_reg ?_
  refine wl_f (f_assign rfl) ?_
  refine wl_end [(2, _)] ⟨rfl, trivial⟩ ?_
  refine w_ret ?_
  refine ⟨_, _, fun a ha hh => results_tmps Try.results27 rfl a ha _, List.Sublist.refl _, ?_⟩
  exact ⟨rfl, rfl⟩
theorem inext_spec (b n : Nat) (l : List (Nat × _)) (r : Res) (node : Int) (w : World) (hr : ChR kInt b n l r) (hs : Holds w r.foot [r] w) :
    Spec Try.prog 40 [.pointer (some ⟨b, 0, .none⟩), .int .i64 node] w r.foot fun v H => H = [r] ∧ ∃ y : Int, v = .int .i64 y ∧ (isAt node (nodes l) = false → y = -1) ∧ ∀ A x v B, l = A ++ (x, v) :: B → node = (x : Nat) → y = hdE (-1) (nodes B) := by
  refine enter (n := 16) Try.func40 rfl rfl [(0, _), (1, _)] rfl ⟨rfl, rfl, trivial⟩ hs ?_
  refine w_seq ?_
  refine w_reg ?_
  refine wl_f (f_assign rfl) ?_
  refine wl_end [(0, _), (1, _)] ⟨rfl, rfl, trivial⟩ ?_
  refine w_seq ?_
  refine w_seq ?_
  refine w_reg ?_
  refine wl_f (f_move rfl) ?_
  refine wl_f (f_move rfl) ?_
  refine wl_e (e_call1 r [] rfl Try.func65 (by kernel_rfl) (List.Perm.refl _) (fun w hh hs => ihas_spec b n l r node w hr hs)) ?_
  rintro _ _ w1 ⟨_, rfl, rfl, rfl⟩
  refine wl_f (f_not rfl rfl) ?_
  refine wl_end [(0, _), (1, _), (8, _)] ⟨rfl, rfl, rfl, trivial⟩ ?_
  refine w_ifb rfl (fun hc1 => ?_) (fun hc1 => ?_)
  · skip
    refine w_seq ?_
    refine w_reg ?_
    refine wl_f (f_assign rfl) ?_
    refine wl_end [(4, _)] ⟨rfl, trivial⟩ ?_
    refine w_ret ?_
    refine ⟨_, _, fun a ha hh => results_tmps Try.results40 rfl a ha _, List.Sublist.refl _, ?_⟩
    refine ⟨rfl, -1, rfl, fun _ => rfl, fun A x v B e e2 => ?_⟩
    have := not_isAt hc1
    rw [e2, e, isAt_nat, nodes_split] at this
    simp at this
  · skip
    obtain ⟨x, rfl, hx⟩ := isAt_some (is_isAt hc1)
    obtain ⟨A, v, B, rfl⟩ := split_node hx
    obtain ⟨uV, nV, pV, vV, used, nx, pv, vs, rfl, hc⟩ := hr
    have hlt := hc.atlt
    have hnd := hc.nd
    refine w_unb (chs kInt b n _ uV nV pV vV used nx pv vs) ?_
    refine w_with fun hh => ?_
    obtain ⟨g, cap, e⟩ := row_form hh (i := 2) rfl (by omega)
    subst e
    clear hh
    refine w_skip ?_
    refine w_seq ?_
    refine w_reg ?_
    refine wl_f (f_move rfl) ?_
    refine wl_f (f_nilCheck rfl) ?_
    refine wl_f (f_fieldAddr 5 rfl Try.underlying86 rfl rfl (by kernel_rfl)) ?_
    (first | refine wl_f (f_loadb 0 rfl Try.underlying33 rfl rfl rfl) ?_ | refine wl_f (f_loadb 1 rfl Try.underlying33 rfl rfl rfl) ?_ | refine wl_f (f_loadb 2 rfl Try.underlying33 rfl rfl rfl) ?_ | refine wl_f (f_loadb 3 rfl Try.underlying33 rfl rfl rfl) ?_ | refine wl_f (f_loadb 4 rfl Try.underlying33 rfl rfl rfl) ?_ | refine wl_f (f_loadb 5 rfl Try.underlying33 rfl rfl rfl) ?_ | refine wl_f (f_loadb 6 rfl Try.underlying33 rfl rfl rfl) ?_)
    refine wl_f (f_move rfl) ?_
    refine wl_f (f_indexAddr 1 (i := x) rfl rfl Try.underlying33 (by kernel_rfl) rfl hlt) ?_
    refine wl_f (f_loadr (v := .int .i64 (hdE (-1) (nodes B))) 2 rfl Try.underlying3 rfl rfl (map_get (Value.int .i64) hc.next)) ?_
    refine wl_f (f_assign rfl) ?_
    refine wl_end [(4, _)] ⟨rfl, trivial⟩ ?_
    refine w_bun (H := []) [_, _, _, _, _] ?_
    refine w_ret ?_
    refine ⟨_, _, fun a ha hh => results_tmps Try.results40 rfl a ha _, List.Sublist.refl _, ?_⟩
    refine ⟨rfl, _, rfl, fun h => ?_, fun A' x' v' B' e e2 => ?_⟩
    · rw [isAt_nat, nodes_split] at h
      simp at h
    · obtain rfl : x' = x := by omega
      obtain ⟨rfl, _, rfl⟩ := node_uniq hnd e
      rfl
theorem bnext_spec (b n : Nat) (l : List (Nat × _)) (r : Res) (node : Int) (w : World) (hr : ChR kBuc b n l r) (hs : Holds w r.foot [r] w) :
    Spec Try.prog 79 [.pointer (some ⟨b, 0, .none⟩), .int .i64 node] w r.foot fun v H => H = [r] ∧ ∃ y : Int, v = .int .i64 y ∧ (isAt node (nodes l) = false → y = -1) ∧ ∀ A x v B, l = A ++ (x, v) :: B → node = (x : Nat) → y = hdE (-1) (nodes B) := by
  refine enter (n := 16) Try.func79 rfl rfl [(0, _), (1, _)] rfl ⟨rfl, rfl, trivial⟩ hs ?_
  refine w_seq ?_
  refine w_reg ?_
  refine wl_f (f_assign rfl) ?_
  refine wl_end [(0, _), (1, _)] ⟨rfl, rfl, trivial⟩ ?_
  refine w_seq ?_
  refine w_seq ?_
  refine w_reg ?_
  refine wl_f (f_move rfl) ?_
  refine wl_f (f_move rfl) ?_
  refine wl_e (e_call1 r [] rfl Try.func86 (by kernel_rfl) (List.Perm.refl _) (fun w hh hs => bhas_spec b n l r node w hr hs)) ?_
  rintro _ _ w1 ⟨_, rfl, rfl, rfl⟩
  refine wl_f (f_not rfl rfl) ?_
  refine wl_end [(0, _), (1, _), (8, _)] ⟨rfl, rfl, rfl, trivial⟩ ?_
  refine w_ifb rfl (fun hc1 => ?_) (fun hc1 => ?_)
  · skip
    refine w_seq ?_
    refine w_reg ?_
    refine wl_f (f_assign rfl) ?_
    refine wl_end [(4, _)] ⟨rfl, trivial⟩ ?_
    refine w_ret ?_
    refine ⟨_, _, fun a ha hh => results_tmps Try.results79 rfl a ha _, List.Sublist.refl _, ?_⟩
    refine ⟨rfl, -1, rfl, fun _ => rfl, fun A x v B e e2 => ?_⟩
    have := not_isAt hc1
    rw [e2, e, isAt_nat, nodes_split] at this
    simp at this
  · skip
    obtain ⟨x, rfl, hx⟩ := isAt_some (is_isAt hc1)
    obtain ⟨A, v, B, rfl⟩ := split_node hx
    obtain ⟨uV, nV, pV, vV, used, nx, pv, vs, rfl, hc⟩ := hr
    have hlt := hc.atlt
    have hnd := hc.nd
    refine w_unb (chs kBuc b n _ uV nV pV vV used nx pv vs) ?_
    refine w_with fun hh => ?_
    obtain ⟨g, cap, e⟩ := row_form hh (i := 2) rfl (by omega)
    subst e
    clear hh
    refine w_skip ?_
    refine w_seq ?_
    refine w_reg ?_
    refine wl_f (f_move rfl) ?_
    refine wl_f (f_nilCheck rfl) ?_
    refine wl_f (f_fieldAddr 5 rfl Try.underlying107 rfl rfl (by kernel_rfl)) ?_
    (first | refine wl_f (f_loadb 0 rfl Try.underlying33 rfl rfl rfl) ?_ | refine wl_f (f_loadb 1 rfl Try.underlying33 rfl rfl rfl) ?_ | refine wl_f (f_loadb 2 rfl Try.underlying33 rfl rfl rfl) ?_ | refine wl_f (f_loadb 3 rfl Try.underlying33 rfl rfl rfl) ?_ | refine wl_f (f_loadb 4 rfl Try.underlying33 rfl rfl rfl) ?_ | refine wl_f (f_loadb 5 rfl Try.underlying33 rfl rfl rfl) ?_ | refine wl_f (f_loadb 6 rfl Try.underlying33 rfl rfl rfl) ?_)
    refine wl_f (f_move rfl) ?_
    refine wl_f (f_indexAddr 1 (i := x) rfl rfl Try.underlying33 (by kernel_rfl) rfl hlt) ?_
    refine wl_f (f_loadr (v := .int .i64 (hdE (-1) (nodes B))) 2 rfl Try.underlying3 rfl rfl (map_get (Value.int .i64) hc.next)) ?_
    refine wl_f (f_assign rfl) ?_
    refine wl_end [(4, _)] ⟨rfl, trivial⟩ ?_
    refine w_bun (H := []) [_, _, _, _, _] ?_
    refine w_ret ?_
    refine ⟨_, _, fun a ha hh => results_tmps Try.results79 rfl a ha _, List.Sublist.refl _, ?_⟩
    refine ⟨rfl, _, rfl, fun h => ?_, fun A' x' v' B' e e2 => ?_⟩
    · rw [isAt_nat, nodes_split] at h
      simp at h
    · obtain rfl : x' = x := by omega
      obtain ⟨rfl, _, rfl⟩ := node_uniq hnd e
      rfl
theorem iprev_spec (b n : Nat) (l : List (Nat × _)) (r : Res) (node : Int) (w : World) (hr : ChR kInt b n l r) (hs : Holds w r.foot [r] w) :
    Spec Try.prog 42 [.pointer (some ⟨b, 0, .none⟩), .int .i64 node] w r.foot fun v H => H = [r] ∧ ∃ y : Int, v = .int .i64 y ∧ (isAt node (nodes l) = false → y = -1) ∧ ∀ A x v B, l = A ++ (x, v) :: B → node = (x : Nat) → y = hdE (-1) (nodes A).reverse := by
  refine enter (n := 16) Try.func42 rfl rfl [(0, _), (1, _)] rfl ⟨rfl, rfl, trivial⟩ hs ?_
  refine w_seq ?_
  refine w_reg ?_
  refine wl_f (f_assign rfl) ?_
  refine wl_end [(0, _), (1, _)] ⟨rfl, rfl, trivial⟩ ?_
  refine w_seq ?_
  refine w_seq ?_
  refine w_reg ?_
  refine wl_f (f_move rfl) ?_
  refine wl_f (f_move rfl) ?_
  refine wl_e (e_call1 r [] rfl Try.func65 (by kernel_rfl) (List.Perm.refl _) (fun w hh hs => ihas_spec b n l r node w hr hs)) ?_
  rintro _ _ w1 ⟨_, rfl, rfl, rfl⟩
  refine wl_f (f_not rfl rfl) ?_
  refine wl_end [(0, _), (1, _), (8, _)] ⟨rfl, rfl, rfl, trivial⟩ ?_
  refine w_ifb rfl (fun hc1 => ?_) (fun hc1 => ?_)
  · skip
    refine w_seq ?_
    refine w_reg ?_
    refine wl_f (f_assign rfl) ?_
    refine wl_end [(4, _)] ⟨rfl, trivial⟩ ?_
    refine w_ret ?_
    refine ⟨_, _, fun a ha hh => results_tmps Try.results42 rfl a ha _, List.Sublist.refl _, ?_⟩
    refine ⟨rfl, -1, rfl, fun _ => rfl, fun A x v B e e2 => ?_⟩
    have := not_isAt hc1
    rw [e2, e, isAt_nat, nodes_split] at this
    simp at this
  · skip
    obtain ⟨x, rfl, hx⟩ := isAt_some (is_isAt hc1)
    obtain ⟨A, v, B, rfl⟩ := split_node hx
    obtain ⟨uV, nV, pV, vV, used, nx, pv, vs, rfl, hc⟩ := hr
    have hlt := hc.atlt
    have hnd := hc.nd
    refine w_unb (chs kInt b n _ uV nV pV vV used nx pv vs) ?_
    refine w_with fun hh => ?_
    obtain ⟨g, cap, e⟩ := row_form hh (i := 3) rfl (by omega)
    subst e
    clear hh
    refine w_skip ?_
    refine w_seq ?_
    refine w_reg ?_
    refine wl_f (f_move rfl) ?_
    refine wl_f (f_nilCheck rfl) ?_
    refine wl_f (f_fieldAddr 6 rfl Try.underlying86 rfl rfl (by kernel_rfl)) ?_
    (first | refine wl_f (f_loadb 0 rfl Try.underlying33 rfl rfl rfl) ?_ | refine wl_f (f_loadb 1 rfl Try.underlying33 rfl rfl rfl) ?_ | refine wl_f (f_loadb 2 rfl Try.underlying33 rfl rfl rfl) ?_ | refine wl_f (f_loadb 3 rfl Try.underlying33 rfl rfl rfl) ?_ | refine wl_f (f_loadb 4 rfl Try.underlying33 rfl rfl rfl) ?_ | refine wl_f (f_loadb 5 rfl Try.underlying33 rfl rfl rfl) ?_ | refine wl_f (f_loadb 6 rfl Try.underlying33 rfl rfl rfl) ?_)
    refine wl_f (f_move rfl) ?_
    refine wl_f (f_indexAddr 1 (i := x) rfl rfl Try.underlying33 (by kernel_rfl) rfl hlt) ?_
    refine wl_f (f_loadr (v := .int .i64 (hdE (-1) (nodes A).reverse)) 3 rfl Try.underlying3 rfl rfl (map_get (Value.int .i64) hc.prev)) ?_
    refine wl_f (f_assign rfl) ?_
    refine wl_end [(4, _)] ⟨rfl, trivial⟩ ?_
    refine w_bun (H := []) [_, _, _, _, _] ?_
    refine w_ret ?_
    refine ⟨_, _, fun a ha hh => results_tmps Try.results42 rfl a ha _, List.Sublist.refl _, ?_⟩
    refine ⟨rfl, _, rfl, fun h => ?_, fun A' x' v' B' e e2 => ?_⟩
    · rw [isAt_nat, nodes_split] at h
      simp at h
    · obtain rfl : x' = x := by omega
      obtain ⟨rfl, _, rfl⟩ := node_uniq hnd e
      rfl
theorem bprev_spec (b n : Nat) (l : List (Nat × _)) (r : Res) (node : Int) (w : World) (hr : ChR kBuc b n l r) (hs : Holds w r.foot [r] w) :
    Spec Try.prog 84 [.pointer (some ⟨b, 0, .none⟩), .int .i64 node] w r.foot fun v H => H = [r] ∧ ∃ y : Int, v = .int .i64 y ∧ (isAt node (nodes l) = false → y = -1) ∧ ∀ A x v B, l = A ++ (x, v) :: B → node = (x : Nat) → y = hdE (-1) (nodes A).reverse := by
  refine enter (n := 16) Try.func84 rfl rfl [(0, _), (1, _)] rfl ⟨rfl, rfl, trivial⟩ hs ?_
  refine w_seq ?_
  refine w_reg ?_
  refine wl_f (f_assign rfl) ?_
  refine wl_end [(0, _), (1, _)] ⟨rfl, rfl, trivial⟩ ?_
  refine w_seq ?_
  refine w_seq ?_
  refine w_reg ?_
  refine wl_f (f_move rfl) ?_
  refine wl_f (f_move rfl) ?_
  refine wl_e (e_call1 r [] rfl Try.func86 (by kernel_rfl) (List.Perm.refl _) (fun w hh hs => bhas_spec b n l r node w hr hs)) ?_
  rintro _ _ w1 ⟨_, rfl, rfl, rfl⟩
  refine wl_f (f_not rfl rfl) ?_
  refine wl_end [(0, _), (1, _), (8, _)] ⟨rfl, rfl, rfl, trivial⟩ ?_
  refine w_ifb rfl (fun hc1 => ?_) (fun hc1 => ?_)
  · skip
    refine w_seq ?_
    refine w_reg ?_
    refine wl_f (f_assign rfl) ?_
    refine wl_end [(4, _)] ⟨rfl, trivial⟩ ?_
    refine w_ret ?_
    refine ⟨_, _, fun a ha hh => results_tmps Try.results84 rfl a ha _, List.Sublist.refl _, ?_⟩
    refine ⟨rfl, -1, rfl, fun _ => rfl, fun A x v B e e2 => ?_⟩
    have := not_isAt hc1
    rw [e2, e, isAt_nat, nodes_split] at this
    simp at this
  · skip
    obtain ⟨x, rfl, hx⟩ := isAt_some (is_isAt hc1)
    obtain ⟨A, v, B, rfl⟩ := split_node hx
    obtain ⟨uV, nV, pV, vV, used, nx, pv, vs, rfl, hc⟩ := hr
    have hlt := hc.atlt
    have hnd := hc.nd
    refine w_unb (chs kBuc b n _ uV nV pV vV used nx pv vs) ?_
    refine w_with fun hh => ?_
    obtain ⟨g, cap, e⟩ := row_form hh (i := 3) rfl (by omega)
    subst e
    clear hh
    refine w_skip ?_
    refine w_seq ?_
    refine w_reg ?_
    refine wl_f (f_move rfl) ?_
    refine wl_f (f_nilCheck rfl) ?_
    refine wl_f (f_fieldAddr 6 rfl Try.underlying107 rfl rfl (by kernel_rfl)) ?_
    (first | refine wl_f (f_loadb 0 rfl Try.underlying33 rfl rfl rfl) ?_ | refine wl_f (f_loadb 1 rfl Try.underlying33 rfl rfl rfl) ?_ | refine wl_f (f_loadb 2 rfl Try.underlying33 rfl rfl rfl) ?_ | refine wl_f (f_loadb 3 rfl Try.underlying33 rfl rfl rfl) ?_ | refine wl_f (f_loadb 4 rfl Try.underlying33 rfl rfl rfl) ?_ | refine wl_f (f_loadb 5 rfl Try.underlying33 rfl rfl rfl) ?_ | refine wl_f (f_loadb 6 rfl Try.underlying33 rfl rfl rfl) ?_)
    refine wl_f (f_move rfl) ?_
    refine wl_f (f_indexAddr 1 (i := x) rfl rfl Try.underlying33 (by kernel_rfl) rfl hlt) ?_
    refine wl_f (f_loadr (v := .int .i64 (hdE (-1) (nodes A).reverse)) 3 rfl Try.underlying3 rfl rfl (map_get (Value.int .i64) hc.prev)) ?_
    refine wl_f (f_assign rfl) ?_
    refine wl_end [(4, _)] ⟨rfl, trivial⟩ ?_
    refine w_bun (H := []) [_, _, _, _, _] ?_
    refine w_ret ?_
    refine ⟨_, _, fun a ha hh => results_tmps Try.results84 rfl a ha _, List.Sublist.refl _, ?_⟩
    refine ⟨rfl, _, rfl, fun h => ?_, fun A' x' v' B' e e2 => ?_⟩
    · rw [isAt_nat, nodes_split] at h
      simp at h
    · obtain rfl : x' = x := by omega
      obtain ⟨rfl, _, rfl⟩ := node_uniq hnd e
      rfl
end Go.Proofs.Ytkabdnijhjccoaa
