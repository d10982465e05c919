/- Linked lists: first, last, number, neighbours, values. -/
import Derived.Test.YtbcfdgnpdaaleaaC5
namespace Go.Proofs.Ytbcfdgnpdaaleaa
open Go.RowKit

theorem not_isAt {node : Int} {N : List Nat} (h : (!isAt node N) = true) : isAt node N = false := by simpa using h
theorem is_isAt {node : Int} {N : List Nat} (h : ¬ (!isAt node N) = true) : isAt node N = true := by simpa using h
theorem nodes_split {α : Type} (A B : List (Nat × α)) (x : Nat) (v : α) : nodes (A ++ (x, v) :: B) = nodes A ++ x :: nodes B := by simp [nodes]
theorem CInv.next {α : Type} {n : Nat} {A B : List (Nat × α)} {x : Nat} {v : α} {used : List Bool} {nx pv : List Int} {vs : List α} (h : CInv n (A ++ (x, v) :: B) used nx pv vs) : nx[x]? = some (hdE (-1) (nodes B)) := by
  have := h.nxt
  rw [nodes_split] at this
  exact Lk_get this
theorem CInv.prev {α : Type} {n : Nat} {A B : List (Nat × α)} {x : Nat} {v : α} {used : List Bool} {nx pv : List Int} {vs : List α} (h : CInv n (A ++ (x, v) :: B) used nx pv vs) : pv[x]? = some (hdE (-1) (nodes A).reverse) := by
  have := h.prv
  rw [nodes_split, List.reverse_append, List.reverse_cons, List.append_assoc, List.singleton_append] at this
  exact Lk_get this
theorem CInv.at {α : Type} {n : Nat} {A B : List (Nat × α)} {x : Nat} {v : α} {used : List Bool} {nx pv : List Int} {vs : List α} (h : CInv n (A ++ (x, v) :: B) used nx pv vs) : vs[x]? = some v := h.val (x, v) (by simp)
theorem CInv.atlt {α : Type} {n : Nat} {A B : List (Nat × α)} {x : Nat} {v : α} {used : List Bool} {nx pv : List Int} {vs : List α} (h : CInv n (A ++ (x, v) :: B) used nx pv vs) : x < used.length := h.lt x (by simp [nodes])

theorem ifirst_spec (b n : Nat) (l : List (Nat × _)) (r : Res) (w : World) (hr : ChR kInt b n l r) (hs : Holds w r.foot [r] w) :
    Spec Try.prog 64 [.pointer (some ⟨b, 0, .none⟩)] w r.foot fun v H => v = .int .i64 (hdE (-1) (nodes l)) ∧ H = [r] := by
  obtain ⟨uV, nV, pV, vV, used, nx, pv, vs, rfl, hc⟩ := hr
  refine enter (n := 9) Try.func64 rfl rfl [(0, _)] rfl ⟨rfl, trivial⟩ hs ?_
  refine w_unb (chs kInt b n l uV nV pV vV used nx pv vs) ?_
  refine w_seq ?_
  refine w_reg ?_
  refine wl_f (f_assign rfl) ?_
  refine wl_end [(0, _)] ⟨rfl, trivial⟩ ?_
  refine w_seq ?_
  refine w_seq ?_
  refine w_reg ?_
  refine wl_f (f_move rfl) ?_
  refine wl_f (f_eqlnil rfl rfl Try.underlying87) ?_
  refine wl_end [(0, _), (4, _)] ⟨rfl, rfl, trivial⟩ ?_
  refine w_iff rfl ?_
  refine w_skip ?_
  refine w_seq ?_
  refine w_reg ?_
  refine wl_f (f_move rfl) ?_
  refine wl_f (f_nilCheck rfl) ?_
  refine wl_f (f_fieldAddr 2 rfl Try.underlying133 rfl rfl (by kernel_rfl)) ?_
  (first | refine wl_f (f_loadb 0 rfl Try.underlying3 rfl rfl rfl) ?_ | refine wl_f (f_loadb 1 rfl Try.underlying3 rfl rfl rfl) ?_ | refine wl_f (f_loadb 2 rfl Try.underlying3 rfl rfl rfl) ?_ | refine wl_f (f_loadb 3 rfl Try.underlying3 rfl rfl rfl) ?_ | refine wl_f (f_loadb 4 rfl Try.underlying3 rfl rfl rfl) ?_ | refine wl_f (f_loadb 5 rfl Try.underlying3 rfl rfl rfl) ?_ | refine wl_f (f_loadb 6 rfl Try.underlying3 rfl rfl rfl) ?_)
  refine wl_f (f_assign rfl) ?_
  refine wl_end [(2, _)] ⟨rfl, trivial⟩ ?_
  refine w_bun (H := []) (chs kInt b n l uV nV pV vV used nx pv vs) ?_
  refine w_ret ?_
  refine ⟨_, _, fun a ha hh => results_tmps Try.results64 rfl a ha _, List.Sublist.refl _, ?_⟩
  exact ⟨rfl, rfl⟩
theorem bfirst_spec (b n : Nat) (l : List (Nat × _)) (r : Res) (w : World) (hr : ChR kBuc b n l r) (hs : Holds w r.foot [r] w) :
    Spec Try.prog 57 [.pointer (some ⟨b, 0, .none⟩)] w r.foot fun v H => v = .int .i64 (hdE (-1) (nodes l)) ∧ H = [r] := by
  obtain ⟨uV, nV, pV, vV, used, nx, pv, vs, rfl, hc⟩ := hr
  refine enter (n := 9) Try.func57 rfl rfl [(0, _)] rfl ⟨rfl, trivial⟩ hs ?_
  refine w_unb (chs kBuc b n l uV nV pV vV used nx pv vs) ?_
  refine w_seq ?_
  refine w_reg ?_
  refine wl_f (f_assign rfl) ?_
  refine wl_end [(0, _)] ⟨rfl, trivial⟩ ?_
  refine w_seq ?_
  refine w_seq ?_
  refine w_reg ?_
  refine wl_f (f_move rfl) ?_
  refine wl_f (f_eqlnil rfl rfl Try.underlying84) ?_
  refine wl_end [(0, _), (4, _)] ⟨rfl, rfl, trivial⟩ ?_
  refine w_iff rfl ?_
  refine w_skip ?_
  refine w_seq ?_
  refine w_reg ?_
  refine wl_f (f_move rfl) ?_
  refine wl_f (f_nilCheck rfl) ?_
  refine wl_f (f_fieldAddr 2 rfl Try.underlying118 rfl rfl (by kernel_rfl)) ?_
  (first | refine wl_f (f_loadb 0 rfl Try.underlying3 rfl rfl rfl) ?_ | refine wl_f (f_loadb 1 rfl Try.underlying3 rfl rfl rfl) ?_ | refine wl_f (f_loadb 2 rfl Try.underlying3 rfl rfl rfl) ?_ | refine wl_f (f_loadb 3 rfl Try.underlying3 rfl rfl rfl) ?_ | refine wl_f (f_loadb 4 rfl Try.underlying3 rfl rfl rfl) ?_ | refine wl_f (f_loadb 5 rfl Try.underlying3 rfl rfl rfl) ?_ | refine wl_f (f_loadb 6 rfl Try.underlying3 rfl rfl rfl) ?_)
  refine wl_f (f_assign rfl) ?_
  refine wl_end [(2, _)] ⟨rfl, trivial⟩ ?_
  refine w_bun (H := []) (chs kBuc b n l uV nV pV vV used nx pv vs) ?_
  refine w_ret ?_
  refine ⟨_, _, fun a ha hh => results_tmps Try.results57 rfl a ha _, List.Sublist.refl _, ?_⟩
  exact ⟨rfl, rfl⟩
theorem ilen_spec (b n : Nat) (l : List (Nat × _)) (r : Res) (w : World) (hr : ChR kInt b n l r) (hs : Holds w r.foot [r] w) :
    Spec Try.prog 55 [.pointer (some ⟨b, 0, .none⟩)] w r.foot fun v H => v = .int .i64 ((l.length : Int)) ∧ H = [r] := by
  obtain ⟨uV, nV, pV, vV, used, nx, pv, vs, rfl, hc⟩ := hr
  refine enter (n := 9) Try.func55 rfl rfl [(0, _)] rfl ⟨rfl, trivial⟩ hs ?_
  refine w_unb (chs kInt b n l uV nV pV vV used nx pv vs) ?_
  refine w_seq ?_
  refine w_reg ?_
  refine wl_f (f_assign rfl) ?_
  refine wl_end [(0, _)] ⟨rfl, trivial⟩ ?_
  refine w_seq ?_
  refine w_seq ?_
  refine w_reg ?_
  refine wl_f (f_move rfl) ?_
  refine wl_f (f_eqlnil rfl rfl Try.underlying87) ?_
  refine wl_end [(0, _), (4, _)] ⟨rfl, rfl, trivial⟩ ?_
  refine w_iff rfl ?_
  refine w_skip ?_
  refine w_seq ?_
  refine w_reg ?_
  refine wl_f (f_move rfl) ?_
  refine wl_f (f_nilCheck rfl) ?_
  refine wl_f (f_fieldAddr 1 rfl Try.underlying133 rfl rfl (by kernel_rfl)) ?_
  (first | refine wl_f (f_loadb 0 rfl Try.underlying3 rfl rfl rfl) ?_ | refine wl_f (f_loadb 1 rfl Try.underlying3 rfl rfl rfl) ?_ | refine wl_f (f_loadb 2 rfl Try.underlying3 rfl rfl rfl) ?_ | refine wl_f (f_loadb 3 rfl Try.underlying3 rfl rfl rfl) ?_ | refine wl_f (f_loadb 4 rfl Try.underlying3 rfl rfl rfl) ?_ | refine wl_f (f_loadb 5 rfl Try.underlying3 rfl rfl rfl) ?_ | refine wl_f (f_loadb 6 rfl Try.underlying3 rfl rfl rfl) ?_)
  refine wl_f (f_assign rfl) ?_
  refine wl_end [(2, _)] ⟨rfl, trivial⟩ ?_
  refine w_bun (H := []) (chs kInt b n l uV nV pV vV used nx pv vs) ?_
  refine w_ret ?_
  refine ⟨_, _, fun a ha hh => results_tmps Try.results55 rfl a ha _, List.Sublist.refl _, ?_⟩
  exact ⟨rfl, rfl⟩
theorem bnext_spec (b n : Nat) (l : List (Nat × _)) (r : Res) (node : Int) (w : World) (hr : ChR kBuc b n l r) (hs : Holds w r.foot [r] w) :
    Spec Try.prog 58 [.pointer (some ⟨b, 0, .none⟩), .int .i64 node] w r.foot fun v H => H = [r] ∧ ∃ y : Int, v = .int .i64 y ∧ (isAt node (nodes l) = false → y = -1) ∧ ∀ A x v B, l = A ++ (x, v) :: B → node = (x : Nat) → y = hdE (-1) (nodes B) := by
  refine enter (n := 16) Try.func58 rfl rfl [(0, _), (1, _)] rfl ⟨rfl, rfl, trivial⟩ hs ?_
  refine w_seq ?_
  refine w_reg ?_
  refine wl_f (f_assign rfl) ?_
  refine wl_end [(0, _), (1, _)] ⟨rfl, rfl, trivial⟩ ?_
  refine w_seq ?_
  refine w_seq ?_
  refine w_reg ?_
  refine wl_f (f_move rfl) ?_
  refine wl_f (f_move rfl) ?_
  refine wl_e (e_call1 r [] rfl Try.func69 (by kernel_rfl) (List.Perm.refl _) (fun w hh hs => bhas_spec b n l r node w hr hs)) ?_
  rintro _ _ w1 ⟨_, rfl, rfl, rfl⟩
  refine wl_f (f_not rfl rfl) ?_
  refine wl_end [(0, _), (1, _), (8, _)] ⟨rfl, rfl, rfl, trivial⟩ ?_
  refine w_ifb rfl (fun hc1 => ?_) (fun hc1 => ?_)
  · skip
    refine w_seq ?_
    refine w_reg ?_
    refine wl_f (f_assign rfl) ?_
    refine wl_end [(4, _)] ⟨rfl, trivial⟩ ?_
    refine w_ret ?_
    refine ⟨_, _, fun a ha hh => results_tmps Try.results58 rfl a ha _, List.Sublist.refl _, ?_⟩
    refine ⟨rfl, -1, rfl, fun _ => rfl, fun A x v B e e2 => ?_⟩
    have := not_isAt hc1
    rw [e2, e, isAt_nat, nodes_split] at this
    simp at this
  · skip
    obtain ⟨x, rfl, hx⟩ := isAt_some (is_isAt hc1)
    obtain ⟨A, v, B, rfl⟩ := split_node hx
    obtain ⟨uV, nV, pV, vV, used, nx, pv, vs, rfl, hc⟩ := hr
    have hlt := hc.atlt
    have hnd := hc.nd
    refine w_unb (chs kBuc b n _ uV nV pV vV used nx pv vs) ?_
    refine w_with fun hh => ?_
    obtain ⟨g, cap, e⟩ := row_form hh (i := 2) rfl (by omega)
    subst e
    clear hh
    refine w_skip ?_
    refine w_seq ?_
    refine w_reg ?_
    refine wl_f (f_move rfl) ?_
    refine wl_f (f_nilCheck rfl) ?_
    refine wl_f (f_fieldAddr 5 rfl Try.underlying118 rfl rfl (by kernel_rfl)) ?_
    (first | refine wl_f (f_loadb 0 rfl Try.underlying22 rfl rfl rfl) ?_ | refine wl_f (f_loadb 1 rfl Try.underlying22 rfl rfl rfl) ?_ | refine wl_f (f_loadb 2 rfl Try.underlying22 rfl rfl rfl) ?_ | refine wl_f (f_loadb 3 rfl Try.underlying22 rfl rfl rfl) ?_ | refine wl_f (f_loadb 4 rfl Try.underlying22 rfl rfl rfl) ?_ | refine wl_f (f_loadb 5 rfl Try.underlying22 rfl rfl rfl) ?_ | refine wl_f (f_loadb 6 rfl Try.underlying22 rfl rfl rfl) ?_)
    refine wl_f (f_move rfl) ?_
    refine wl_f (f_indexAddr 1 (i := x) rfl rfl Try.underlying22 (by kernel_rfl) rfl hlt) ?_
    refine wl_f (f_loadr (v := .int .i64 (hdE (-1) (nodes B))) 2 rfl Try.underlying3 rfl rfl (map_get (Value.int .i64) hc.next)) ?_
    refine wl_f (f_assign rfl) ?_
    refine wl_end [(4, _)] ⟨rfl, trivial⟩ ?_
    refine w_bun (H := []) [_, _, _, _, _] ?_
    refine w_ret ?_
    refine ⟨_, _, fun a ha hh => results_tmps Try.results58 rfl a ha _, List.Sublist.refl _, ?_⟩
    refine ⟨rfl, _, rfl, fun h => ?_, fun A' x' v' B' e e2 => ?_⟩
    · rw [isAt_nat, nodes_split] at h
      simp at h
    · obtain rfl : x' = x := by omega
      obtain ⟨rfl, _, rfl⟩ := node_uniq hnd e
      rfl
theorem bprev_spec (b n : Nat) (l : List (Nat × _)) (r : Res) (node : Int) (w : World) (hr : ChR kBuc b n l r) (hs : Holds w r.foot [r] w) :
    Spec Try.prog 53 [.pointer (some ⟨b, 0, .none⟩), .int .i64 node] w r.foot fun v H => H = [r] ∧ ∃ y : Int, v = .int .i64 y ∧ (isAt node (nodes l) = false → y = -1) ∧ ∀ A x v B, l = A ++ (x, v) :: B → node = (x : Nat) → y = hdE (-1) (nodes A).reverse := by
  refine enter (n := 16) Try.func53 rfl rfl [(0, _), (1, _)] rfl ⟨rfl, rfl, trivial⟩ hs ?_
  refine w_seq ?_
  refine w_reg ?_
  refine wl_f (f_assign rfl) ?_
  refine wl_end [(0, _), (1, _)] ⟨rfl, rfl, trivial⟩ ?_
  refine w_seq ?_
  refine w_seq ?_
  refine w_reg ?_
  refine wl_f (f_move rfl) ?_
  refine wl_f (f_move rfl) ?_
  refine wl_e (e_call1 r [] rfl Try.func69 (by kernel_rfl) (List.Perm.refl _) (fun w hh hs => bhas_spec b n l r node w hr hs)) ?_
  rintro _ _ w1 ⟨_, rfl, rfl, rfl⟩
  refine wl_f (f_not rfl rfl) ?_
  refine wl_end [(0, _), (1, _), (8, _)] ⟨rfl, rfl, rfl, trivial⟩ ?_
  refine w_ifb rfl (fun hc1 => ?_) (fun hc1 => ?_)
  · skip
    refine w_seq ?_
    refine w_reg ?_
    refine wl_f (f_assign rfl) ?_
    refine wl_end [(4, _)] ⟨rfl, trivial⟩ ?_
    refine w_ret ?_
    refine ⟨_, _, fun a ha hh => results_tmps Try.results53 rfl a ha _, List.Sublist.refl _, ?_⟩
    refine ⟨rfl, -1, rfl, fun _ => rfl, fun A x v B e e2 => ?_⟩
    have := not_isAt hc1
    rw [e2, e, isAt_nat, nodes_split] at this
    simp at this
  · skip
    obtain ⟨x, rfl, hx⟩ := isAt_some (is_isAt hc1)
    obtain ⟨A, v, B, rfl⟩ := split_node hx
    obtain ⟨uV, nV, pV, vV, used, nx, pv, vs, rfl, hc⟩ := hr
    have hlt := hc.atlt
    have hnd := hc.nd
    refine w_unb (chs kBuc b n _ uV nV pV vV used nx pv vs) ?_
    refine w_with fun hh => ?_
    obtain ⟨g, cap, e⟩ := row_form hh (i := 3) rfl (by omega)
    subst e
    clear hh
    refine w_skip ?_
    refine w_seq ?_
    refine w_reg ?_
    refine wl_f (f_move rfl) ?_
    refine wl_f (f_nilCheck rfl) ?_
    refine wl_f (f_fieldAddr 6 rfl Try.underlying118 rfl rfl (by kernel_rfl)) ?_
    (first | refine wl_f (f_loadb 0 rfl Try.underlying22 rfl rfl rfl) ?_ | refine wl_f (f_loadb 1 rfl Try.underlying22 rfl rfl rfl) ?_ | refine wl_f (f_loadb 2 rfl Try.underlying22 rfl rfl rfl) ?_ | refine wl_f (f_loadb 3 rfl Try.underlying22 rfl rfl rfl) ?_ | refine wl_f (f_loadb 4 rfl Try.underlying22 rfl rfl rfl) ?_ | refine wl_f (f_loadb 5 rfl Try.underlying22 rfl rfl rfl) ?_ | refine wl_f (f_loadb 6 rfl Try.underlying22 rfl rfl rfl) ?_)
    refine wl_f (f_move rfl) ?_
    refine wl_f (f_indexAddr 1 (i := x) rfl rfl Try.underlying22 (by kernel_rfl) rfl hlt) ?_
    refine wl_f (f_loadr (v := .int .i64 (hdE (-1) (nodes A).reverse)) 3 rfl Try.underlying3 rfl rfl (map_get (Value.int .i64) hc.prev)) ?_
    refine wl_f (f_assign rfl) ?_
    refine wl_end [(4, _)] ⟨rfl, trivial⟩ ?_
    refine w_bun (H := []) [_, _, _, _, _] ?_
    refine w_ret ?_
    refine ⟨_, _, fun a ha hh => results_tmps Try.results53 rfl a ha _, List.Sublist.refl _, ?_⟩
    refine ⟨rfl, _, rfl, fun h => ?_, fun A' x' v' B' e e2 => ?_⟩
    · rw [isAt_nat, nodes_split] at h
      simp at h
    · obtain rfl : x' = x := by omega
      obtain ⟨rfl, _, rfl⟩ := node_uniq hnd e
      rfl
end Go.Proofs.Ytbcfdgnpdaaleaa
