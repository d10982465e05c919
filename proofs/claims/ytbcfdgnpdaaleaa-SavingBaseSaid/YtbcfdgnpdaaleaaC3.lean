/- Linked lists: whether a node is there; a free place. -/
import Derived.Test.YtbcfdgnpdaaleaaC2
namespace Go.Proofs.Ytbcfdgnpdaaleaa
open Go.RowKit

def noneAt (node : Int) (N : List Nat) : Prop := ∀ x : Nat, node = x → x ∉ N
def isAt (node : Int) (N : List Nat) : Bool := decide (0 ≤ node) && N.contains node.toNat
theorem isAt_some {node : Int} {N : List Nat} (h : isAt node N = true) : ∃ x : Nat, node = x ∧ x ∈ N := by
  simp only [isAt, Bool.and_eq_true, decide_eq_true_eq, List.contains_iff_mem] at h
  exact ⟨node.toNat, by omega, h.2⟩
theorem isAt_nat {x : Nat} {N : List Nat} : isAt (x : Int) N = N.contains x := by simp [isAt]

set_option maxHeartbeats 1000000 in
theorem ihas_nil (node : Int) (w : World) : Spec Try.prog 70 [.pointer .none, .int .i64 node] w Nil fun r H => r = .bool false ∧ H = [] := by
  refine enter (n := 29) Try.func70 rfl rfl [(0, _), (1, _)] rfl ⟨rfl, rfl, trivial⟩ (Holds.start _ _) ?_
  refine w_seq ?_
  refine w_reg ?_
  refine wl_f (f_assign rfl) ?_
  refine wl_end [(0, _), (1, _)] ⟨rfl, rfl, trivial⟩ ?_
  refine w_seq ?_
  refine w_reg ?_
  refine wl_f (f_move rfl) ?_
  refine wl_f (f_neqnil rfl rfl Try.underlying87) ?_
  refine wl_f (f_move rfl) ?_
  refine wl_gs rfl rfl ?_
  refine wl_gs rfl rfl ?_
  refine wl_f (f_pick0 rfl rfl) ?_
  refine wl_f (f_move rfl) ?_
  refine wl_gs rfl rfl ?_
  refine wl_gs rfl rfl ?_
  refine wl_gs rfl rfl ?_
  refine wl_gs rfl rfl ?_
  refine wl_gs rfl rfl ?_
  refine wl_gs rfl rfl ?_
  refine wl_gs rfl rfl ?_
  refine wl_f (f_pick0 rfl rfl) ?_
  refine wl_f (f_move rfl) ?_
  refine wl_gs rfl rfl ?_
  refine wl_gs rfl rfl ?_
  refine wl_gs rfl rfl ?_
  refine wl_gs rfl rfl ?_
  refine wl_gs rfl rfl ?_
  refine wl_gs rfl rfl ?_
  refine wl_gs rfl rfl ?_
  refine wl_f (f_pick0 rfl rfl) ?_
  refine wl_f (f_assign rfl) ?_
  refine wl_end [(4, _)] ⟨rfl, trivial⟩ ?_
  refine w_ret ?_
  refine ⟨_, _, fun a ha hh => results_tmps Try.results70 rfl a ha _, List.Sublist.refl _, ?_⟩
  exact ⟨rfl, rfl⟩
set_option maxHeartbeats 1000000 in
theorem ihas_spec (b n : Nat) (l : List (Nat × _)) (r : Res) (node : Int) (w : World) (hr : ChR kInt b n l r) (hs : Holds w r.foot [r] w) :
    Spec Try.prog 70 [.pointer (some ⟨b, 0, .none⟩), .int .i64 node] w r.foot fun v H => v = .bool (isAt node (nodes l)) ∧ H = [r] := by
  obtain ⟨uV, nV, pV, vV, used, nx, pv, vs, rfl, hc⟩ := hr
  refine enter (n := 29) Try.func70 rfl rfl [(0, _), (1, _)] rfl ⟨rfl, rfl, trivial⟩ hs ?_
  refine w_unb (chs kInt b n l uV nV pV vV used nx pv vs) ?_
  refine w_with fun hh => ?_
  obtain ⟨U, cu, rfl⟩ := row_slice hh (i := 1) rfl
  clear hh
  refine w_seq ?_
  refine w_reg ?_
  refine wl_f (f_assign rfl) ?_
  refine wl_end [(0, _), (1, _)] ⟨rfl, rfl, trivial⟩ ?_
  refine w_seq ?_
  refine w_reg ?_
  refine wl_f (f_move rfl) ?_
  refine wl_f (f_neqnil rfl rfl Try.underlying87) ?_
  refine wl_f (f_move rfl) ?_
  refine wl_and (j := 2) (c := decide (0 ≤ node)) 2 [(0, _), (1, _)] ⟨rfl, rfl, trivial⟩ rfl rfl rfl rfl rfl (fun hg1_5 => ?_) (fun w1_5 => ?_)
  · skip
    refine wl_gf rfl rfl (f_move rfl) ?_
    refine wl_gf rfl rfl (f_geq rfl rfl) ?_
    exact wl_pend rfl rfl ⟨rfl, rfl, trivial⟩ (List.Sublist.refl _)
  refine wl_f (f_move rfl) ?_
  refine wl_and (j := 6) (c := decide (node < (used.length : Int))) 7 [(0, _), (1, _)] ⟨rfl, rfl, trivial⟩ rfl rfl rfl rfl rfl (fun hg1_14 => ?_) (fun w1_14 => ?_)
  · skip
    refine wl_gf rfl rfl (f_move rfl) ?_
    refine wl_gf rfl rfl (f_move rfl) ?_
    refine wl_gf rfl rfl (f_nilCheck rfl) ?_
    refine wl_gf rfl rfl (f_fieldAddr 4 rfl Try.underlying133 rfl rfl (by kernel_rfl)) ?_
    (first | refine wl_gf rfl rfl (f_loadb 0 rfl Try.underlying115 rfl rfl rfl) ?_ | refine wl_gf rfl rfl (f_loadb 1 rfl Try.underlying115 rfl rfl rfl) ?_ | refine wl_gf rfl rfl (f_loadb 2 rfl Try.underlying115 rfl rfl rfl) ?_ | refine wl_gf rfl rfl (f_loadb 3 rfl Try.underlying115 rfl rfl rfl) ?_ | refine wl_gf rfl rfl (f_loadb 4 rfl Try.underlying115 rfl rfl rfl) ?_ | refine wl_gf rfl rfl (f_loadb 5 rfl Try.underlying115 rfl rfl rfl) ?_ | refine wl_gf rfl rfl (f_loadb 6 rfl Try.underlying115 rfl rfl rfl) ?_)
    refine wl_gf rfl rfl (f_len rfl Try.underlying115) ?_
    refine wl_gf rfl rfl (f_lss rfl rfl) ?_
    exact wl_pend rfl rfl ⟨rfl, rfl, trivial⟩ (List.Sublist.refl _)
  refine wl_f (f_move rfl) ?_
  refine wl_and (j := 15) (c := used.getD node.toNat false) 7 [] trivial rfl rfl rfl rfl rfl (fun hg1_23 => ?_) (fun w1_23 => ?_)
  · skip
    refine wl_gf rfl rfl (f_move rfl) ?_
    refine wl_gf rfl rfl (f_nilCheck rfl) ?_
    refine wl_gf rfl rfl (f_fieldAddr 4 rfl Try.underlying133 rfl rfl (by kernel_rfl)) ?_
    (first | refine wl_gf rfl rfl (f_loadb 0 rfl Try.underlying115 rfl rfl rfl) ?_ | refine wl_gf rfl rfl (f_loadb 1 rfl Try.underlying115 rfl rfl rfl) ?_ | refine wl_gf rfl rfl (f_loadb 2 rfl Try.underlying115 rfl rfl rfl) ?_ | refine wl_gf rfl rfl (f_loadb 3 rfl Try.underlying115 rfl rfl rfl) ?_ | refine wl_gf rfl rfl (f_loadb 4 rfl Try.underlying115 rfl rfl rfl) ?_ | refine wl_gf rfl rfl (f_loadb 5 rfl Try.underlying115 rfl rfl rfl) ?_ | refine wl_gf rfl rfl (f_loadb 6 rfl Try.underlying115 rfl rfl rfl) ?_)
    refine wl_gf rfl rfl (f_move rfl) ?_
    simp only [Bool.and_eq_true, decide_eq_true_eq] at hg1_23
    obtain ⟨x, rfl⟩ : ∃ x : Nat, node = x := ⟨node.toNat, by omega⟩
    refine wl_with fun hh => ?_
    obtain ⟨g, cap, e⟩ := row_form hh (i := 1) rfl (by omega)
    injection e with e1 _ e3
    subst e1; subst e3
    clear hh
    refine wl_gf rfl rfl (f_indexAddr 1 (i := x) rfl rfl Try.underlying115 (by kernel_rfl) rfl (by omega)) ?_
    refine wl_gf rfl rfl (f_eqv (v' := .bool (used.getD ((x : Int).toNat) false)) (f_loadr (v := .bool (used.getD x false)) 1 rfl Try.underlying4 rfl rfl (map_get Value.bool (by simp [show x < used.length by omega]))) (by simp)) ?_
    exact wl_pend rfl rfl trivial (List.Sublist.refl _)
  refine wl_f (f_assign rfl) ?_
  refine wl_end [(4, _)] ⟨rfl, trivial⟩ ?_
  refine w_bun (H := []) (chs kInt b n l (.slice U used.length cu) nV pV vV used nx pv vs) ?_
  refine w_ret ?_
  refine ⟨_, _, fun a ha hh => results_tmps Try.results70 rfl a ha _, List.Sublist.refl _, ?_⟩
  refine ⟨?_, rfl⟩
  have h1 := hc.us node.toNat
  have h2 : (nodes l).contains node.toNat = used.getD node.toNat false := by
    rw [Bool.eq_iff_iff, List.contains_iff_mem, ← h1]
    simp only [List.getD_eq_getElem?_getD]
    cases used[node.toNat]? with
    | none => simp
    | some c => simp
  have h3 : node.toNat < used.length ∨ used.getD node.toNat false = false := by
    rcases Nat.lt_or_ge node.toNat used.length with h | h
    · exact .inl h
    · exact .inr (by simp [List.getElem?_eq_none h])
  show Value.bool _ = _
  simp only [isAt, h2]
  congr 1
  rw [Bool.eq_iff_iff]
  simp only [Bool.and_eq_true, decide_eq_true_eq, Option.isSome]
  rcases h3 with h3 | h3
  · constructor
    · rintro ⟨⟨⟨_, h⟩, _⟩, h4⟩; exact ⟨h, h4⟩
    · rintro ⟨h, h4⟩; exact ⟨⟨⟨trivial, h⟩, by omega⟩, h4⟩
  · rw [h3]; simp
set_option maxHeartbeats 1000000 in
theorem bhas_nil (node : Int) (w : World) : Spec Try.prog 69 [.pointer .none, .int .i64 node] w Nil fun r H => r = .bool false ∧ H = [] := by
  refine enter (n := 29) Try.func69 rfl rfl [(0, _), (1, _)] rfl ⟨rfl, rfl, trivial⟩ (Holds.start _ _) ?_
  refine w_seq ?_
  refine w_reg ?_
  refine wl_f (f_assign rfl) ?_
  refine wl_end [(0, _), (1, _)] ⟨rfl, rfl, trivial⟩ ?_
  refine w_seq ?_
  refine w_reg ?_
  refine wl_f (f_move rfl) ?_
  refine wl_f (f_neqnil rfl rfl Try.underlying84) ?_
  refine wl_f (f_move rfl) ?_
  refine wl_gs rfl rfl ?_
  refine wl_gs rfl rfl ?_
  refine wl_f (f_pick0 rfl rfl) ?_
  refine wl_f (f_move rfl) ?_
  refine wl_gs rfl rfl ?_
  refine wl_gs rfl rfl ?_
  refine wl_gs rfl rfl ?_
  refine wl_gs rfl rfl ?_
  refine wl_gs rfl rfl ?_
  refine wl_gs rfl rfl ?_
  refine wl_gs rfl rfl ?_
  refine wl_f (f_pick0 rfl rfl) ?_
  refine wl_f (f_move rfl) ?_
  refine wl_gs rfl rfl ?_
  refine wl_gs rfl rfl ?_
  refine wl_gs rfl rfl ?_
  refine wl_gs rfl rfl ?_
  refine wl_gs rfl rfl ?_
  refine wl_gs rfl rfl ?_
  refine wl_gs rfl rfl ?_
  refine wl_f (f_pick0 rfl rfl) ?_
  refine wl_f (f_assign rfl) ?_
  refine wl_end [(4, _)] ⟨rfl, trivial⟩ ?_
  refine w_ret ?_
  refine ⟨_, _, fun a ha hh => results_tmps Try.results69 rfl a ha _, List.Sublist.refl _, ?_⟩
  exact ⟨rfl, rfl⟩
set_option maxHeartbeats 1000000 in
theorem bhas_spec (b n : Nat) (l : List (Nat × _)) (r : Res) (node : Int) (w : World) (hr : ChR kBuc b n l r) (hs : Holds w r.foot [r] w) :
    Spec Try.prog 69 [.pointer (some ⟨b, 0, .none⟩), .int .i64 node] w r.foot fun v H => v = .bool (isAt node (nodes l)) ∧ H = [r] := by
  obtain ⟨uV, nV, pV, vV, used, nx, pv, vs, rfl, hc⟩ := hr
  refine enter (n := 29) Try.func69 rfl rfl [(0, _), (1, _)] rfl ⟨rfl, rfl, trivial⟩ hs ?_
  refine w_unb (chs kBuc b n l uV nV pV vV used nx pv vs) ?_
  refine w_with fun hh => ?_
  obtain ⟨U, cu, rfl⟩ := row_slice hh (i := 1) rfl
  clear hh
  refine w_seq ?_
  refine w_reg ?_
  refine wl_f (f_assign rfl) ?_
  refine wl_end [(0, _), (1, _)] ⟨rfl, rfl, trivial⟩ ?_
  refine w_seq ?_
  refine w_reg ?_
  refine wl_f (f_move rfl) ?_
  refine wl_f (f_neqnil rfl rfl Try.underlying84) ?_
  refine wl_f (f_move rfl) ?_
  refine wl_and (j := 2) (c := decide (0 ≤ node)) 2 [(0, _), (1, _)] ⟨rfl, rfl, trivial⟩ rfl rfl rfl rfl rfl (fun hg1_5 => ?_) (fun w1_5 => ?_)
  · skip
    refine wl_gf rfl rfl (f_move rfl) ?_
    refine wl_gf rfl rfl (f_geq rfl rfl) ?_
    exact wl_pend rfl rfl ⟨rfl, rfl, trivial⟩ (List.Sublist.refl _)
  refine wl_f (f_move rfl) ?_
  refine wl_and (j := 6) (c := decide (node < (used.length : Int))) 7 [(0, _), (1, _)] ⟨rfl, rfl, trivial⟩ rfl rfl rfl rfl rfl (fun hg1_14 => ?_) (fun w1_14 => ?_)
  · skip
    refine wl_gf rfl rfl (f_move rfl) ?_
    refine wl_gf rfl rfl (f_move rfl) ?_
    refine wl_gf rfl rfl (f_nilCheck rfl) ?_
    refine wl_gf rfl rfl (f_fieldAddr 4 rfl Try.underlying118 rfl rfl (by kernel_rfl)) ?_
    (first | refine wl_gf rfl rfl (f_loadb 0 rfl Try.underlying115 rfl rfl rfl) ?_ | refine wl_gf rfl rfl (f_loadb 1 rfl Try.underlying115 rfl rfl rfl) ?_ | refine wl_gf rfl rfl (f_loadb 2 rfl Try.underlying115 rfl rfl rfl) ?_ | refine wl_gf rfl rfl (f_loadb 3 rfl Try.underlying115 rfl rfl rfl) ?_ | refine wl_gf rfl rfl (f_loadb 4 rfl Try.underlying115 rfl rfl rfl) ?_ | refine wl_gf rfl rfl (f_loadb 5 rfl Try.underlying115 rfl rfl rfl) ?_ | refine wl_gf rfl rfl (f_loadb 6 rfl Try.underlying115 rfl rfl rfl) ?_)
    refine wl_gf rfl rfl (f_len rfl Try.underlying115) ?_
    refine wl_gf rfl rfl (f_lss rfl rfl) ?_
    exact wl_pend rfl rfl ⟨rfl, rfl, trivial⟩ (List.Sublist.refl _)
  refine wl_f (f_move rfl) ?_
  refine wl_and (j := 15) (c := used.getD node.toNat false) 7 [] trivial rfl rfl rfl rfl rfl (fun hg1_23 => ?_) (fun w1_23 => ?_)
  · skip
    refine wl_gf rfl rfl (f_move rfl) ?_
    refine wl_gf rfl rfl (f_nilCheck rfl) ?_
    refine wl_gf rfl rfl (f_fieldAddr 4 rfl Try.underlying118 rfl rfl (by kernel_rfl)) ?_
    (first | refine wl_gf rfl rfl (f_loadb 0 rfl Try.underlying115 rfl rfl rfl) ?_ | refine wl_gf rfl rfl (f_loadb 1 rfl Try.underlying115 rfl rfl rfl) ?_ | refine wl_gf rfl rfl (f_loadb 2 rfl Try.underlying115 rfl rfl rfl) ?_ | refine wl_gf rfl rfl (f_loadb 3 rfl Try.underlying115 rfl rfl rfl) ?_ | refine wl_gf rfl rfl (f_loadb 4 rfl Try.underlying115 rfl rfl rfl) ?_ | refine wl_gf rfl rfl (f_loadb 5 rfl Try.underlying115 rfl rfl rfl) ?_ | refine wl_gf rfl rfl (f_loadb 6 rfl Try.underlying115 rfl rfl rfl) ?_)
    refine wl_gf rfl rfl (f_move rfl) ?_
    simp only [Bool.and_eq_true, decide_eq_true_eq] at hg1_23
    obtain ⟨x, rfl⟩ : ∃ x : Nat, node = x := ⟨node.toNat, by omega⟩
    refine wl_with fun hh => ?_
    obtain ⟨g, cap, e⟩ := row_form hh (i := 1) rfl (by omega)
    injection e with e1 _ e3
    subst e1; subst e3
    clear hh
    refine wl_gf rfl rfl (f_indexAddr 1 (i := x) rfl rfl Try.underlying115 (by kernel_rfl) rfl (by omega)) ?_
    refine wl_gf rfl rfl (f_eqv (v' := .bool (used.getD ((x : Int).toNat) false)) (f_loadr (v := .bool (used.getD x false)) 1 rfl Try.underlying4 rfl rfl (map_get Value.bool (by simp [show x < used.length by omega]))) (by simp)) ?_
    exact wl_pend rfl rfl trivial (List.Sublist.refl _)
  refine wl_f (f_assign rfl) ?_
  refine wl_end [(4, _)] ⟨rfl, trivial⟩ ?_
  refine w_bun (H := []) (chs kBuc b n l (.slice U used.length cu) nV pV vV used nx pv vs) ?_
  refine w_ret ?_
  refine ⟨_, _, fun a ha hh => results_tmps Try.results69 rfl a ha _, List.Sublist.refl _, ?_⟩
  refine ⟨?_, rfl⟩
  have h1 := hc.us node.toNat
  have h2 : (nodes l).contains node.toNat = used.getD node.toNat false := by
    rw [Bool.eq_iff_iff, List.contains_iff_mem, ← h1]
    simp only [List.getD_eq_getElem?_getD]
    cases used[node.toNat]? with
    | none => simp
    | some c => simp
  have h3 : node.toNat < used.length ∨ used.getD node.toNat false = false := by
    rcases Nat.lt_or_ge node.toNat used.length with h | h
    · exact .inl h
    · exact .inr (by simp [List.getElem?_eq_none h])
  show Value.bool _ = _
  simp only [isAt, h2]
  congr 1
  rw [Bool.eq_iff_iff]
  simp only [Bool.and_eq_true, decide_eq_true_eq, Option.isSome]
  rcases h3 with h3 | h3
  · constructor
    · rintro ⟨⟨⟨_, h⟩, _⟩, h4⟩; exact ⟨h, h4⟩
    · rintro ⟨h, h4⟩; exact ⟨⟨⟨trivial, h⟩, by omega⟩, h4⟩
  · rw [h3]; simp
end Go.Proofs.Ytbcfdgnpdaaleaa
