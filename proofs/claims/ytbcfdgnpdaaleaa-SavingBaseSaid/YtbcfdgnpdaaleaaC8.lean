/- Linked lists: nodes behind a node, buckets at the front, the value of a node. -/
import Derived.Test.YtbcfdgnpdaaleaaC7
import Derived.Test.YtbcfdgnpdaaleaaK11
namespace Go.Proofs.Ytbcfdgnpdaaleaa
open Go.RowKit

theorem bPushFront_spec (b n : Nat) (l : List (Nat × (Nat × Option Nat))) (v : Nat × Option Nat) (r : Res) (w : World) (hn : n ≤ 8192) (hr : ChR kBuc b n l r) (hs : Holds w r.foot [r] w) :
    Spec Try.prog 60 [.pointer (some ⟨b, 0, .none⟩), kBuc.val v] w r.foot fun u H => NewAt kBuc b n [] l v r u H := by
  obtain ⟨uV, nV, pV, vV, used, nx, pv, vs, rfl, hc⟩ := id hr
  refine enter (n := 17) Try.func60 rfl rfl [(0, _), (1, _)] rfl ⟨rfl, rfl, trivial⟩ hs ?_
  refine w_seq ?_
  refine w_reg ?_
  refine wl_e (e_box (cs := [_, _]) rfl rfl) ?_
  rintro _ _ w0_0 ⟨b0_0, rfl, rfl⟩
  refine wl_f (f_assign rfl) ?_
  refine wl_f (f_assign rfl) ?_
  refine wl_end [(0, _), (3, _)] ⟨rfl, rfl, trivial⟩ ?_
  refine w_seq ?_
  refine w_seq ?_
  refine w_reg ?_
  refine wl_f (f_move rfl) ?_
  refine wl_f (f_eqlnil rfl rfl Try.underlying84) ?_
  refine wl_end [(0, _), (3, _), (7, _)] ⟨rfl, rfl, rfl, trivial⟩ ?_
  refine w_iff rfl ?_
  refine w_skip ?_
  refine w_seq ?_
  refine w_drawk [(0, true), (1, true), (2, true), (3, true), (4, true), (5, true), (6, false), (7, true), (8, true), (9, true), (10, true)] ([(_, some 6), (_, none)]) ([]) mixed (by kernel_rfl) (by kernel_rfl) rfl rfl ((List.Perm.swap ..).trans (perm_all _)) (fun w3_ => ?_)
  refine wk_f rfl (f_move rfl) ?_
  refine wk_f rfl (f_move rfl) ?_
  refine wk_f rfl (f_nilCheck rfl) ?_
  refine wk_f rfl (f_fieldAddr 2 rfl Try.underlying118 rfl rfl (by kernel_rfl)) ?_
  refine wk_f rfl (f_loadB 0 0 rfl rfl rfl Try.underlying3 rfl rfl) ?_
  (first | refine wk_f rfl (f_loadsb (cs := [_, _]) 0 rfl Try.underlying89 rfl (by kernel_rfl) rfl rfl) ?_ | refine wk_f rfl (f_loadsb (cs := [_, _]) 1 rfl Try.underlying89 rfl (by kernel_rfl) rfl rfl) ?_ | refine wk_f rfl (f_loadsb (cs := [_, _]) 2 rfl Try.underlying89 rfl (by kernel_rfl) rfl rfl) ?_ | refine wk_f rfl (f_loadsb (cs := [_, _]) 3 rfl Try.underlying89 rfl (by kernel_rfl) rfl rfl) ?_ | refine wk_f rfl (f_loadsb (cs := [_, _]) 4 rfl Try.underlying89 rfl (by kernel_rfl) rfl rfl) ?_ | refine wk_f rfl (f_loadsb (cs := [_, _]) 5 rfl Try.underlying89 rfl (by kernel_rfl) rfl rfl) ?_ | refine wk_f rfl (f_loadsb (cs := [_, _]) 6 rfl Try.underlying89 rfl (by kernel_rfl) rfl rfl) ?_)
  refine wk_e rfl (e_call1 (bun (chs kBuc b n l uV nV pV vV used nx pv vs)) [_] rfl Try.func71 (by kernel_rfl) (List.Perm.refl _) (fun w hh hs => binsert_spec b n [] l v _ w hn hr hs)) ?_
  rintro u _ w1 ⟨H1, rfl, hH⟩
  obtain ⟨u1, u2, r2, rfl, rfl⟩ : ∃ u1 u2 r2, u = .tuple [u1, u2].toArray ∧ H1 = [r2] := by
    rcases hH with ⟨_, rfl, rfl⟩ | ⟨_, x, r', _, rfl, rfl, _⟩
    · exact ⟨_, _, _, rfl, rfl⟩
    · exact ⟨_, _, _, rfl, rfl⟩
  refine ⟨_, List.Perm.swap .., ?_⟩
  refine wk_f rfl (f_extract rfl rfl) ?_
  refine wk_f rfl (f_extract rfl rfl) ?_
  refine wk_f rfl (f_assign rfl) ?_
  refine wk_f rfl (f_assign rfl) ?_
  refine wk_endp [(4, _), (5, _)] [1] ⟨rfl, rfl, trivial⟩ rfl ?_
  refine w_ret ?_
  refine ⟨_, _, fun a ha hh => results_tmps Try.results60 rfl a ha _, List.Sublist.refl _, ?_⟩
  exact hH

/-- What a node behind another one leaves. -/
def BehindG {α : Type} (R : List (Nat × α) → Res → Prop) (n : Nat) (l : List (Nat × α)) (node : Int) (v : α) (r : Res) (u : Value) (H : List Res) : Prop :=
  (isAt node (nodes l) = false ∧ u = .tuple #[.int .i64 0, .int .i64 8] ∧ H = [r]) ∨ ∃ A y a B, l = A ++ (y, a) :: B ∧ node = (y : Nat) ∧ NewG R n (A ++ [(y, a)]) B v r u H
abbrev NewBehind {α : Type} (K : VK α) (b n : Nat) (l : List (Nat × α)) (node : Int) (v : α) (r : Res) (u : Value) (H : List Res) : Prop := BehindG (ChR K b n) n l node v r u H
theorem nodes_snoc_rev {α : Type} (A : List (Nat × α)) (y : Nat) (a : α) : hdE (-1) (nodes (A ++ [(y, a)])).reverse = y := by simp [nodes, hdE]


set_option maxHeartbeats 1000000 in
theorem bInsertAfter_spec (b n : Nat) (l : List (Nat × (Nat × Option Nat))) (node : Int) (v : Nat × Option Nat) (r : Res) (w : World) (hn : n ≤ 8192) (hr : ChR kBuc b n l r) (hs : Holds w r.foot [r] w) :
    Spec Try.prog 61 [.pointer (some ⟨b, 0, .none⟩), .int .i64 node, kBuc.val v] w r.foot fun u H => NewBehind kBuc b n l node v r u H := by
  refine enter (n := 25) Try.func61 rfl rfl [(0, _), (1, _), (2, _)] rfl ⟨rfl, rfl, rfl, trivial⟩ hs ?_
  refine w_seq ?_
  refine w_reg ?_
  refine wl_e (e_box (cs := [_, _]) rfl rfl) ?_
  rintro _ _ w0_0 ⟨b0_0, rfl, rfl⟩
  refine wl_f (f_assign rfl) ?_
  refine wl_f (f_assign rfl) ?_
  refine wl_end [(0, _), (1, _), (5, _)] ⟨rfl, rfl, rfl, trivial⟩ ?_
  refine w_seq ?_
  refine w_seq ?_
  refine w_reg ?_
  refine wl_f (f_move rfl) ?_
  refine wl_f (f_move rfl) ?_
  refine wl_e (e_call1 r [_] rfl Try.func69 (by kernel_rfl) (List.Perm.swap ..) (fun w hh hs => bhas_spec b n l r node w hr hs)) ?_
  rintro _ _ w1 ⟨_, rfl, rfl, rfl⟩
  refine wl_f (f_not rfl rfl) ?_
  refine wl_end [(0, _), (1, _), (5, _), (11, _)] ⟨rfl, rfl, rfl, rfl, trivial⟩ ?_
  refine w_ifb rfl (fun hc1 => ?_) (fun hc1 => ?_)
  · skip
    refine w_seq ?_
    refine w_reg ?_
    refine wl_f (f_assign rfl) ?_
    refine wl_f (f_assign rfl) ?_
    refine wl_end [(6, _), (7, _)] ⟨rfl, rfl, trivial⟩ ?_
    refine w_pick [0] rfl ?_
    refine w_ret ?_
    refine ⟨_, _, fun a ha hh => results_tmps Try.results61 rfl a ha _, List.Sublist.refl _, ?_⟩
    exact .inl ⟨not_isAt hc1, rfl, rfl⟩
  · skip
    obtain ⟨x, rfl, hx⟩ := isAt_some (is_isAt hc1)
    obtain ⟨A, a, B, rfl⟩ := split_node hx
    have hr' : ChR kBuc b n ((A ++ [(x, a)]) ++ B) r := by simpa using hr
    obtain ⟨uV, nV, pV, vV, used, nx, pv, vs, rfl, hc⟩ := id hr
    have hlt := hc.atlt
    refine w_with fun hh => ?_
    obtain ⟨g, cap, e⟩ := rowB_form hh (i := 0) (j := 2) rfl rfl (by omega)
    subst e
    clear hh
    refine w_skip ?_
    refine w_seq ?_
    refine w_drawk [(0, true), (1, true), (2, true), (3, true), (4, true), (5, true), (6, true), (7, true), (8, true), (9, true), (10, false), (11, true), (12, true), (13, true), (14, true)] ([(_, some 10), (_, none)]) ([]) mixed (by kernel_rfl) (by kernel_rfl) rfl rfl (perm_all _) (fun w3_ => ?_)
    refine wk_f rfl (f_move rfl) ?_
    refine wk_f rfl (f_move rfl) ?_
    refine wk_f rfl (f_move rfl) ?_
    refine wk_f rfl (f_nilCheck rfl) ?_
    refine wk_f rfl (f_fieldAddr 5 rfl Try.underlying118 rfl rfl (by kernel_rfl)) ?_
    refine wk_f rfl (f_loadB 0 0 rfl rfl rfl Try.underlying22 rfl rfl) ?_
    refine wk_f rfl (f_move rfl) ?_
    refine wk_f rfl (f_indexAddr 1 (i := x) rfl rfl Try.underlying22 (by kernel_rfl) rfl hlt) ?_
    refine wk_f rfl (f_loadBr (v := .int .i64 (hdE (-1) (nodes B))) 0 2 rfl rfl rfl Try.underlying3 rfl (map_get (Value.int .i64) hc.next)) ?_
    (first | refine wk_f rfl (f_loadsb (cs := [_, _]) 0 rfl Try.underlying89 rfl (by kernel_rfl) rfl rfl) ?_ | refine wk_f rfl (f_loadsb (cs := [_, _]) 1 rfl Try.underlying89 rfl (by kernel_rfl) rfl rfl) ?_ | refine wk_f rfl (f_loadsb (cs := [_, _]) 2 rfl Try.underlying89 rfl (by kernel_rfl) rfl rfl) ?_ | refine wk_f rfl (f_loadsb (cs := [_, _]) 3 rfl Try.underlying89 rfl (by kernel_rfl) rfl rfl) ?_ | refine wk_f rfl (f_loadsb (cs := [_, _]) 4 rfl Try.underlying89 rfl (by kernel_rfl) rfl rfl) ?_ | refine wk_f rfl (f_loadsb (cs := [_, _]) 5 rfl Try.underlying89 rfl (by kernel_rfl) rfl rfl) ?_ | refine wk_f rfl (f_loadsb (cs := [_, _]) 6 rfl Try.underlying89 rfl (by kernel_rfl) rfl rfl) ?_)
    refine wk_e rfl (e_call1 _ [_] rfl Try.func71 (by kernel_rfl) (List.Perm.refl _) (fun w hh hs => by have h := binsert_spec b n (A ++ [(x, a)]) B v _ w hn hr' hs; rw [nodes_snoc_rev] at h; exact h)) ?_
    rintro u _ w1 ⟨H1, rfl, hH⟩
    obtain ⟨u1, u2, r2, rfl, rfl⟩ : ∃ u1 u2 r2, u = .tuple [u1, u2].toArray ∧ H1 = [r2] := by
      rcases hH with ⟨_, rfl, rfl⟩ | ⟨_, x, r', _, rfl, rfl, _⟩
      · exact ⟨_, _, _, rfl, rfl⟩
      · exact ⟨_, _, _, rfl, rfl⟩
    refine ⟨_, List.Perm.swap .., ?_⟩
    refine wk_f rfl (f_extract rfl rfl) ?_
    refine wk_f rfl (f_extract rfl rfl) ?_
    refine wk_f rfl (f_assign rfl) ?_
    refine wk_f rfl (f_assign rfl) ?_
    refine wk_endp [(6, _), (7, _)] [1] ⟨rfl, rfl, trivial⟩ rfl ?_
    refine w_ret ?_
    refine ⟨_, _, fun a ha hh => results_tmps Try.results61 rfl a ha _, List.Sublist.refl _, ?_⟩
    exact .inr ⟨A, x, a, B, rfl, rfl, hH⟩

/-- The value of a node. -/
def ValAt {α : Type} (K : VK α) (l : List (Nat × α)) (node : Int) (u : Value) : Prop :=
  (isAt node (nodes l) = false ∧ u = .tuple #[K.val K.zero, .int .i64 8]) ∨ ∃ A y a B, l = A ++ (y, a) :: B ∧ node = (y : Nat) ∧ u = .tuple #[K.val a, .int .i64 0]

set_option maxHeartbeats 1000000 in
theorem iValue_spec (b n : Nat) (l : List (Nat × Int)) (node : Int) (r : Res) (w : World) (hr : ChR kInt b n l r) (hs : Holds w r.foot [r] w) :
    Spec Try.prog 63 [.pointer (some ⟨b, 0, .none⟩), .int .i64 node] w r.foot fun u H => H = [r] ∧ ValAt kInt l node u := by
  refine enter (n := 19) Try.func63 rfl rfl [(0, _), (1, _)] rfl ⟨rfl, rfl, trivial⟩ hs ?_
  refine w_seq ?_
  refine w_reg ?_
  refine wl_f (f_assign rfl) ?_
  refine wl_f (f_assign rfl) ?_
  refine wl_end [(0, _), (1, _)] ⟨rfl, rfl, trivial⟩ ?_
  refine w_seq ?_
  refine w_seq ?_
  refine w_reg ?_
  refine wl_f (f_move rfl) ?_
  refine wl_f (f_move rfl) ?_
  refine wl_e (e_call1 r [] rfl Try.func70 (by kernel_rfl) (List.Perm.refl _) (fun w hh hs => ihas_spec b n l r node w hr hs)) ?_
  rintro _ _ w1 ⟨_, rfl, rfl, rfl⟩
  refine wl_f (f_not rfl rfl) ?_
  refine wl_end [(0, _), (1, _), (10, _)] ⟨rfl, rfl, rfl, trivial⟩ ?_
  refine w_ifb rfl (fun hc1 => ?_) (fun hc1 => ?_)
  · skip
    refine w_seq ?_
    refine w_reg ?_
    refine wl_f (f_assign rfl) ?_
    refine wl_end [(6, _)] ⟨rfl, trivial⟩ ?_
    refine w_seq ?_
    refine w_reg ?_
    refine wl_f (f_move rfl) ?_
    refine wl_f (f_assign rfl) ?_
    refine wl_f (f_assign rfl) ?_
    refine wl_end [(4, _), (5, _)] ⟨rfl, rfl, trivial⟩ ?_
    refine w_ret ?_
    refine ⟨_, _, fun a ha hh => results_tmps Try.results63 rfl a ha _, List.Sublist.refl _, ?_⟩
    exact ⟨rfl, .inl ⟨not_isAt hc1, rfl⟩⟩
  · skip
    obtain ⟨x, rfl, hx⟩ := isAt_some (is_isAt hc1)
    obtain ⟨A, a, B, rfl⟩ := split_node hx
    obtain ⟨uV, nV, pV, vV, used, nx, pv, vs, rfl, hc⟩ := id hr
    have hlt := hc.atlt
    refine w_with fun hh => ?_
    obtain ⟨g, cap, e⟩ := rowB_form hh (i := 0) (j := 4) rfl rfl (by omega)
    subst e
    clear hh
    refine w_skip ?_
    refine w_seq ?_
    refine w_reg ?_
    refine wl_f (f_move rfl) ?_
    refine wl_f (f_nilCheck rfl) ?_
    refine wl_f (f_fieldAddr 7 rfl Try.underlying133 rfl rfl (by kernel_rfl)) ?_
    refine wl_f (f_loadB 0 0 rfl rfl rfl Try.underlying22 rfl rfl) ?_
    refine wl_f (f_move rfl) ?_
    refine wl_f (f_indexAddr 1 (i := x) rfl rfl Try.underlying22 (by kernel_rfl) rfl hlt) ?_
    refine wl_f (f_loadBr1 (v := .int .i64 a) 0 4 rfl rfl rfl Try.underlying3 rfl (vcells_get kInt kInt_len hc.at)) ?_
    refine wl_f (f_assign rfl) ?_
    refine wl_f (f_assign rfl) ?_
    refine wl_end [(4, _), (5, _)] ⟨rfl, rfl, trivial⟩ ?_
    refine w_ret ?_
    refine ⟨_, _, fun a ha hh => results_tmps Try.results63 rfl a ha _, List.Sublist.refl _, ?_⟩
    exact ⟨rfl, .inr ⟨A, x, a, B, rfl, rfl, rfl⟩⟩

set_option maxHeartbeats 1000000 in
theorem bValue_spec (b n : Nat) (l : List (Nat × (Nat × Option Nat))) (node : Int) (r : Res) (w : World) (hr : ChR kBuc b n l r) (hs : Holds w r.foot [r] w) :
    Spec Try.prog 52 [.pointer (some ⟨b, 0, .none⟩), .int .i64 node] w r.foot fun u H => H = [r] ∧ ValAt kBuc l node u := by
  refine enter (n := 19) Try.func52 rfl rfl [(0, _), (1, _)] rfl ⟨rfl, rfl, trivial⟩ hs ?_
  refine w_seq ?_
  refine w_reg ?_
  refine wl_e (e_allocs [.int .u64 0, .pointer .none] (by kernel_rfl)) ?_
  rintro _ _ w0_0 ⟨b0_0, rfl, rfl⟩
  refine wl_f (f_assign rfl) ?_
  refine wl_end [(0, _), (1, _), (4, _)] ⟨rfl, rfl, rfl, trivial⟩ ?_
  refine w_seq ?_
  refine w_seq ?_
  refine w_reg ?_
  refine wl_f (f_move rfl) ?_
  refine wl_f (f_move rfl) ?_
  refine wl_e (e_call1 r [_] rfl Try.func69 (by kernel_rfl) (List.Perm.swap ..) (fun w hh hs => bhas_spec b n l r node w hr hs)) ?_
  rintro _ _ w1 ⟨_, rfl, rfl, rfl⟩
  refine wl_f (f_not rfl rfl) ?_
  refine wl_end [(0, _), (1, _), (4, _), (10, _)] ⟨rfl, rfl, rfl, rfl, trivial⟩ ?_
  refine w_ifb rfl (fun hc1 => ?_) (fun hc1 => ?_)
  · skip
    refine w_seq ?_
    refine w_reg ?_
    refine wl_e (e_allocs [.int .u64 0, .pointer .none] (by kernel_rfl)) ?_
    rintro _ _ w2_0 ⟨b2_0, rfl, rfl⟩
    refine wl_end [(4, _), (6, _)] ⟨rfl, rfl, trivial⟩ ?_
    refine w_seq ?_
    refine w_reg ?_
    (first | refine wl_f (f_loadsb (cs := [_, _]) 0 rfl Try.underlying89 rfl (by kernel_rfl) rfl rfl) ?_ | refine wl_f (f_loadsb (cs := [_, _]) 1 rfl Try.underlying89 rfl (by kernel_rfl) rfl rfl) ?_ | refine wl_f (f_loadsb (cs := [_, _]) 2 rfl Try.underlying89 rfl (by kernel_rfl) rfl rfl) ?_ | refine wl_f (f_loadsb (cs := [_, _]) 3 rfl Try.underlying89 rfl (by kernel_rfl) rfl rfl) ?_ | refine wl_f (f_loadsb (cs := [_, _]) 4 rfl Try.underlying89 rfl (by kernel_rfl) rfl rfl) ?_ | refine wl_f (f_loadsb (cs := [_, _]) 5 rfl Try.underlying89 rfl (by kernel_rfl) rfl rfl) ?_ | refine wl_f (f_loadsb (cs := [_, _]) 6 rfl Try.underlying89 rfl (by kernel_rfl) rfl rfl) ?_)
    (first | refine wl_e0 (e_store0 (us := [_, _]) rfl rfl rfl (by kernel_rfl) (by simp [Value.oneCell']) rfl rfl) ?_ | refine wl_e0 (e_store1 (us := [_, _]) rfl rfl rfl (by kernel_rfl) (by simp [Value.oneCell']) rfl rfl) ?_ | refine wl_e0 (e_store2 (us := [_, _]) rfl rfl rfl (by kernel_rfl) (by simp [Value.oneCell']) rfl rfl) ?_ | refine wl_e0 (e_store3 (us := [_, _]) rfl rfl rfl (by kernel_rfl) (by simp [Value.oneCell']) rfl rfl) ?_)
    rintro _ _ w3_1 rfl
    refine wl_f (f_assign rfl) ?_
    refine wl_end [(4, _), (5, _)] ⟨rfl, rfl, trivial⟩ ?_
    refine w_ret ?_
    refine ⟨_, _, fun a ha hh => results_mix Try.results52 (rm_cell (cell_agg 2 rfl Try.underlying89 rfl (by kernel_rfl) rfl) (rm_tmp rfl rm_nil)) a ha _ hh, (List.Sublist.refl [_]).cons _ |>.trans (List.sublist_append_left [_, _] [_]), ?_⟩
    exact ⟨rfl, .inl ⟨not_isAt hc1, rfl⟩⟩
  · skip
    obtain ⟨x, rfl, hx⟩ := isAt_some (is_isAt hc1)
    obtain ⟨A, a, B, rfl⟩ := split_node hx
    obtain ⟨uV, nV, pV, vV, used, nx, pv, vs, rfl, hc⟩ := id hr
    have hlt := hc.atlt
    refine w_with fun hh => ?_
    obtain ⟨g, cap, e⟩ := rowB_form hh (i := 0) (j := 4) rfl rfl (by omega)
    subst e
    clear hh
    refine w_skip ?_
    refine w_seq ?_
    refine w_reg ?_
    refine wl_f (f_move rfl) ?_
    refine wl_f (f_nilCheck rfl) ?_
    refine wl_f (f_fieldAddr 7 rfl Try.underlying118 rfl rfl (by kernel_rfl)) ?_
    refine wl_f (f_loadB 0 0 rfl rfl rfl Try.underlying116 rfl rfl) ?_
    refine wl_f (f_move rfl) ?_
    refine wl_f (f_indexAddr 2 (i := x) rfl rfl Try.underlying116 (by kernel_rfl) rfl hlt) ?_
    refine wl_f (f_loadsBr (cs := kBuc.cells a) 0 4 rfl rfl rfl Try.underlying89 rfl (by kernel_rfl) (vcells_get kBuc kBuc_len hc.at)) ?_
    (first | refine wl_e0 (e_store0 (us := [_, _]) rfl rfl rfl (by kernel_rfl) (by simp [Value.oneCell']) rfl rfl) ?_ | refine wl_e0 (e_store1 (us := [_, _]) rfl rfl rfl (by kernel_rfl) (by simp [Value.oneCell']) rfl rfl) ?_ | refine wl_e0 (e_store2 (us := [_, _]) rfl rfl rfl (by kernel_rfl) (by simp [Value.oneCell']) rfl rfl) ?_ | refine wl_e0 (e_store3 (us := [_, _]) rfl rfl rfl (by kernel_rfl) (by simp [Value.oneCell']) rfl rfl) ?_)
    rintro _ _ w4_7 rfl
    refine wl_f (f_assign rfl) ?_
    refine wl_end [(4, _), (5, _)] ⟨rfl, rfl, trivial⟩ ?_
    refine w_ret ?_
    refine ⟨_, _, fun a ha hh => results_mix Try.results52 (rm_cell (cell_agg 1 rfl Try.underlying89 rfl (by kernel_rfl) rfl) (rm_tmp rfl rm_nil)) a ha _ hh, List.sublist_append_left [_] [_], ?_⟩
    exact ⟨rfl, .inr ⟨A, x, a, B, rfl, rfl, rfl⟩⟩
end Go.Proofs.Ytbcfdgnpdaaleaa
