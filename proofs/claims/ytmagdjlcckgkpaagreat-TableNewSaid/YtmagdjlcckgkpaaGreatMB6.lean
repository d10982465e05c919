/- Texts of this proof, part MB6: what the code does, step by step. They have no conditions. -/
import Derived.Test.YtmagdjlcckgkpaaGreatMB5
import Derived.Test.YtmagdjlcckgkpaaGreatMB2
import Derived.Test.YtmagdjlcckgkpaaGreatProg
/- Linked lists: nodes behind a node, buckets at the front, the value of a node. -/
namespace Go.Proofs.YtmagdjlcckgkpaaGreat
open Go.RowKit

theorem bPushFront_spec (b n : Nat) (l : List (Nat × (Nat × Option Nat))) (v : Nat × Option Nat) (r : Res) (w : World) (hn : n ≤ 8192) (hr : ChR kBuc b n l r) (hs : Holds w r.foot [r] w) :
    Spec Tryz.prog 111 [.pointer (some ⟨b, 0, .none⟩), kBuc.val v] w r.foot fun u H => NewAt kBuc b n [] l v r u H := by
  obtain ⟨uV, nV, pV, vV, used, nx, pv, vs, rfl, hc⟩ := id hr
  refine enter (n := 17) Tryz.func111 rfl rfl [(0, _), (1, _)] rfl ⟨rfl, rfl, trivial⟩ hs ?_
  refine w_seq (w_reg (wl_e (e_box (cs := [_, _]) rfl rfl) ?_))
  rintro _ _ w0_0 ⟨b0_0, rfl, rfl⟩
  refine wl_f (f_assign rfl) (wl_f (f_assign rfl) (wl_end [(0, _), (3, _)] ⟨rfl, rfl, trivial⟩ ?_))
  refine w_seq (w_seq (w_reg (wl_f (f_move rfl) (wl_f (f_eqlnil rfl rfl Tryz.underlying111) ?_))))
  refine wl_end [(0, _), (3, _), (7, _)] ⟨rfl, rfl, rfl, trivial⟩ ?_
  refine w_iff rfl ?_
  refine w_skip ?_
  refine w_seq ?_
  refine w_drawk [(0, true), (1, true), (2, true), (3, true), (4, true), (5, true), (6, false), (7, true), (8, true), (9, true), (10, true)] ([(_, some 6), (_, none)]) ([]) mixed (by kernel_rfl) (by kernel_rfl) rfl rfl ((List.Perm.swap ..).trans (perm_all _)) (fun w3_ => ?_)
  refine wk_f rfl (f_move rfl) (wk_f rfl (f_move rfl) (wk_f rfl (f_nilCheck rfl) (wk_f rfl (f_fieldAddr 2 rfl Tryz.underlying131 rfl rfl (by kernel_rfl)) ?_)))
  refine wk_f rfl (f_loadB 0 0 rfl rfl rfl Tryz.underlying3 rfl rfl) ?_
  refine wk_f rfl (f_loadsb (cs := [_, _]) 1 rfl Tryz.underlying116 rfl (by kernel_rfl) rfl rfl) ?_
  refine wk_e rfl (e_call1 (bun (chs kBuc b n l uV nV pV vV used nx pv vs)) [_] rfl Tryz.func122 (by kernel_rfl) (List.Perm.refl _) (fun w hh hs => binsert_spec b n [] l v _ w hn hr hs)) ?_
  rintro u _ w1 ⟨H1, rfl, hH⟩
  obtain ⟨u1, u2, r2, rfl, rfl⟩ : ∃ u1 u2 r2, u = .tuple [u1, u2].toArray ∧ H1 = [r2] := by
    rcases hH with ⟨_, rfl, rfl⟩ | ⟨_, x, r', _, rfl, rfl, _⟩
    · exact ⟨_, _, _, rfl, rfl⟩
    · exact ⟨_, _, _, rfl, rfl⟩
  refine ⟨_, List.Perm.swap .., ?_⟩
  refine wk_f rfl (f_extract rfl rfl) ?_
  refine wk_f rfl (f_extract rfl rfl) ?_
  refine wk_f rfl (f_assign rfl) (wk_f rfl (f_assign rfl) (wk_endp [(4, _), (5, _)] [1] ⟨rfl, rfl, trivial⟩ rfl ?_))
  refine w_ret ?_
  refine ⟨_, _, fun a ha hh => results_tmps Tryz.results111 rfl a ha _, List.Sublist.refl _, ?_⟩
  exact hH

/-- What a node behind another one leaves. -/
def BehindG {α : Type} (R : List (Nat × α) → Res → Prop) (n : Nat) (l : List (Nat × α)) (node : Int) (v : α) (r : Res) (u : Value) (H : List Res) : Prop :=
  (isAt node (nodes l) = false ∧ u = .tuple #[.int .i64 0, .int .i64 8] ∧ H = [r]) ∨ ∃ A y a B, l = A ++ (y, a) :: B ∧ node = (y : Nat) ∧ NewG R n (A ++ [(y, a)]) B v r u H
abbrev NewBehind {α : Type} (K : VK α) (b n : Nat) (l : List (Nat × α)) (node : Int) (v : α) (r : Res) (u : Value) (H : List Res) : Prop := BehindG (ChR K b n) n l node v r u H
theorem nodes_snoc_rev {α : Type} (A : List (Nat × α)) (y : Nat) (a : α) : hdE (-1) (nodes (A ++ [(y, a)])).reverse = y := by simp [nodes, hdE]


set_option maxHeartbeats 1000000 in
theorem bInsertAfter_spec (b n : Nat) (l : List (Nat × (Nat × Option Nat))) (node : Int) (v : Nat × Option Nat) (r : Res) (w : World) (hn : n ≤ 8192) (hr : ChR kBuc b n l r) (hs : Holds w r.foot [r] w) :
    Spec Tryz.prog 112 [.pointer (some ⟨b, 0, .none⟩), .int .i64 node, kBuc.val v] w r.foot fun u H => NewBehind kBuc b n l node v r u H := by
  refine enter (n := 25) Tryz.func112 rfl rfl [(0, _), (1, _), (2, _)] rfl ⟨rfl, rfl, rfl, trivial⟩ hs ?_
  refine w_seq (w_reg (wl_e (e_box (cs := [_, _]) rfl rfl) ?_))
  rintro _ _ w0_0 ⟨b0_0, rfl, rfl⟩
  refine wl_f (f_assign rfl) (wl_f (f_assign rfl) (wl_end [(0, _), (1, _), (5, _)] ⟨rfl, rfl, rfl, trivial⟩ ?_))
  refine w_seq (w_seq (w_reg (wl_f (f_move rfl) (wl_f (f_move rfl) (wl_e (e_call1 r [_] rfl Tryz.func120 (by kernel_rfl) (List.Perm.swap ..) (fun w hh hs => bhas_spec b n l r node w hr hs)) ?_)))))
  rintro _ _ w1 ⟨_, rfl, rfl, rfl⟩
  refine wl_f (f_not rfl rfl) ?_
  refine wl_end [(0, _), (1, _), (5, _), (11, _)] ⟨rfl, rfl, rfl, rfl, trivial⟩ ?_
  refine w_ifb rfl (fun hc1 => ?_) (fun hc1 => ?_)
  · skip
    refine w_seq (w_reg (wl_f (f_assign rfl) (wl_f (f_assign rfl) (wl_end [(6, _), (7, _)] ⟨rfl, rfl, trivial⟩ ?_))))
    refine w_pick [0] rfl ?_
    refine w_ret ?_
    refine ⟨_, _, fun a ha hh => results_tmps Tryz.results112 rfl a ha _, List.Sublist.refl _, ?_⟩
    exact .inl ⟨not_isAt hc1, rfl, rfl⟩
  · skip
    obtain ⟨x, rfl, hx⟩ := isAt_some (is_isAt hc1)
    obtain ⟨A, a, B, rfl⟩ := split_node hx
    have hr' : ChR kBuc b n ((A ++ [(x, a)]) ++ B) r := by simpa using hr
    obtain ⟨uV, nV, pV, vV, used, nx, pv, vs, rfl, hc⟩ := id hr
    have hlt := hc.atlt
    refine w_with fun hh => ?_
    obtain ⟨g, cap, e⟩ := rowB_form hh (i := 0) (j := 2) rfl rfl (by omega)
    subst e
    clear hh
    refine w_skip ?_
    refine w_seq ?_
    refine w_drawk [(0, true), (1, true), (2, true), (3, true), (4, true), (5, true), (6, true), (7, true), (8, true), (9, true), (10, false), (11, true), (12, true), (13, true), (14, true)] ([(_, some 10), (_, none)]) ([]) mixed (by kernel_rfl) (by kernel_rfl) rfl rfl (perm_all _) (fun w3_ => ?_)
    refine wk_f rfl (f_move rfl) (wk_f rfl (f_move rfl) (wk_f rfl (f_move rfl) (wk_f rfl (f_nilCheck rfl) (wk_f rfl (f_fieldAddr 5 rfl Tryz.underlying131 rfl rfl (by kernel_rfl)) ?_))))
    refine wk_f rfl (f_loadB 0 0 rfl rfl rfl Tryz.underlying22 rfl rfl) ?_
    refine wk_f rfl (f_move rfl) (wk_f rfl (f_indexAddr 1 (i := x) rfl rfl Tryz.underlying22 (by kernel_rfl) rfl hlt) ?_)
    refine wk_f rfl (f_loadBr (v := .int .i64 (hdE (-1) (nodes B))) 0 2 rfl rfl rfl Tryz.underlying3 rfl (map_get (Value.int .i64) hc.next)) ?_
    refine wk_f rfl (f_loadsb (cs := [_, _]) 1 rfl Tryz.underlying116 rfl (by kernel_rfl) rfl rfl) ?_
    refine wk_e rfl (e_call1 _ [_] rfl Tryz.func122 (by kernel_rfl) (List.Perm.refl _) (fun w hh hs => by have h := binsert_spec b n (A ++ [(x, a)]) B v _ w hn hr' hs; rw [nodes_snoc_rev] at h; exact h)) ?_
    rintro u _ w1 ⟨H1, rfl, hH⟩
    obtain ⟨u1, u2, r2, rfl, rfl⟩ : ∃ u1 u2 r2, u = .tuple [u1, u2].toArray ∧ H1 = [r2] := by
      rcases hH with ⟨_, rfl, rfl⟩ | ⟨_, x, r', _, rfl, rfl, _⟩
      · exact ⟨_, _, _, rfl, rfl⟩
      · exact ⟨_, _, _, rfl, rfl⟩
    refine ⟨_, List.Perm.swap .., ?_⟩
    refine wk_f rfl (f_extract rfl rfl) ?_
    refine wk_f rfl (f_extract rfl rfl) ?_
    refine wk_f rfl (f_assign rfl) (wk_f rfl (f_assign rfl) (wk_endp [(6, _), (7, _)] [1] ⟨rfl, rfl, trivial⟩ rfl ?_))
    refine w_ret ?_
    refine ⟨_, _, fun a ha hh => results_tmps Tryz.results112 rfl a ha _, List.Sublist.refl _, ?_⟩
    exact .inr ⟨A, x, a, B, rfl, rfl, hH⟩

/-- The value of a node. -/
def ValAt {α : Type} (K : VK α) (l : List (Nat × α)) (node : Int) (u : Value) : Prop :=
  (isAt node (nodes l) = false ∧ u = .tuple #[K.val K.zero, .int .i64 8]) ∨ ∃ A y a B, l = A ++ (y, a) :: B ∧ node = (y : Nat) ∧ u = .tuple #[K.val a, .int .i64 0]

set_option maxHeartbeats 1000000 in
theorem iValue_spec (b n : Nat) (l : List (Nat × Int)) (node : Int) (r : Res) (w : World) (hr : ChR kInt b n l r) (hs : Holds w r.foot [r] w) :
    Spec Tryz.prog 114 [.pointer (some ⟨b, 0, .none⟩), .int .i64 node] w r.foot fun u H => H = [r] ∧ ValAt kInt l node u := by
  refine enter (n := 19) Tryz.func114 rfl rfl [(0, _), (1, _)] rfl ⟨rfl, rfl, trivial⟩ hs ?_
  refine w_seq (w_reg (wl_f (f_assign rfl) (wl_f (f_assign rfl) (wl_end [(0, _), (1, _)] ⟨rfl, rfl, trivial⟩ ?_))))
  refine w_seq (w_seq (w_reg (wl_f (f_move rfl) (wl_f (f_move rfl) (wl_e (e_call1 r [] rfl Tryz.func121 (by kernel_rfl) (List.Perm.refl _) (fun w hh hs => ihas_spec b n l r node w hr hs)) ?_)))))
  rintro _ _ w1 ⟨_, rfl, rfl, rfl⟩
  refine wl_f (f_not rfl rfl) ?_
  refine wl_end [(0, _), (1, _), (10, _)] ⟨rfl, rfl, rfl, trivial⟩ ?_
  refine w_ifb rfl (fun hc1 => ?_) (fun hc1 => ?_)
  · skip
    refine w_seq (w_reg (wl_f (f_assign rfl) (wl_end [(6, _)] ⟨rfl, trivial⟩ ?_)))
    refine w_seq (w_reg (wl_f (f_move rfl) (wl_f (f_assign rfl) (wl_f (f_assign rfl) (wl_end [(4, _), (5, _)] ⟨rfl, rfl, trivial⟩ ?_)))))
    refine w_ret ?_
    refine ⟨_, _, fun a ha hh => results_tmps Tryz.results114 rfl a ha _, List.Sublist.refl _, ?_⟩
    exact ⟨rfl, .inl ⟨not_isAt hc1, rfl⟩⟩
  · skip
    obtain ⟨x, rfl, hx⟩ := isAt_some (is_isAt hc1)
    obtain ⟨A, a, B, rfl⟩ := split_node hx
    obtain ⟨uV, nV, pV, vV, used, nx, pv, vs, rfl, hc⟩ := id hr
    have hlt := hc.atlt
    refine w_with fun hh => ?_
    obtain ⟨g, cap, e⟩ := rowB_form hh (i := 0) (j := 4) rfl rfl (by omega)
    subst e
    clear hh
    refine w_skip ?_
    refine w_seq (w_reg (wl_f (f_move rfl) (wl_f (f_nilCheck rfl) (wl_f (f_fieldAddr 7 rfl Tryz.underlying182 rfl rfl (by kernel_rfl)) ?_))))
    refine wl_f (f_loadB 0 0 rfl rfl rfl Tryz.underlying22 rfl rfl) ?_
    refine wl_f (f_move rfl) (wl_f (f_indexAddr 1 (i := x) rfl rfl Tryz.underlying22 (by kernel_rfl) rfl hlt) ?_)
    refine wl_f (f_loadBr1 (v := .int .i64 a) 0 4 rfl rfl rfl Tryz.underlying3 rfl (vcells_get kInt kInt_len hc.at)) ?_
    refine wl_f (f_assign rfl) (wl_f (f_assign rfl) (wl_end [(4, _), (5, _)] ⟨rfl, rfl, trivial⟩ ?_))
    refine w_ret ?_
    refine ⟨_, _, fun a ha hh => results_tmps Tryz.results114 rfl a ha _, List.Sublist.refl _, ?_⟩
    exact ⟨rfl, .inr ⟨A, x, a, B, rfl, rfl, rfl⟩⟩

set_option maxHeartbeats 1000000 in
theorem bValue_spec (b n : Nat) (l : List (Nat × (Nat × Option Nat))) (node : Int) (r : Res) (w : World) (hr : ChR kBuc b n l r) (hs : Holds w r.foot [r] w) :
    Spec Tryz.prog 103 [.pointer (some ⟨b, 0, .none⟩), .int .i64 node] w r.foot fun u H => H = [r] ∧ ValAt kBuc l node u := by
  refine enter (n := 19) Tryz.func103 rfl rfl [(0, _), (1, _)] rfl ⟨rfl, rfl, trivial⟩ hs ?_
  refine w_seq (w_reg (wl_e (e_allocs [.int .u64 0, .pointer .none] (by kernel_rfl)) ?_))
  rintro _ _ w0_0 ⟨b0_0, rfl, rfl⟩
  refine wl_f (f_assign rfl) (wl_end [(0, _), (1, _), (4, _)] ⟨rfl, rfl, rfl, trivial⟩ ?_)
  refine w_seq (w_seq (w_reg (wl_f (f_move rfl) (wl_f (f_move rfl) (wl_e (e_call1 r [_] rfl Tryz.func120 (by kernel_rfl) (List.Perm.swap ..) (fun w hh hs => bhas_spec b n l r node w hr hs)) ?_)))))
  rintro _ _ w1 ⟨_, rfl, rfl, rfl⟩
  refine wl_f (f_not rfl rfl) ?_
  refine wl_end [(0, _), (1, _), (4, _), (10, _)] ⟨rfl, rfl, rfl, rfl, trivial⟩ ?_
  refine w_ifb rfl (fun hc1 => ?_) (fun hc1 => ?_)
  · skip
    refine w_seq (w_reg (wl_e (e_allocs [.int .u64 0, .pointer .none] (by kernel_rfl)) ?_))
    rintro _ _ w2_0 ⟨b2_0, rfl, rfl⟩
    refine wl_end [(4, _), (6, _)] ⟨rfl, rfl, trivial⟩ ?_
    refine w_seq (w_reg (wl_f (f_loadsb (cs := [_, _]) 0 rfl Tryz.underlying116 rfl (by kernel_rfl) rfl rfl) ?_))
    refine wl_e0 (e_store2 (us := [_, _]) rfl rfl rfl (by kernel_rfl) (by simp [Value.oneCell']) rfl rfl) ?_
    rintro _ _ w3_1 rfl
    refine wl_f (f_assign rfl) (wl_end [(4, _), (5, _)] ⟨rfl, rfl, trivial⟩ ?_)
    refine w_ret ?_
    refine ⟨_, _, fun a ha hh => results_mix Tryz.results103 (rm_cell (cell_agg 2 rfl Tryz.underlying116 rfl (by kernel_rfl) rfl) (rm_tmp rfl rm_nil)) a ha _ hh, (List.Sublist.refl [_]).cons _ |>.trans (List.sublist_append_left [_, _] [_]), ?_⟩
    exact ⟨rfl, .inl ⟨not_isAt hc1, rfl⟩⟩
  · skip
    obtain ⟨x, rfl, hx⟩ := isAt_some (is_isAt hc1)
    obtain ⟨A, a, B, rfl⟩ := split_node hx
    obtain ⟨uV, nV, pV, vV, used, nx, pv, vs, rfl, hc⟩ := id hr
    have hlt := hc.atlt
    refine w_with fun hh => ?_
    obtain ⟨g, cap, e⟩ := rowB_form hh (i := 0) (j := 4) rfl rfl (by omega)
    subst e
    clear hh
    refine w_skip ?_
    refine w_seq (w_reg (wl_f (f_move rfl) (wl_f (f_nilCheck rfl) (wl_f (f_fieldAddr 7 rfl Tryz.underlying131 rfl rfl (by kernel_rfl)) ?_))))
    refine wl_f (f_loadB 0 0 rfl rfl rfl Tryz.underlying129 rfl rfl) ?_
    refine wl_f (f_move rfl) (wl_f (f_indexAddr 2 (i := x) rfl rfl Tryz.underlying129 (by kernel_rfl) rfl hlt) ?_)
    refine wl_f (f_loadsBr (cs := kBuc.cells a) 0 4 rfl rfl rfl Tryz.underlying116 rfl (by kernel_rfl) (vcells_get kBuc kBuc_len hc.at)) ?_
    refine wl_e0 (e_store1 (us := [_, _]) rfl rfl rfl (by kernel_rfl) (by simp [Value.oneCell']) rfl rfl) ?_
    rintro _ _ w4_7 rfl
    refine wl_f (f_assign rfl) (wl_end [(4, _), (5, _)] ⟨rfl, rfl, trivial⟩ ?_)
    refine w_ret ?_
    refine ⟨_, _, fun a ha hh => results_mix Tryz.results103 (rm_cell (cell_agg 1 rfl Tryz.underlying116 rfl (by kernel_rfl) rfl) (rm_tmp rfl rm_nil)) a ha _ hh, List.sublist_append_left [_] [_], ?_⟩
    exact ⟨rfl, .inr ⟨A, x, a, B, rfl, rfl, rfl⟩⟩
end Go.Proofs.YtmagdjlcckgkpaaGreat

/- Linked lists: a node is taken out; all values. -/
namespace Go.Proofs.YtmagdjlcckgkpaaGreat
open Go.RowKit

/-- What is left where a node is taken out. -/
def RemG {α : Type} (K : VK α) (R : List (Nat × α) → Res → Prop) (l : List (Nat × α)) (node : Int) (r : Res) (u : Value) (H : List Res) : Prop :=
  (isAt node (nodes l) = false ∧ u = .tuple #[K.val K.zero, .int .i64 8] ∧ H = [r]) ∨ ∃ A y a B r', l = A ++ (y, a) :: B ∧ node = (y : Nat) ∧ u = .tuple #[K.val a, .int .i64 0] ∧ H = [r'] ∧ R (A ++ B) r'
abbrev RemAt {α : Type} (K : VK α) (b n : Nat) (l : List (Nat × α)) (node : Int) (r : Res) (u : Value) (H : List Res) : Prop := RemG K (ChR K b n) l node r u H

theorem vcells_set' {α : Type} (K : VK α) (hK : ∀ a, (K.cells a).length = K.sz) {l : List α} {x : Nat} (a : α) (hx : x < l.length) :
    (vcells K l).take (0 + x * K.sz) ++ K.cells a ++ (vcells K l).drop (0 + x * K.sz + (K.cells a).length) = vcells K (l.set x a) := by
  rw [hK]; exact vcells_set K hK a hx

set_option maxHeartbeats 4000000 in
theorem iRemove_spec (b n : Nat) (l : List (Nat × Int)) (node : Int) (r : Res) (w : World) (hn : n ≤ 8192) (hr : ChR kInt b n l r) (hs : Holds w r.foot [r] w) :
    Spec Tryz.prog 105 [.pointer (some ⟨b, 0, .none⟩), .int .i64 node] w r.foot fun u H => RemAt kInt b n l node r u H := by
  refine enter (n := 83) Tryz.func105 rfl rfl [(0, _), (1, _)] rfl ⟨rfl, rfl, trivial⟩ hs ?_
  refine w_seq (w_reg (wl_f (f_assign rfl) (wl_f (f_assign rfl) (wl_end [(0, _), (1, _)] ⟨rfl, rfl, trivial⟩ ?_))))
  refine w_seq (w_reg (wl_f (f_assign rfl) (wl_end [(0, _), (1, _), (6, _)] ⟨rfl, rfl, rfl, trivial⟩ ?_)))
  refine w_seq (w_seq (w_reg (wl_f (f_move rfl) (wl_f (f_move rfl) (wl_e (e_call1 r [] rfl Tryz.func121 (by kernel_rfl) (List.Perm.refl _) (fun w hh hs => ihas_spec b n l r node w hr hs)) ?_)))))
  rintro _ _ w1 ⟨_, rfl, rfl, rfl⟩
  refine wl_f (f_not rfl rfl) ?_
  refine wl_end [(0, _), (1, _), (6, _), (13, _)] ⟨rfl, rfl, rfl, rfl, trivial⟩ ?_
  refine w_ifb rfl (fun hc1 => ?_) (fun hc1 => ?_)
  · skip
    refine w_seq (w_reg (wl_f (f_move rfl) (wl_f (f_assign rfl) (wl_f (f_assign rfl) (wl_end [(4, _), (5, _)] ⟨rfl, rfl, trivial⟩ ?_)))))
    refine w_ret ?_
    refine ⟨_, _, fun a ha hh => results_tmps Tryz.results105 rfl a ha _, List.Sublist.refl _, ?_⟩
    exact .inl ⟨not_isAt hc1, rfl, rfl⟩
  · skip
    obtain ⟨x, rfl, hx⟩ := isAt_some (is_isAt hc1)
    obtain ⟨A, a, B, rfl⟩ := split_node hx
    obtain ⟨uV, nV, pV, vV, used, nx, pv, vs, rfl, hc⟩ := id hr
    have hlt := hc.atlt
    have hle := hc.le
    have hlx := hc.lx
    have hlp := hc.lp
    have hlv := hc.lv
    have hvl := vcells_len kInt kInt_len vs
    have hln := hc.len
    have hxn := hc.next
    have hxp := hc.prev
    have hnd := hc.nd
    have hl1 : (A ++ (x, a) :: B).length = A.length + B.length + 1 := by simp; omega
    refine w_unb (H := []) (chs kInt b n _ uV nV pV vV used nx pv vs) ?_
    refine w_with fun hh => ?_
    obtain ⟨g1, c1, rfl⟩ := row_form hh (i := 1) rfl (by omega)
    obtain ⟨g2, c2, rfl⟩ := row_form hh (i := 2) rfl (by omega)
    obtain ⟨g3, c3, rfl⟩ := row_form hh (i := 3) rfl (by omega)
    obtain ⟨g4, c4, rfl⟩ := row_form hh (i := 4) rfl (by omega)
    clear hh
    refine w_skip ?_
    refine w_seq ?_
    refine w_draw [(0, true), (1, true), (2, true), (3, true), (4, true), (5, true), (6, true), (7, true), (8, true), (9, true), (10, true), (11, true), (12, true), (13, true), (14, true), (15, true), (16, true), (17, true), (18, true), (19, true), (20, true), (21, true), (22, true), (23, true)] (_) ([]) mixed (by kernel_rfl) (by kernel_rfl) rfl (perm_all _) (fun w4_ => ?_)
    refine wd_f rfl (f_move rfl) (wd_f rfl (f_nilCheck rfl) (wd_f rfl (f_fieldAddr 7 rfl Tryz.underlying182 rfl rfl (by kernel_rfl)) ?_))
    refine wd_f rfl (f_loadb 0 rfl Tryz.underlying22 rfl rfl rfl) ?_
    refine wd_f rfl (f_move rfl) (wd_f rfl (f_indexAddr 1 (i := x) rfl rfl Tryz.underlying22 (by kernel_rfl) rfl hlt) ?_)
    refine wd_f rfl (f_loadr1 (v := .int .i64 a) 4 rfl Tryz.underlying3 rfl rfl (vcells_get kInt kInt_len hc.at)) ?_
    refine wd_f rfl (f_move rfl) (wd_f rfl (f_nilCheck rfl) (wd_f rfl (f_fieldAddr 6 rfl Tryz.underlying182 rfl rfl (by kernel_rfl)) ?_))
    refine wd_f rfl (f_loadb 0 rfl Tryz.underlying22 rfl rfl rfl) ?_
    refine wd_f rfl (f_move rfl) (wd_f rfl (f_indexAddr 1 (i := x) rfl rfl Tryz.underlying22 (by kernel_rfl) rfl hlt) ?_)
    refine wd_f rfl (f_loadr (v := .int .i64 (hdE (-1) (nodes A).reverse)) 3 rfl Tryz.underlying3 rfl rfl (map_get (Value.int .i64) hxp)) ?_
    refine wd_f rfl (f_move rfl) (wd_f rfl (f_nilCheck rfl) (wd_f rfl (f_fieldAddr 5 rfl Tryz.underlying182 rfl rfl (by kernel_rfl)) ?_))
    refine wd_f rfl (f_loadb 0 rfl Tryz.underlying22 rfl rfl rfl) ?_
    refine wd_f rfl (f_move rfl) (wd_f rfl (f_indexAddr 1 (i := x) rfl rfl Tryz.underlying22 (by kernel_rfl) rfl hlt) ?_)
    refine wd_f rfl (f_loadr (v := .int .i64 (hdE (-1) (nodes B))) 2 rfl Tryz.underlying3 rfl rfl (map_get (Value.int .i64) hxn)) ?_
    refine wd_f rfl (f_assign rfl) (wd_f rfl (f_assign rfl) (wd_f rfl (f_assign rfl) (wd_end [(0, _), (1, _), (6, _), (7, _), (8, _), (9, _)] ⟨rfl, rfl, rfl, rfl, rfl, rfl, trivial⟩ ?_)))
    refine w_seq (w_seq (w_reg (wl_f (f_move rfl) (wl_f (f_eql rfl rfl) ?_))))
    refine wl_end [(0, _), (1, _), (6, _), (7, _), (8, _), (9, _), (37, _)] ⟨rfl, rfl, rfl, rfl, rfl, rfl, rfl, trivial⟩ ?_
    refine w_post (fun m H w' => m = [(0, .pointer (some ⟨b, 0, .none⟩)), (1, .int .i64 x), (6, .int .i64 0), (7, .int .i64 a), (8, .int .i64 (hdE (-1) (nodes A).reverse)), (9, .int .i64 (hdE (-1) (nodes B)))] ∧
      H = [blk b [.int .i64 (n : Int), .int .i64 ((A ++ (x, a) :: B).length : Int), .int .i64 (hdE (-1) (nodes (A ++ B))), .int .i64 (hdE (-1) (nodes (A ++ (x, a) :: B)).reverse), .slice (some ⟨g1, 0, .none⟩) used.length c1, .slice (some ⟨g2, 0, .none⟩) used.length c2, .slice (some ⟨g3, 0, .none⟩) used.length c3, .slice (some ⟨g4, 0, .none⟩) used.length c4] kInt.list,
        row (.slice (some ⟨g1, 0, .none⟩) used.length c1) 4 1 used.length (bov used), row (.slice (some ⟨g2, 0, .none⟩) used.length c2) 3 1 used.length (iv (setLast nx (nodes A) (hdE (-1) (nodes B)))),
        row (.slice (some ⟨g3, 0, .none⟩) used.length c3) 3 1 used.length (iv pv), row (.slice (some ⟨g4, 0, .none⟩) used.length c4) kInt.elem kInt.sz used.length (vcells kInt vs)]) ?_ ?_
    · skip
      refine w_ifd rfl (fun hc2 => ?_) (fun hc2 => ?_)
      · skip
        have hA : A = [] := by simpa using hdE_nil hc2
        subst hA
        refine w_reg (wl_f (f_move rfl) (wl_f (f_move rfl) (wl_f (f_nilCheck rfl) (wl_f (f_fieldAddr 2 rfl Tryz.underlying182 rfl rfl (by kernel_rfl)) ?_))))
        refine wl_e0 (e_store0 (us := [_]) rfl rfl rfl (by kernel_rfl) (by simp [Value.oneCell']) rfl rfl) ?_
        rintro _ _ w6_4 rfl
        refine wl_end [(0, _), (1, _), (6, _), (7, _), (8, _), (9, _)] ⟨rfl, rfl, rfl, rfl, rfl, rfl, trivial⟩ ?_
        exact ⟨rfl, rfl⟩
      · skip
        obtain ⟨y, t, hA⟩ := hdE_cons hc2
        have hal : y < used.length := hc.lt y (by
          have : y ∈ (nodes A).reverse := by rw [hA]; simp
          rw [nodes, List.map_append]
          exact List.mem_append_left _ (List.mem_reverse.1 this))
        have hA2 : hdE (-1) (nodes (A ++ (x, a) :: B)) = hdE (-1) (nodes (A ++ B)) := by
          cases A with
          | nil => simp at hA
          | cons p A => rfl
        refine w_reg (wl_f (f_move rfl) (wl_f (f_nilCheck rfl) (wl_f (f_fieldAddr 5 rfl Tryz.underlying182 rfl rfl (by kernel_rfl)) ?_)))
        refine wl_f (f_loadb 0 rfl Tryz.underlying22 rfl rfl rfl) ?_
        refine wl_f (f_move rfl) (wl_f (f_move rfl) (wl_f (f_indexAddr 1 (i := y) rfl rfl Tryz.underlying22 (by kernel_rfl) (by rw [hA]; rfl) hal) ?_))
        refine wl_e0 (e_storerN 2 (us := [_]) (xs' := iv (nx.set y (hdE (-1) (nodes B)))) rfl rfl rfl rfl (by kernel_rfl) (by simp [Value.oneCell']) (by simp [iv]; omega) (map_set (Value.int .i64) _ (by omega))) ?_
        rintro _ _ w7_7 rfl
        refine wl_end [(0, _), (1, _), (6, _), (7, _), (8, _), (9, _)] ⟨rfl, rfl, rfl, rfl, rfl, rfl, trivial⟩ ?_
        exact ⟨rfl, by rw [setLast_cons hA, ← hA2]; rfl⟩
    · rintro _ _ w ⟨rfl, rfl⟩
      refine w_seq (w_seq (w_reg (wl_f (f_move rfl) (wl_f (f_eql rfl rfl) ?_))))
      refine wl_end [(0, _), (1, _), (6, _), (7, _), (8, _), (9, _), (50, _)] ⟨rfl, rfl, rfl, rfl, rfl, rfl, rfl, trivial⟩ ?_
      refine w_post (fun m H w' => m = [(0, .pointer (some ⟨b, 0, .none⟩)), (1, .int .i64 x), (6, .int .i64 0), (7, .int .i64 a)] ∧
        H = [blk b [.int .i64 (n : Int), .int .i64 ((A ++ (x, a) :: B).length : Int), .int .i64 (hdE (-1) (nodes (A ++ B))), .int .i64 (hdE (-1) (nodes (A ++ B)).reverse), .slice (some ⟨g1, 0, .none⟩) used.length c1, .slice (some ⟨g2, 0, .none⟩) used.length c2, .slice (some ⟨g3, 0, .none⟩) used.length c3, .slice (some ⟨g4, 0, .none⟩) used.length c4] kInt.list,
          row (.slice (some ⟨g1, 0, .none⟩) used.length c1) 4 1 used.length (bov used), row (.slice (some ⟨g2, 0, .none⟩) used.length c2) 3 1 used.length (iv (setLast nx (nodes A) (hdE (-1) (nodes B)))),
          row (.slice (some ⟨g3, 0, .none⟩) used.length c3) 3 1 used.length (iv (setLast pv (nodes B).reverse (hdE (-1) (nodes A).reverse))), row (.slice (some ⟨g4, 0, .none⟩) used.length c4) kInt.elem kInt.sz used.length (vcells kInt vs)]) ?_ ?_
      · skip
        refine w_ifd rfl (fun hc3 => ?_) (fun hc3 => ?_)
        · skip
          have hB : B = [] := by simpa using hdE_nil hc3
          subst hB
          refine w_reg (wl_f (f_move rfl) (wl_f (f_move rfl) (wl_f (f_nilCheck rfl) (wl_f (f_fieldAddr 3 rfl Tryz.underlying182 rfl rfl (by kernel_rfl)) ?_))))
          refine wl_e0 (e_store0 (us := [_]) rfl rfl rfl (by kernel_rfl) (by simp [Value.oneCell']) rfl rfl) ?_
          rintro _ _ w9_4 rfl
          refine wl_end [(0, _), (1, _), (6, _), (7, _)] ⟨rfl, rfl, rfl, rfl, trivial⟩ ?_
          have e : hdE (-1) (nodes A).reverse = hdE (-1) (nodes (A ++ [])).reverse := by rw [List.append_nil]
          exact ⟨rfl, by rw [← e]; rfl⟩
        · skip
          obtain ⟨y, t, hB⟩ := hdE_cons hc3
          have hal : y < used.length := hc.lt y (by
            have : y ∈ nodes B := by rw [hB]; simp
            rw [nodes_split]
            exact List.mem_append_right _ (List.mem_cons_of_mem _ this))
          have hB2 : hdE (-1) (nodes (A ++ (x, a) :: B)).reverse = hdE (-1) (nodes (A ++ B)).reverse := by
            rcases List.eq_nil_or_concat B with rfl | ⟨B', p, rfl⟩
            · simp at hB
            · simp [hdE]
          refine w_reg (wl_f (f_move rfl) (wl_f (f_nilCheck rfl) (wl_f (f_fieldAddr 6 rfl Tryz.underlying182 rfl rfl (by kernel_rfl)) ?_)))
          refine wl_f (f_loadb 0 rfl Tryz.underlying22 rfl rfl rfl) ?_
          refine wl_f (f_move rfl) (wl_f (f_move rfl) (wl_f (f_indexAddr 1 (i := y) rfl rfl Tryz.underlying22 (by kernel_rfl) (by rw [hB]; rfl) hal) ?_))
          refine wl_e0 (e_storerN 3 (us := [_]) (xs' := iv (pv.set y (hdE (-1) (nodes A).reverse))) rfl rfl rfl rfl (by kernel_rfl) (by simp [Value.oneCell']) (by simp [iv]; omega) (map_set (Value.int .i64) _ (by omega))) ?_
          rintro _ _ w10_7 rfl
          refine wl_end [(0, _), (1, _), (6, _), (7, _)] ⟨rfl, rfl, rfl, rfl, trivial⟩ ?_
          exact ⟨rfl, by rw [setLast_cons (N := (nodes B).reverse) (by rw [List.reverse_reverse]; exact hB), ← hB2]; rfl⟩
      · rintro _ _ w ⟨rfl, rfl⟩
        refine w_seq ?_
        refine w_draw [(0, true), (1, true), (2, true), (3, true), (4, true), (5, true), (6, true), (7, true), (8, true), (9, true), (10, true), (11, true), (12, false), (13, true), (14, false)] ([_]) ([_, _, _, _]) mixed (by kernel_rfl) (by kernel_rfl) rfl (List.Perm.refl _) (fun w11_ => ?_)
        refine wd_f rfl (f_move rfl) (wd_f rfl (f_nilCheck rfl) (wd_f rfl (f_fieldAddr 4 rfl Tryz.underlying182 rfl rfl (by kernel_rfl)) ?_))
        refine wd_f rfl (f_loadb 0 rfl Tryz.underlying128 rfl rfl rfl) ?_
        refine wd_f rfl (f_move rfl) (wd_f rfl (f_move rfl) (wd_f rfl (f_nilCheck rfl) (wd_f rfl (f_fieldAddr 7 rfl Tryz.underlying182 rfl rfl (by kernel_rfl)) ?_)))
        refine wd_f rfl (f_loadb 0 rfl Tryz.underlying22 rfl rfl rfl) ?_
        refine wd_f rfl (f_move rfl) (wd_f rfl (f_move rfl) (wd_f rfl (f_indexAddr 1 (i := x) rfl rfl Tryz.underlying128 (by kernel_rfl) rfl hlt) ?_))
        refine wd_e0 rfl (e_storerN 1 (us := [_]) (xs' := bov (used.set x false)) rfl rfl rfl rfl (by kernel_rfl) (by simp [Value.oneCell']) (by simp [bov]; omega) (map_set Value.bool false hlt)) ?_
        rintro _ _ w11_12 rfl
        refine ⟨_, List.Perm.refl _, ?_⟩
        refine wd_f rfl (f_indexAddr 1 (i := x) rfl rfl Tryz.underlying22 (by kernel_rfl) rfl hlt) ?_
        refine wd_e0 rfl (e_storerN 4 (us := [_]) (xs' := vcells kInt (vs.set x 0)) rfl rfl rfl rfl (by kernel_rfl) (by simp [Value.oneCell']) (by rw [hvl]; show 0 + x * 1 + 1 ≤ vs.length * 1; omega) (vcells_set kInt kInt_len 0 (by omega))) ?_
        rintro _ _ w11_14 rfl
        refine ⟨_, List.Perm.refl _, ?_⟩
        refine wd_end [(0, _), (7, _)] ⟨rfl, rfl, trivial⟩ ?_
        refine w_seq (w_reg (wl_f (f_move rfl) (wl_f (f_nilCheck rfl) (wl_f (f_fieldAddr 1 rfl Tryz.underlying182 rfl rfl (by kernel_rfl)) ?_))))
        refine wl_f (f_loadb 0 rfl Tryz.underlying3 rfl rfl rfl) ?_
        refine wl_f (f_sub rfl rfl (by omega)) ?_
        refine wl_f (f_nilCheck rfl) (wl_f (f_fieldAddr 1 rfl Tryz.underlying182 rfl rfl (by kernel_rfl)) ?_)
        refine wl_e0 (e_store0 (us := [_]) rfl rfl rfl (by kernel_rfl) (by simp [Value.oneCell']) rfl rfl) ?_
        rintro _ _ w12_7 rfl
        refine wl_end [(7, _)] ⟨rfl, trivial⟩ ?_
        refine w_seq (w_reg (wl_f (f_move rfl) (wl_f (f_assign rfl) (wl_f (f_assign rfl) (wl_end [(4, _), (5, _)] ⟨rfl, rfl, trivial⟩ ?_)))))
        refine w_bun (H := []) [_, _, _, _, _] ?_
        refine w_ret ?_
        refine ⟨_, _, fun a ha hh => results_tmps Tryz.results105 rfl a ha _, List.Sublist.refl _, ?_⟩
        refine .inr ⟨A, x, a, B, _, rfl, rfl, rfl, rfl, .slice (some ⟨g1, 0, .none⟩) used.length c1, .slice (some ⟨g2, 0, .none⟩) used.length c2, .slice (some ⟨g3, 0, .none⟩) used.length c3, .slice (some ⟨g4, 0, .none⟩) used.length c4, _, _, _, _, ?_, hc.remove (z := 0)⟩
        have e1 : ((A ++ B).length : Int) = ((A ++ (x, a) :: B).length : Int) - 1 := by rw [hl1, List.length_append]; omega
        rw [chs, List.length_set, e1]
        rfl
set_option maxHeartbeats 4000000 in
theorem bRemove_spec (b n : Nat) (l : List (Nat × (Nat × Option Nat))) (node : Int) (r : Res) (w : World) (hn : n ≤ 8192) (hr : ChR kBuc b n l r) (hs : Holds w r.foot [r] w) :
    Spec Tryz.prog 107 [.pointer (some ⟨b, 0, .none⟩), .int .i64 node] w r.foot fun u H => RemAt kBuc b n l node r u H := by
  refine enter (n := 83) Tryz.func107 rfl rfl [(0, _), (1, _)] rfl ⟨rfl, rfl, trivial⟩ hs ?_
  refine w_seq (w_reg (wl_e (e_allocs [.int .u64 0, .pointer .none] (by kernel_rfl)) ?_))
  rintro _ _ w0_0 ⟨b0_0, rfl, rfl⟩
  refine wl_f (f_assign rfl) (wl_end [(0, _), (1, _), (4, _)] ⟨rfl, rfl, rfl, trivial⟩ ?_)
  refine w_seq (w_reg (wl_e (e_allocs [.int .u64 0, .pointer .none] (by kernel_rfl)) ?_))
  rintro _ _ w1_0 ⟨b1_0, rfl, rfl⟩
  refine wl_end [(0, _), (1, _), (4, _), (6, _)] ⟨rfl, rfl, rfl, rfl, trivial⟩ ?_
  refine w_seq (w_seq (w_reg (wl_f (f_move rfl) (wl_f (f_move rfl) (wl_e (e_call1 r [_, _] rfl Tryz.func120 (by kernel_rfl) (pk1 2 rfl) (fun w hh hs => bhas_spec b n l r node w hr hs)) ?_)))))
  rintro _ _ w1 ⟨_, rfl, rfl, rfl⟩
  refine wl_f (f_not rfl rfl) ?_
  refine wl_end [(0, _), (1, _), (4, _), (6, _), (13, _)] ⟨rfl, rfl, rfl, rfl, rfl, trivial⟩ ?_
  refine w_ifb rfl (fun hc1 => ?_) (fun hc1 => ?_)
  · skip
    refine w_seq (w_reg (wl_f (f_loadsb (cs := [_, _]) 1 rfl Tryz.underlying116 rfl (by kernel_rfl) rfl rfl) ?_))
    refine wl_e0 (e_store2 (us := [_, _]) rfl rfl rfl (by kernel_rfl) (by simp [Value.oneCell']) rfl rfl) ?_
    rintro _ _ w3_1 rfl
    refine wl_f (f_assign rfl) (wl_end [(4, _), (5, _)] ⟨rfl, rfl, trivial⟩ ?_)
    refine w_ret ?_
    refine ⟨_, _, fun a ha hh => results_mix Tryz.results107 (rm_cell (cell_agg 2 rfl Tryz.underlying116 rfl (by kernel_rfl) rfl) (rm_tmp rfl rm_nil)) a ha _ hh, List.sublist_append_left [_] [_, _], ?_⟩
    exact .inl ⟨not_isAt hc1, rfl, rfl⟩
  · skip
    obtain ⟨x, rfl, hx⟩ := isAt_some (is_isAt hc1)
    obtain ⟨A, a, B, rfl⟩ := split_node hx
    obtain ⟨uV, nV, pV, vV, used, nx, pv, vs, rfl, hc⟩ := id hr
    have hlt := hc.atlt
    have hle := hc.le
    have hlx := hc.lx
    have hlp := hc.lp
    have hlv := hc.lv
    have hvl := vcells_len kBuc kBuc_len vs
    have hln := hc.len
    have hxn := hc.next
    have hxp := hc.prev
    have hnd := hc.nd
    have hl1 : (A ++ (x, a) :: B).length = A.length + B.length + 1 := by simp; omega
    refine w_unb (H := [_, _]) (chs kBuc b n _ uV nV pV vV used nx pv vs) ?_
    refine w_with fun hh => ?_
    obtain ⟨g1, c1, rfl⟩ := row_form hh (i := 1) rfl (by omega)
    obtain ⟨g2, c2, rfl⟩ := row_form hh (i := 2) rfl (by omega)
    obtain ⟨g3, c3, rfl⟩ := row_form hh (i := 3) rfl (by omega)
    obtain ⟨g4, c4, rfl⟩ := row_form hh (i := 4) rfl (by omega)
    clear hh
    refine w_skip ?_
    refine w_seq ?_
    refine w_draw [(0, true), (1, true), (2, true), (3, true), (4, true), (5, true), (6, true), (7, true), (8, true), (9, true), (10, true), (11, true), (12, true), (13, true), (14, true), (15, true), (16, true), (17, true), (18, true), (19, true), (20, true), (21, false), (22, false), (23, true), (24, true)] ([_, _, _, _, _, _, _]) ([]) mixed (by kernel_rfl) (by kernel_rfl) rfl (perm_all _) (fun w4_ => ?_)
    refine wd_f rfl (f_move rfl) (wd_f rfl (f_nilCheck rfl) (wd_f rfl (f_fieldAddr 7 rfl Tryz.underlying131 rfl rfl (by kernel_rfl)) ?_))
    refine wd_f rfl (f_loadb 0 rfl Tryz.underlying129 rfl rfl rfl) ?_
    refine wd_f rfl (f_move rfl) (wd_f rfl (f_indexAddr 2 (i := x) rfl rfl Tryz.underlying129 (by kernel_rfl) rfl hlt) ?_)
    refine wd_f rfl (f_loadsr (cs := kBuc.cells a) 4 rfl Tryz.underlying116 rfl (by kernel_rfl) rfl (vcells_get kBuc kBuc_len hc.at)) ?_
    refine wd_f rfl (f_move rfl) (wd_f rfl (f_nilCheck rfl) (wd_f rfl (f_fieldAddr 6 rfl Tryz.underlying131 rfl rfl (by kernel_rfl)) ?_))
    refine wd_f rfl (f_loadb 0 rfl Tryz.underlying22 rfl rfl rfl) ?_
    refine wd_f rfl (f_move rfl) (wd_f rfl (f_indexAddr 1 (i := x) rfl rfl Tryz.underlying22 (by kernel_rfl) rfl hlt) ?_)
    refine wd_f rfl (f_loadr (v := .int .i64 (hdE (-1) (nodes A).reverse)) 3 rfl Tryz.underlying3 rfl rfl (map_get (Value.int .i64) hxp)) ?_
    refine wd_f rfl (f_move rfl) (wd_f rfl (f_nilCheck rfl) (wd_f rfl (f_fieldAddr 5 rfl Tryz.underlying131 rfl rfl (by kernel_rfl)) ?_))
    refine wd_f rfl (f_loadb 0 rfl Tryz.underlying22 rfl rfl rfl) ?_
    refine wd_f rfl (f_move rfl) (wd_f rfl (f_indexAddr 1 (i := x) rfl rfl Tryz.underlying22 (by kernel_rfl) rfl hlt) ?_)
    refine wd_f rfl (f_loadr (v := .int .i64 (hdE (-1) (nodes B))) 2 rfl Tryz.underlying3 rfl rfl (map_get (Value.int .i64) hxn)) ?_
    refine wd_e rfl (e_allocs [.int .u64 0, .pointer .none] (by kernel_rfl)) ?_
    rintro _ _ w4_21 ⟨b4_21, rfl, rfl⟩
    refine ⟨_, List.perm_middle.symm, ?_⟩
    refine wd_e0 rfl (e_storeN 7 (us := [_, _]) rfl rfl rfl rfl (by kernel_rfl) (by simp [Value.oneCell']) rfl rfl) ?_
    rintro _ _ w4_22 rfl
    refine ⟨_, List.Perm.refl _, ?_⟩
    refine wd_f rfl (f_assign rfl) (wd_f rfl (f_assign rfl) (wd_end [(0, _), (1, _), (4, _), (6, _), (7, _), (8, _), (9, _)] ⟨rfl, rfl, rfl, rfl, rfl, rfl, rfl, trivial⟩ ?_))
    refine w_seq (w_seq (w_reg (wl_f (f_move rfl) (wl_f (f_eql rfl rfl) ?_))))
    refine wl_end [(0, _), (1, _), (4, _), (6, _), (7, _), (8, _), (9, _), (37, _)] ⟨rfl, rfl, rfl, rfl, rfl, rfl, rfl, rfl, trivial⟩ ?_
    refine w_post (fun m H w' => m = [(0, .pointer (some ⟨b, 0, .none⟩)), (1, .int .i64 x), (4, .pointer (some ⟨b0_0, 0, .none⟩)), (6, .pointer (some ⟨b1_0, 0, .none⟩)), (7, .pointer (some ⟨b4_21, 0, .none⟩)), (8, .int .i64 (hdE (-1) (nodes A).reverse)), (9, .int .i64 (hdE (-1) (nodes B)))] ∧
      H = [blk b [.int .i64 (n : Int), .int .i64 ((A ++ (x, a) :: B).length : Int), .int .i64 (hdE (-1) (nodes (A ++ B))), .int .i64 (hdE (-1) (nodes (A ++ (x, a) :: B)).reverse), .slice (some ⟨g1, 0, .none⟩) used.length c1, .slice (some ⟨g2, 0, .none⟩) used.length c2, .slice (some ⟨g3, 0, .none⟩) used.length c3, .slice (some ⟨g4, 0, .none⟩) used.length c4] kBuc.list,
        row (.slice (some ⟨g1, 0, .none⟩) used.length c1) 4 1 used.length (bov used), row (.slice (some ⟨g2, 0, .none⟩) used.length c2) 3 1 used.length (iv (setLast nx (nodes A) (hdE (-1) (nodes B)))),
        row (.slice (some ⟨g3, 0, .none⟩) used.length c3) 3 1 used.length (iv pv), row (.slice (some ⟨g4, 0, .none⟩) used.length c4) kBuc.elem kBuc.sz used.length (vcells kBuc vs), blk b1_0 [.int .u64 0, .pointer .none] 116, blk b0_0 [.int .u64 0, .pointer .none] 116, blk b4_21 (kBuc.cells a) 116]) ?_ ?_
    · skip
      refine w_ifd rfl (fun hc2 => ?_) (fun hc2 => ?_)
      · skip
        have hA : A = [] := by simpa using hdE_nil hc2
        subst hA
        refine w_reg (wl_f (f_move rfl) (wl_f (f_move rfl) (wl_f (f_nilCheck rfl) (wl_f (f_fieldAddr 2 rfl Tryz.underlying131 rfl rfl (by kernel_rfl)) ?_))))
        refine wl_e0 (e_store0 (us := [_]) rfl rfl rfl (by kernel_rfl) (by simp [Value.oneCell']) rfl rfl) ?_
        rintro _ _ w6_4 rfl
        refine wl_end [(0, _), (1, _), (4, _), (6, _), (7, _), (8, _), (9, _)] ⟨rfl, rfl, rfl, rfl, rfl, rfl, rfl, trivial⟩ ?_
        exact ⟨rfl, rfl⟩
      · skip
        obtain ⟨y, t, hA⟩ := hdE_cons hc2
        have hal : y < used.length := hc.lt y (by
          have : y ∈ (nodes A).reverse := by rw [hA]; simp
          rw [nodes, List.map_append]
          exact List.mem_append_left _ (List.mem_reverse.1 this))
        have hA2 : hdE (-1) (nodes (A ++ (x, a) :: B)) = hdE (-1) (nodes (A ++ B)) := by
          cases A with
          | nil => simp at hA
          | cons p A => rfl
        refine w_reg (wl_f (f_move rfl) (wl_f (f_nilCheck rfl) (wl_f (f_fieldAddr 5 rfl Tryz.underlying131 rfl rfl (by kernel_rfl)) ?_)))
        refine wl_f (f_loadb 0 rfl Tryz.underlying22 rfl rfl rfl) ?_
        refine wl_f (f_move rfl) (wl_f (f_move rfl) (wl_f (f_indexAddr 1 (i := y) rfl rfl Tryz.underlying22 (by kernel_rfl) (by rw [hA]; rfl) hal) ?_))
        refine wl_e0 (e_storerN 2 (us := [_]) (xs' := iv (nx.set y (hdE (-1) (nodes B)))) rfl rfl rfl rfl (by kernel_rfl) (by simp [Value.oneCell']) (by simp [iv]; omega) (map_set (Value.int .i64) _ (by omega))) ?_
        rintro _ _ w7_7 rfl
        refine wl_end [(0, _), (1, _), (4, _), (6, _), (7, _), (8, _), (9, _)] ⟨rfl, rfl, rfl, rfl, rfl, rfl, rfl, trivial⟩ ?_
        exact ⟨rfl, by rw [setLast_cons hA, ← hA2]; rfl⟩
    · rintro _ _ w ⟨rfl, rfl⟩
      refine w_seq (w_seq (w_reg (wl_f (f_move rfl) (wl_f (f_eql rfl rfl) ?_))))
      refine wl_end [(0, _), (1, _), (4, _), (6, _), (7, _), (8, _), (9, _), (50, _)] ⟨rfl, rfl, rfl, rfl, rfl, rfl, rfl, rfl, trivial⟩ ?_
      refine w_post (fun m H w' => m = [(0, .pointer (some ⟨b, 0, .none⟩)), (1, .int .i64 x), (4, .pointer (some ⟨b0_0, 0, .none⟩)), (6, .pointer (some ⟨b1_0, 0, .none⟩)), (7, .pointer (some ⟨b4_21, 0, .none⟩))] ∧
        H = [blk b [.int .i64 (n : Int), .int .i64 ((A ++ (x, a) :: B).length : Int), .int .i64 (hdE (-1) (nodes (A ++ B))), .int .i64 (hdE (-1) (nodes (A ++ B)).reverse), .slice (some ⟨g1, 0, .none⟩) used.length c1, .slice (some ⟨g2, 0, .none⟩) used.length c2, .slice (some ⟨g3, 0, .none⟩) used.length c3, .slice (some ⟨g4, 0, .none⟩) used.length c4] kBuc.list,
          row (.slice (some ⟨g1, 0, .none⟩) used.length c1) 4 1 used.length (bov used), row (.slice (some ⟨g2, 0, .none⟩) used.length c2) 3 1 used.length (iv (setLast nx (nodes A) (hdE (-1) (nodes B)))),
          row (.slice (some ⟨g3, 0, .none⟩) used.length c3) 3 1 used.length (iv (setLast pv (nodes B).reverse (hdE (-1) (nodes A).reverse))), row (.slice (some ⟨g4, 0, .none⟩) used.length c4) kBuc.elem kBuc.sz used.length (vcells kBuc vs), blk b1_0 [.int .u64 0, .pointer .none] 116, blk b0_0 [.int .u64 0, .pointer .none] 116, blk b4_21 (kBuc.cells a) 116]) ?_ ?_
      · skip
        refine w_ifd rfl (fun hc3 => ?_) (fun hc3 => ?_)
        · skip
          have hB : B = [] := by simpa using hdE_nil hc3
          subst hB
          refine w_reg (wl_f (f_move rfl) (wl_f (f_move rfl) (wl_f (f_nilCheck rfl) (wl_f (f_fieldAddr 3 rfl Tryz.underlying131 rfl rfl (by kernel_rfl)) ?_))))
          refine wl_e0 (e_store0 (us := [_]) rfl rfl rfl (by kernel_rfl) (by simp [Value.oneCell']) rfl rfl) ?_
          rintro _ _ w9_4 rfl
          refine wl_end [(0, _), (1, _), (4, _), (6, _), (7, _)] ⟨rfl, rfl, rfl, rfl, rfl, trivial⟩ ?_
          have e : hdE (-1) (nodes A).reverse = hdE (-1) (nodes (A ++ [])).reverse := by rw [List.append_nil]
          exact ⟨rfl, by rw [← e]; rfl⟩
        · skip
          obtain ⟨y, t, hB⟩ := hdE_cons hc3
          have hal : y < used.length := hc.lt y (by
            have : y ∈ nodes B := by rw [hB]; simp
            rw [nodes_split]
            exact List.mem_append_right _ (List.mem_cons_of_mem _ this))
          have hB2 : hdE (-1) (nodes (A ++ (x, a) :: B)).reverse = hdE (-1) (nodes (A ++ B)).reverse := by
            rcases List.eq_nil_or_concat B with rfl | ⟨B', p, rfl⟩
            · simp at hB
            · simp [hdE]
          refine w_reg (wl_f (f_move rfl) (wl_f (f_nilCheck rfl) (wl_f (f_fieldAddr 6 rfl Tryz.underlying131 rfl rfl (by kernel_rfl)) ?_)))
          refine wl_f (f_loadb 0 rfl Tryz.underlying22 rfl rfl rfl) ?_
          refine wl_f (f_move rfl) (wl_f (f_move rfl) (wl_f (f_indexAddr 1 (i := y) rfl rfl Tryz.underlying22 (by kernel_rfl) (by rw [hB]; rfl) hal) ?_))
          refine wl_e0 (e_storerN 3 (us := [_]) (xs' := iv (pv.set y (hdE (-1) (nodes A).reverse))) rfl rfl rfl rfl (by kernel_rfl) (by simp [Value.oneCell']) (by simp [iv]; omega) (map_set (Value.int .i64) _ (by omega))) ?_
          rintro _ _ w10_7 rfl
          refine wl_end [(0, _), (1, _), (4, _), (6, _), (7, _)] ⟨rfl, rfl, rfl, rfl, rfl, trivial⟩ ?_
          exact ⟨rfl, by rw [setLast_cons (N := (nodes B).reverse) (by rw [List.reverse_reverse]; exact hB), ← hB2]; rfl⟩
      · rintro _ _ w ⟨rfl, rfl⟩
        refine w_seq ?_
        refine w_draw [(0, true), (1, true), (2, true), (3, true), (4, true), (5, true), (6, true), (7, true), (8, true), (9, true), (10, true), (11, true), (12, false), (13, true), (14, false)] ([_, _]) ([_, _, _, _, _, _]) mixed (by kernel_rfl) (by kernel_rfl) rfl (pick_perm [0, 4] _ rfl) (fun w11_ => ?_)
        refine wd_f rfl (f_move rfl) (wd_f rfl (f_nilCheck rfl) (wd_f rfl (f_fieldAddr 4 rfl Tryz.underlying131 rfl rfl (by kernel_rfl)) ?_))
        refine wd_f rfl (f_loadb 0 rfl Tryz.underlying128 rfl rfl rfl) ?_
        refine wd_f rfl (f_move rfl) (wd_f rfl (f_move rfl) (wd_f rfl (f_nilCheck rfl) (wd_f rfl (f_fieldAddr 7 rfl Tryz.underlying131 rfl rfl (by kernel_rfl)) ?_)))
        refine wd_f rfl (f_loadb 0 rfl Tryz.underlying129 rfl rfl rfl) ?_
        refine wd_f rfl (f_move rfl) (wd_f rfl (f_loadsb (cs := [_, _]) 1 rfl Tryz.underlying116 rfl (by kernel_rfl) rfl rfl) ?_)
        refine wd_f rfl (f_indexAddr 1 (i := x) rfl rfl Tryz.underlying128 (by kernel_rfl) rfl hlt) ?_
        refine wd_e0 rfl (e_storerN 2 (us := [_]) (xs' := bov (used.set x false)) rfl rfl rfl rfl (by kernel_rfl) (by simp [Value.oneCell']) (by simp [bov]; omega) (map_set Value.bool false hlt)) ?_
        rintro _ _ w11_12 rfl
        refine ⟨_, List.Perm.refl _, ?_⟩
        refine wd_f rfl (f_indexAddr 2 (i := x) rfl rfl Tryz.underlying129 (by kernel_rfl) rfl hlt) ?_
        refine wd_e0 rfl (e_storerN 5 (us := [_, _]) (xs' := vcells kBuc (vs.set x kBuc.zero)) rfl rfl rfl rfl (by kernel_rfl) (by simp [Value.oneCell']) (by rw [hvl]; show 0 + x * 2 + 2 ≤ vs.length * 2; omega) (vcells_set kBuc kBuc_len kBuc.zero (by omega))) ?_
        rintro _ _ w11_14 rfl
        refine ⟨_, List.Perm.refl _, ?_⟩
        refine wd_endp [(0, _), (4, _), (7, _)] [0, 1, 1, 1, 1, 1, 1] ⟨rfl, rfl, rfl, trivial⟩ rfl ?_
        refine w_seq (w_reg (wl_f (f_move rfl) (wl_f (f_nilCheck rfl) (wl_f (f_fieldAddr 1 rfl Tryz.underlying131 rfl rfl (by kernel_rfl)) ?_))))
        refine wl_f (f_loadb 0 rfl Tryz.underlying3 rfl rfl rfl) ?_
        refine wl_f (f_sub rfl rfl (by omega)) ?_
        refine wl_f (f_nilCheck rfl) (wl_f (f_fieldAddr 1 rfl Tryz.underlying131 rfl rfl (by kernel_rfl)) ?_)
        refine wl_e0 (e_store0 (us := [_]) rfl rfl rfl (by kernel_rfl) (by simp [Value.oneCell']) rfl rfl) ?_
        rintro _ _ w12_7 rfl
        refine wl_end [(4, _), (7, _)] ⟨rfl, rfl, trivial⟩ ?_
        refine w_seq (w_reg (wl_f (f_loadsb (cs := [_, _]) 6 rfl Tryz.underlying116 rfl (by kernel_rfl) rfl rfl) ?_))
        refine wl_e0 (e_storeN 5 (us := [_, _]) rfl rfl rfl rfl (by kernel_rfl) (by simp [Value.oneCell']) rfl rfl) ?_
        rintro _ _ w13_1 rfl
        refine wl_f (f_assign rfl) (wl_end [(4, _), (5, _)] ⟨rfl, rfl, trivial⟩ ?_)
        refine w_bun (H := [_, _]) [_, _, _, _, _] ?_
        refine w_ret ?_
        refine ⟨_, _, fun a ha hh => results_mix Tryz.results107 (rm_cell (cell_agg 1 rfl Tryz.underlying116 rfl (by kernel_rfl) rfl) (rm_tmp rfl rm_nil)) a ha _ hh, List.sublist_append_left [_] [_, _], ?_⟩
        refine .inr ⟨A, x, a, B, _, rfl, rfl, rfl, rfl, .slice (some ⟨g1, 0, .none⟩) used.length c1, .slice (some ⟨g2, 0, .none⟩) used.length c2, .slice (some ⟨g3, 0, .none⟩) used.length c3, .slice (some ⟨g4, 0, .none⟩) used.length c4, _, _, _, _, ?_, hc.remove (z := kBuc.zero)⟩
        have e1 : ((A ++ B).length : Int) = ((A ++ (x, a) :: B).length : Int) - 1 := by rw [hl1, List.length_append]; omega
        rw [chs, List.length_set, e1]
        rfl
end Go.Proofs.YtmagdjlcckgkpaaGreat

/- Linked lists: what the answers say. -/
namespace Go.Proofs.YtmagdjlcckgkpaaGreat
open Go.RowKit

section
variable {α : Type} {R : List (Nat × α) → Res → Prop} {K : VK α} {n : Nat} {A B : List (Nat × α)} {v a : α} {r : Res} {u : Value} {H : List Res} {y : Nat}
theorem NewG.ok (h : NewG R n A B v r u H) (hn : (A ++ B).length ≠ n) (x : Nat) (hx : Fresh (nodes (A ++ B)) x) : ∃ r', u = .tuple #[.int .i64 x, .int .i64 0] ∧ H = [r'] ∧ R (A ++ (x, v) :: B) r' := by
  rcases h with ⟨h, _⟩ | ⟨_, x', r', hx', rfl, rfl, hr⟩
  · exact absurd h hn
  · obtain rfl := hx.uniq hx'
    exact ⟨r', rfl, rfl, hr⟩
theorem isAt_split (A B : List (Nat × α)) (y : Nat) (a : α) : isAt (y : Int) (nodes (A ++ (y, a) :: B)) = true := by rw [isAt_nat, nodes_split]; simp
theorem BehindG.ok (h : BehindG R n (A ++ (y, a) :: B) y v r u H) (hnd : (nodes (A ++ (y, a) :: B)).Nodup) : NewG R n (A ++ [(y, a)]) B v r u H := by
  rcases h with ⟨h, _⟩ | ⟨A', y', a', B', he, hy, h⟩
  · rw [isAt_split] at h; cases h
  · obtain rfl : y = y' := by omega
    obtain ⟨rfl, rfl, rfl⟩ := node_uniq hnd he
    exact h
theorem RemG.ok (h : RemG K R (A ++ (y, a) :: B) y r u H) (hnd : (nodes (A ++ (y, a) :: B)).Nodup) : ∃ r', u = .tuple #[K.val a, .int .i64 0] ∧ H = [r'] ∧ R (A ++ B) r' := by
  rcases h with ⟨h, _⟩ | ⟨A', y', a', B', r', he, hy, rfl, rfl, hr⟩
  · rw [isAt_split] at h; cases h
  · obtain rfl : y = y' := by omega
    obtain ⟨rfl, rfl, rfl⟩ := node_uniq hnd he
    exact ⟨r', rfl, rfl, hr⟩
end

section
variable {α : Type} {R : List (Nat × α) → Res → Prop} {K : VK α} {n : Nat} {A B l : List (Nat × α)} {v a : α} {r : Res} {u : Value} {H : List Res} {y : Nat} {node : Int}
theorem NewG.some (h : NewG R n A B v r u H) (hr : R (A ++ B) r) : ∃ l' r', H = [r'] ∧ R l' r' := by
  rcases h with ⟨_, _, rfl⟩ | ⟨_, x, r', _, _, rfl, h⟩
  · exact ⟨_, _, rfl, hr⟩
  · exact ⟨_, _, rfl, h⟩
theorem BehindG.some (h : BehindG R n l node v r u H) (hr : R l r) : ∃ l' r', H = [r'] ∧ R l' r' := by
  rcases h with ⟨_, _, rfl⟩ | ⟨A, y, a, B, rfl, _, h⟩
  · exact ⟨_, _, rfl, hr⟩
  · exact h.some (by simpa using hr)
theorem RemG.some (h : RemG K R l node r u H) (hr : R l r) : ∃ l' r', H = [r'] ∧ R l' r' := by
  rcases h with ⟨_, _, rfl⟩ | ⟨A, y, a, B, r', _, _, _, rfl, h⟩
  · exact ⟨_, _, rfl, hr⟩
  · exact ⟨_, _, rfl, h⟩
theorem ValAt.ok (h : ValAt K (A ++ (y, a) :: B) y u) (hnd : (nodes (A ++ (y, a) :: B)).Nodup) : u = .tuple [K.val a, .int .i64 0].toArray := by
  rcases h with ⟨h, _⟩ | ⟨A', y', a', B', he, hy, rfl⟩
  · rw [isAt_split] at h; cases h
  · obtain rfl : y = y' := by omega
    obtain ⟨rfl, rfl, rfl⟩ := node_uniq hnd he
    rfl
theorem ChR.nd {b : Nat} (h : ChR K b n l r) : (nodes l).Nodup := by obtain ⟨_, _, _, _, _, _, _, _, _, hc⟩ := h; exact hc.nd
theorem ChR.len {b : Nat} (h : ChR K b n l r) : l.length ≤ n := by obtain ⟨_, _, _, _, _, _, _, _, _, hc⟩ := h; exact Nat.le_trans hc.len hc.le
end
theorem vcells_int (l : List Int) : vcells kInt l = iv l := flatMap_single _ l
end Go.Proofs.YtmagdjlcckgkpaaGreat

/- Orders by count: the plain facts. -/
namespace Go.Proofs.YtmagdjlcckgkpaaGreat
open Go.RowKit

/-- A bucket: its node, its count, the block of its list, the list. -/
abbrev Bk := Nat × Nat × Nat × List (Nat × Int)
def bks (S : List Bk) : List (Nat × (Nat × Option Nat)) := S.map fun s => (s.1, (s.2.1, some s.2.2.1))
def bfl (s : Bk) : List (Int × Nat) := s.2.2.2.map fun p => (p.2, s.2.1)
def flat (S : List Bk) : List (Int × Nat) := S.flatMap bfl
theorem bks_app (A B : List Bk) : bks (A ++ B) = bks A ++ bks B := by simp [bks]
theorem bks_cons (s : Bk) (B : List Bk) : bks (s :: B) = (s.1, (s.2.1, some s.2.2.1)) :: bks B := rfl
theorem flat_app (A B : List Bk) : flat (A ++ B) = flat A ++ flat B := by simp [flat]
theorem flat_cons (s : Bk) (B : List Bk) : flat (s :: B) = bfl s ++ flat B := by simp [flat]
theorem bks_len (S : List Bk) : (bks S).length = S.length := by simp [bks]
theorem nodes_bks (S : List Bk) : nodes (bks S) = S.map (·.1) := by simp [nodes, bks]
theorem flat_len {S : List Bk} (h : ∀ s ∈ S, s.2.2.2 ≠ []) : S.length ≤ (flat S).length := by
  induction S with
  | nil => simp
  | cons s S ih =>
    have h1 := List.length_pos_iff.2 (h s (List.mem_cons_self ..))
    have h2 := ih fun x hx => h x (List.mem_cons_of_mem _ hx)
    rw [flat_cons, List.length_append, List.length_cons, bfl, List.length_map]
    omega

/-! ### What is done to an order -/
abbrev Ord := List (Int × Nat)
def ids (l : Ord) : List Int := l.map (·.1)
def look : Ord → Int → Option Nat
  | [], _ => none
  | p :: l, id => if p.1 = id then some p.2 else look l id
def ins : Ord → Int → Nat → Ord
  | [], id, c => [(id, c)]
  | p :: l, id, c => if p.2 ≤ c then p :: ins l id c else (id, c) :: p :: l
def rem : Ord → Int → Ord
  | [], _ => []
  | p :: l, id => if p.1 = id then l else p :: rem l id
theorem look_none {l : Ord} {id : Int} : look l id = none ↔ id ∉ ids l := by
  induction l with
  | nil => simp [look, ids]
  | cons p l ih =>
    rw [look]
    split
    · rename_i h; simp [ids, h]
    · rename_i h; rw [ih]; simp [ids]; intro _; exact fun e => h e.symm
theorem look_app_left {A B : Ord} {id : Int} (h : id ∉ ids A) : look (A ++ B) id = look B id := by
  induction A with
  | nil => rfl
  | cons p A ih =>
    simp only [ids, List.map_cons, List.mem_cons, not_or] at h
    rw [List.cons_append, look, if_neg (fun e => h.1 e.symm)]
    exact ih h.2
theorem look_at {A B : Ord} {id : Int} {c : Nat} (h : id ∉ ids A) : look (A ++ (id, c) :: B) id = some c := by rw [look_app_left h, look, if_pos rfl]
theorem rem_at {A B : Ord} {id : Int} {c : Nat} (h : id ∉ ids A) : rem (A ++ (id, c) :: B) id = A ++ B := by
  induction A with
  | nil => simp [rem]
  | cons p A ih =>
    simp only [ids, List.map_cons, List.mem_cons, not_or] at h
    rw [List.cons_append, rem, if_neg (fun e => h.1 e.symm), ih h.2]
    rfl
theorem ins_at {A B : Ord} {id : Int} {c : Nat} (hA : ∀ p ∈ A, p.2 ≤ c) (hB : ∀ p ∈ B, c < p.2) : ins (A ++ B) id c = A ++ (id, c) :: B := by
  induction A with
  | nil =>
    cases B with
    | nil => rfl
    | cons p B =>
      have := hB p (List.mem_cons_self ..)
      rw [List.nil_append, ins, if_neg (by omega)]; rfl
  | cons p A ih =>
    have := hA p (List.mem_cons_self ..)
    rw [List.cons_append, ins, if_pos this, ih fun q hq => hA q (List.mem_cons_of_mem _ hq)]
    rfl
theorem ids_app (A B : Ord) : ids (A ++ B) = ids A ++ ids B := by simp [ids]

/-! ### Distinct numbers below a bound -/
theorem range_len {l : List Int} {n : Nat} (hn : l.Nodup) (hr : ∀ z ∈ l, 0 ≤ z ∧ z < n) : l.length ≤ n := by
  have h1 : (l.map Int.toNat).Nodup := by
    refine List.Pairwise.map _ ?_ (hn.imp_of_mem fun {a b} ha hb hab => (show ¬ a.toNat = b.toNat from fun e => ?_)) 
    · exact fun a b h => h
    · have := hr a ha; have := hr b hb; exact hab (by omega)
  have h2 := nodup_subset_len (l.map Int.toNat) (List.range n) h1 fun x hx => by
    obtain ⟨z, hz, rfl⟩ := List.mem_map.1 hx
    have := hr z hz
    exact List.mem_range.2 (by omega)
  simpa using h2
theorem range_lt {l : List Int} {n : Nat} {id : Int} (hn : l.Nodup) (hr : ∀ z ∈ l, 0 ≤ z ∧ z < n) (hi : 0 ≤ id ∧ id < n) (hd : id ∉ l) : l.length < n := by
  have := range_len (l := id :: l) (n := n) (List.nodup_cons.2 ⟨hd, hn⟩) (fun z hz => by
    rcases List.mem_cons.1 hz with rfl | hz
    · exact hi
    · exact hr z hz)
  rw [List.length_cons] at this
  omega

/-! ### The places -/
def pcell (o : Option (Nat × Nat)) : List Value := match o with
  | none => [.bool false, .int .i64 0, .int .i64 0]
  | some (x, y) => [.bool true, .int .i64 x, .int .i64 y]
def pcells (pl : List (Option (Nat × Nat))) : List Value := pl.flatMap pcell
theorem pcell_len (o : Option (Nat × Nat)) : (pcell o).length = 3 := by cases o <;> rfl
theorem pcells_len (pl : List (Option (Nat × Nat))) : (pcells pl).length = pl.length * 3 := by
  induction pl with
  | nil => rfl
  | cons o pl ih => simp only [pcells, List.flatMap_cons, List.length_append, pcell_len, List.length_cons] at ih ⊢; omega
theorem pcells_app (a b : List (Option (Nat × Nat))) : pcells (a ++ b) = pcells a ++ pcells b := by simp [pcells]
theorem pcells_get {pl : List (Option (Nat × Nat))} {i : Nat} {o : Option (Nat × Nat)} (h : pl[i]? = some o) : ((pcells pl).drop (0 + i * 3)).take 3 = pcell o := by
  obtain ⟨hi, rfl⟩ := List.getElem?_eq_some_iff.1 h
  have e : pl = pl.take i ++ pl[i] :: pl.drop (i + 1) := by rw [← List.drop_eq_getElem_cons hi, List.take_append_drop]
  have hl : (pcells (pl.take i)).length = i * 3 := by rw [pcells_len, List.length_take]; omega
  have e2 : pcells pl = pcells (pl.take i) ++ (pcell pl[i] ++ pcells (pl.drop (i + 1))) := by
    conv => lhs; rw [e]
    simp only [pcells, List.flatMap_append, List.flatMap_cons]
  rw [e2, Nat.zero_add, ← hl, List.drop_left, List.take_append_of_le_length (by rw [pcell_len]; exact Nat.le_refl _), List.take_of_length_le (by rw [pcell_len]; exact Nat.le_refl _)]
theorem pcells_set {pl : List (Option (Nat × Nat))} {i : Nat} (o : Option (Nat × Nat)) (hi : i < pl.length) : (pcells pl).take (0 + i * 3) ++ pcell o ++ (pcells pl).drop (0 + i * 3 + 3) = pcells (pl.set i o) := by
  have e : pl = pl.take i ++ pl[i] :: pl.drop (i + 1) := by rw [← List.drop_eq_getElem_cons hi, List.take_append_drop]
  have hl : (pcells (pl.take i)).length = i * 3 := by rw [pcells_len, List.length_take]; omega
  have e2 : pcells pl = pcells (pl.take i) ++ (pcell pl[i] ++ pcells (pl.drop (i + 1))) := by
    conv => lhs; rw [e]
    simp only [pcells, List.flatMap_append, List.flatMap_cons]
  have e3 : pl.set i o = pl.take i ++ o :: pl.drop (i + 1) := List.set_eq_take_append_cons_drop.trans (if_pos hi)
  have e4 : pcells (pl.set i o) = pcells (pl.take i) ++ (pcell o ++ pcells (pl.drop (i + 1))) := by
    rw [e3]; simp only [pcells, List.flatMap_append, List.flatMap_cons]
  rw [e4, e2, Nat.zero_add, ← hl, List.take_left, List.append_assoc]
  congr 2
  rw [← List.append_assoc, show (pcells (pl.take i)).length + 3 = (pcells (pl.take i) ++ pcell pl[i]).length by rw [List.length_append, pcell_len], List.drop_left]

/-- What holds of buckets and places. -/
structure RInv (n : Nat) (S : List Bk) (pl : List (Option (Nat × Nat))) : Prop where
  len : pl.length = n
  asc : (S.map fun s => s.2.1).Pairwise (· < ·)
  ne : ∀ s ∈ S, s.2.2.2 ≠ []
  nd : (S.map (·.1)).Nodup
  ndi : ∀ s ∈ S, (nodes s.2.2.2).Nodup
  nid : (ids (flat S)).Nodup
  rng : ∀ z ∈ ids (flat S), 0 ≤ z ∧ z < n
  at_ : ∀ s ∈ S, ∀ p ∈ s.2.2.2, pl[p.2.toNat]? = some (some (s.1, p.1))
  no : ∀ id : Nat, id < n → (id : Int) ∉ ids (flat S) → pl[id]? = some none
  cnt : ∀ s ∈ S, s.2.1 ≤ 9223372036854775808
theorem RInv.new (n : Nat) : RInv n [] (List.replicate n none) :=
  ⟨List.length_replicate, List.Pairwise.nil, by simp, List.nodup_nil, by simp, List.nodup_nil, by simp [flat, ids], by simp, fun id h _ => by simp [h], by simp⟩
end Go.Proofs.YtmagdjlcckgkpaaGreat

/- Orders by count: making one, of, has. -/
namespace Go.Proofs.YtmagdjlcckgkpaaGreat
open Go.RowKit

theorem t117 : SlT Tryz.prog 117 158 3 24 (.agg #[.bool false, .int .i64 0, .int .i64 0]) := .mk' Tryz.underlying117 (by kernel_rfl) rfl (by decide)
/-- The lists of the buckets. -/
def IdsR (n : Nat) : List Bk → List Res → Prop
  | [], [] => True
  | s :: S, r :: rs => ChR kInt s.2.2.1 n s.2.2.2 r ∧ IdsR n S rs
  | _, _ => False
theorem IdsR.split {n : Nat} : ∀ {A B : List Bk} {rs : List Res}, IdsR n (A ++ B) rs → ∃ ra rb, rs = ra ++ rb ∧ IdsR n A ra ∧ IdsR n B rb
  | [], B, rs, h => ⟨[], rs, rfl, trivial, h⟩
  | s :: A, B, [], h => h.elim
  | s :: A, B, r :: rs, h => by
    obtain ⟨ra, rb, rfl, h1, h2⟩ := IdsR.split h.2
    exact ⟨r :: ra, rb, rfl, ⟨h.1, h1⟩, h2⟩
theorem IdsR.join {n : Nat} : ∀ {A B : List Bk} {ra rb : List Res}, IdsR n A ra → IdsR n B rb → IdsR n (A ++ B) (ra ++ rb)
  | [], B, [], rb, _, h => h
  | s :: A, B, r :: ra, rb, h1, h2 => ⟨h1.1, IdsR.join h1.2 h2⟩
  | s :: A, B, [], rb, h1, _ => h1.elim
  | [], B, r :: ra, rb, h1, _ => h1.elim
theorem IdsR.cons_inv {n : Nat} {s : Bk} {S : List Bk} {rs : List Res} (h : IdsR n (s :: S) rs) : ∃ r rb, rs = r :: rb ∧ ChR kInt s.2.2.1 n s.2.2.2 r ∧ IdsR n S rb := by
  cases rs with
  | nil => exact h.elim
  | cons r rs => exact ⟨r, rs, rfl, h.1, h.2⟩

def rkg (b n len B : Nat) (pV : Value) (pl : List (Option (Nat × Nat))) (rB : Res) (rs : List Res) : List Res :=
  [blk b [.int .i64 (n : Int), .int .i64 (len : Int), .pointer (some ⟨B, 0, .none⟩), pV] 119, row pV 158 3 n (pcells pl), rB, bun rs]
abbrev rks (b n : Nat) (S : List Bk) (B : Nat) (pV : Value) (pl : List (Option (Nat × Nat))) (rB : Res) (rs : List Res) : List Res := rkg b n (flat S).length B pV pl rB rs
/-- An order with its buckets. -/
def RkR (b n : Nat) (S : List Bk) (r : Res) : Prop :=
  1 ≤ n ∧ n ≤ 8192 ∧ ∃ B pV pl rB rs, r = bun (rks b n S B pV pl rB rs) ∧ ChR kBuc B n (bks S) rB ∧ IdsR n S rs ∧ RInv n S pl
/-- An order. -/
def RkO (b n : Nat) (l : Ord) (r : Res) : Prop := ∃ S, l = flat S ∧ RkR b n S r

theorem madeCells3 (n : Nat) : (madeCells (Value.agg #[.bool false, .int .i64 0, .int .i64 0]).cells (n * 3)).toList = pcells (List.replicate n none) := by
  have h : ∀ n, ((List.range (n * 3)).map fun i => (#[Value.bool false, .int .i64 0, .int .i64 0] : Array Value)[i % 3]!) = pcells (List.replicate n none) := by
    intro n
    induction n with
    | zero => rfl
    | succ n ih =>
      rw [Nat.succ_mul, List.replicate_succ', pcells_app, ← ih, List.range_succ, List.range_succ, List.range_succ]
      simp only [List.map_append, List.map_cons, List.map_nil, List.append_assoc]
      congr 1
      have e0 : (n * 3) % 3 = 0 := by omega
      have e1 : (n * 3 + 1) % 3 = 1 := by omega
      have e2 : (n * 3 + 2) % 3 = 2 := by omega
      rw [e0, e1, e2]
      rfl
  rw [← h n]
  simp only [madeCells, Array.toList_map, Array.toList_range]
  rfl

theorem build_ranks (n : Int) (B : Nat) (A : Option Addr) (l c : Nat) (w : World) : (Instr.build 119 [(0, .int .i64 n), (2, .pointer (some ⟨B, 0, .none⟩)), (3, .slice A l c)].toArray).run Tryz.prog w =
    .ok (.agg [.int .i64 n, .int .i64 0, .pointer (some ⟨B, 0, .none⟩), .slice A l c].toArray) w := by kernel_rfl

theorem rknew_bad (n : Int) (w : World) (hn : n < 1 ∨ 8192 < n) : Spec Tryz.prog 46 [.int .i64 n] w Nil fun r H => r = .tuple #[.pointer .none, .int .i64 1] ∧ H = [] := by
  refine enter (n := 20) Tryz.func46 rfl rfl [(0, _)] rfl ⟨rfl, trivial⟩ (Holds.start _ _) ?_
  refine w_seq (w_reg (wl_f (f_assign rfl) (wl_f (f_assign rfl) (wl_end [(0, _)] ⟨rfl, trivial⟩ ?_))))
  refine w_seq (w_reg (wl_f (f_move rfl) (wl_e (e_call0 rfl Tryz.func52 (by kernel_rfl) (fun w hh => bnew_spec n w)) ?_)))
  rintro _ _ w1 ⟨_, rfl, ⟨_, rfl, rfl⟩ | ⟨k, B, rB, rfl, h1, h2, _⟩⟩
  rotate_left
  · omega
  refine wl_f (f_move rfl) (wl_f (f_extract rfl rfl) ?_)
  refine wl_f (f_extract rfl rfl) ?_
  refine wl_f (f_assign rfl) (wl_f (f_assign rfl) (wl_end [(0, _), (4, _), (5, _)] ⟨rfl, rfl, rfl, trivial⟩ ?_))
  refine w_seq (w_seq (w_reg (wl_f (f_move rfl) (wl_f (f_neq rfl rfl) ?_))))
  refine wl_end [(0, _), (4, _), (5, _), (12, _)] ⟨rfl, rfl, rfl, rfl, trivial⟩ ?_
  refine w_ifb rfl (fun _ => ?_) (fun h => absurd rfl h)
  refine w_seq (w_reg (wl_f (f_move rfl) (wl_f (f_assign rfl) (wl_f (f_assign rfl) (wl_end [(2, _), (3, _)] ⟨rfl, rfl, trivial⟩ ?_)))))
  refine w_ret ?_
  refine ⟨_, _, fun a ha hh => results_tmps Tryz.results46 rfl a ha _, List.Sublist.refl _, ?_⟩
  exact ⟨rfl, rfl⟩

theorem rknew_ok (n : Nat) (w : World) (h1 : 1 ≤ n) (h2 : n ≤ 8192) : Spec Tryz.prog 46 [.int .i64 n] w Nil fun r H => ∃ b r', r = .tuple #[.pointer (some ⟨b, 0, .none⟩), .int .i64 0] ∧ H = [r'] ∧ RkR b n [] r' := by
  refine enter (n := 20) Tryz.func46 rfl rfl [(0, _)] rfl ⟨rfl, trivial⟩ (Holds.start _ _) ?_
  refine w_seq (w_reg (wl_f (f_assign rfl) (wl_f (f_assign rfl) (wl_end [(0, _)] ⟨rfl, trivial⟩ ?_))))
  refine w_seq (w_reg (wl_f (f_move rfl) (wl_e (e_call0 rfl Tryz.func52 (by kernel_rfl) (fun w hh => bnew_spec n w)) ?_)))
  rintro _ _ w1 ⟨_, rfl, ⟨_, rfl, rfl⟩ | ⟨k, B, rB, hk, _, _, rfl, rfl, hrB⟩⟩
  · omega
  obtain rfl : n = k := by omega
  refine wl_f (f_move rfl) (wl_f (f_extract rfl rfl) ?_)
  refine wl_f (f_extract rfl rfl) ?_
  refine wl_f (f_assign rfl) (wl_f (f_assign rfl) (wl_end [(0, _), (4, _), (5, _)] ⟨rfl, rfl, rfl, trivial⟩ ?_))
  refine w_seq (w_seq (w_reg (wl_f (f_move rfl) (wl_f (f_neq rfl rfl) ?_))))
  refine wl_end [(0, _), (4, _), (5, _), (12, _)] ⟨rfl, rfl, rfl, rfl, trivial⟩ ?_
  refine w_ifb rfl (fun h => absurd h (by simp)) (fun _ => ?_)
  refine w_skip ?_
  refine w_seq (w_reg (wl_f (f_move rfl) (wl_f (f_move rfl) (wl_f (f_move rfl) (wl_e (e_make (l := n) (cs := pcells (List.replicate n none)) rfl rfl t117 (by omega) (by omega) (madeCells3 n).symm) ?_)))))
  rintro _ _ w4_3 ⟨b4_3, rfl, rfl⟩
  refine wl_f (f_build rfl (fun w => build_ranks _ _ _ _ _ w)) ?_
  refine wl_e (e_box (cs := [_, _, _, _]) rfl rfl) ?_
  rintro _ _ w4_5 ⟨b4_5, rfl, rfl⟩
  refine wl_f (f_assign rfl) (wl_f (f_assign rfl) (wl_end [(2, _), (3, _)] ⟨rfl, rfl, trivial⟩ ?_))
  refine w_bun0 ?_
  refine w_pick [1, 1, 1, 0] rfl ?_
  refine w_bun (H := []) [_, _, _, _] ?_
  refine w_ret ?_
  refine ⟨_, _, fun a ha hh => results_tmps Tryz.results46 rfl a ha _, List.Sublist.refl _, ?_⟩
  exact ⟨_, _, rfl, rfl, h1, h2, B, _, _, rB, [], rfl, hrB, trivial, RInv.new n⟩
end Go.Proofs.YtmagdjlcckgkpaaGreat

/- Orders by count: of, has. -/
namespace Go.Proofs.YtmagdjlcckgkpaaGreat
open Go.RowKit

theorem pcells_there {pl : List (Option (Nat × Nat))} {i : Nat} {o : Option (Nat × Nat)} (h : pl[i]? = some o) : (pcells pl)[0 + i * 3 + 0]? = some (.bool o.isSome) := by
  have h1 : (((pcells pl).drop (0 + i * 3)).take 3)[0]? = some (.bool o.isSome) := by rw [pcells_get h]; cases o <;> rfl
  rw [List.getElem?_take, if_pos (by omega), List.getElem?_drop] at h1
  exact h1
theorem mem_ids {l : Ord} {id : Int} : id ∈ ids l ↔ ∃ c, (id, c) ∈ l := by
  simp [ids]
theorem ids_flat {S : List Bk} {id : Int} : id ∈ ids (flat S) ↔ ∃ s ∈ S, ∃ y, (y, id) ∈ s.2.2.2 := by
  simp only [mem_ids, flat, List.mem_flatMap, bfl, List.mem_map, Prod.mk.injEq]
  constructor
  · rintro ⟨c, s, hs, p, hp, rfl, rfl⟩; exact ⟨s, hs, p.1, hp⟩
  · rintro ⟨s, hs, y, hy⟩; exact ⟨_, s, hs, _, hy, rfl, rfl⟩
theorem RInv.isIn {n : Nat} {S : List Bk} {pl : List (Option (Nat × Nat))} (h : RInv n S pl) (id : Int) : ((0 ≤ id ∧ id < n) ∧ ∃ x, pl[id.toNat]? = some (some x)) ↔ id ∈ ids (flat S) := by
  constructor
  · rintro ⟨h1, x, hx⟩
    refine Classical.byContradiction fun hn => ?_
    have := h.no id.toNat (by omega) (by rwa [show ((id.toNat : Nat) : Int) = id by omega])
    rw [hx] at this
    cases this
  · intro hi
    have h1 := h.rng id hi
    obtain ⟨s, hs, y, hy⟩ := ids_flat.1 hi
    exact ⟨h1, _, h.at_ s hs _ hy⟩

set_option maxHeartbeats 1000000 in
theorem rkhas_spec (b n : Nat) (S : List Bk) (r : Res) (id : Int) (w : World) (hr : RkR b n S r) (hs : Holds w r.foot [r] w) :
    Spec Tryz.prog 92 [.pointer (some ⟨b, 0, .none⟩), .int .i64 id] w r.foot fun v H => v = .bool (decide (id ∈ ids (flat S))) ∧ H = [r] := by
  obtain ⟨hn1, hn2, B, pV, pl, rB, rs, rfl, hrB, hrs, hI⟩ := hr
  have hpl := hI.len
  refine enter (n := 29) Tryz.func92 rfl rfl [(0, _), (1, _)] rfl ⟨rfl, rfl, trivial⟩ hs ?_
  refine w_with fun hh => ?_
  obtain ⟨g, cp, rfl⟩ := rowB_form hh (i := 0) (j := 1) rfl rfl (by omega)
  clear hh
  refine w_seq (w_reg (wl_f (f_assign rfl) (wl_end [(0, _), (1, _)] ⟨rfl, rfl, trivial⟩ ?_)))
  refine w_seq (w_reg (wl_f (f_move rfl) (wl_f (f_neqnil rfl rfl Tryz.underlying89) ?_)))
  refine wl_f (f_move rfl) ?_
  refine wl_and (j := 2) (c := decide (0 ≤ id)) 2 [(0, _), (1, _)] ⟨rfl, rfl, trivial⟩ rfl rfl rfl rfl rfl (fun hg1_5 => ?_) (fun w1_5 => ?_)
  · skip
    refine wl_gf rfl rfl (f_move rfl) ?_
    refine wl_gf rfl rfl (f_geq rfl rfl) ?_
    exact wl_pend rfl rfl ⟨rfl, rfl, trivial⟩ (List.Sublist.refl _)
  refine wl_f (f_move rfl) ?_
  refine wl_and (j := 6) (c := decide (id < (n : Int))) 6 [(0, _), (1, _)] ⟨rfl, rfl, trivial⟩ rfl rfl rfl rfl rfl (fun hg1_13 => ?_) (fun w1_13 => ?_)
  · skip
    refine wl_gf rfl rfl (f_move rfl) ?_
    refine wl_gf rfl rfl (f_move rfl) ?_
    refine wl_gf rfl rfl (f_nilCheck rfl) ?_
    refine wl_gf rfl rfl (f_fieldAddr 0 rfl Tryz.underlying119 rfl rfl (by kernel_rfl)) ?_
    refine wl_gf rfl rfl (f_loadB 0 0 rfl rfl rfl Tryz.underlying3 rfl rfl) ?_
    refine wl_gf rfl rfl (f_lss rfl rfl) ?_
    exact wl_pend rfl rfl ⟨rfl, rfl, trivial⟩ (List.Sublist.refl _)
  refine wl_f (f_move rfl) ?_
  refine wl_and (j := 14) (c := (pl.getD id.toNat none).isSome) 8 [] trivial rfl rfl rfl rfl rfl (fun hg1_23 => ?_) (fun w1_23 => ?_)
  · skip
    refine wl_gf rfl rfl (f_move rfl) ?_
    refine wl_gf rfl rfl (f_nilCheck rfl) ?_
    refine wl_gf rfl rfl (f_fieldAddr 3 rfl Tryz.underlying119 rfl rfl (by kernel_rfl)) ?_
    refine wl_gf rfl rfl (f_loadB 0 0 rfl rfl rfl Tryz.underlying117 rfl rfl) ?_
    refine wl_gf rfl rfl (f_move rfl) ?_
    simp only [Bool.and_eq_true, decide_eq_true_eq] at hg1_23
    obtain ⟨x, rfl⟩ : ∃ x : Nat, id = x := ⟨id.toNat, by omega⟩
    obtain ⟨o, ho⟩ : ∃ o, pl[x]? = some o := ⟨_, List.getElem?_eq_getElem (by omega)⟩
    refine wl_gf rfl rfl (f_indexAddr 3 (i := x) rfl rfl Tryz.underlying117 (by kernel_rfl) rfl (by omega)) ?_
    refine wl_gf rfl rfl (f_fieldAddr 0 rfl Tryz.underlying158 rfl rfl (by kernel_rfl)) ?_
    refine wl_gf rfl rfl (f_eqv (v' := .bool (pl.getD ((x : Int).toNat) none).isSome) (f_loadBr (v := .bool o.isSome) 0 1 rfl rfl rfl Tryz.underlying4 rfl (pcells_there ho)) (by simp [ho])) ?_
    exact wl_pend rfl rfl trivial (List.Sublist.refl _)
  refine wl_f (f_assign rfl) (wl_end [(4, _)] ⟨rfl, trivial⟩ ?_)
  refine w_ret ?_
  refine ⟨_, _, fun a ha hh => results_tmps Tryz.results92 rfl a ha _, List.Sublist.refl _, ?_⟩
  refine ⟨?_, rfl⟩
  show Value.bool _ = _
  congr 1
  rw [Bool.eq_iff_iff]
  simp only [Bool.and_eq_true, decide_eq_true_eq, ← hI.isIn id]
  constructor
  · rintro ⟨⟨⟨_, h1⟩, h2⟩, h3⟩
    refine ⟨⟨h1, h2⟩, ?_⟩
    rw [List.getD_eq_getElem?_getD] at h3
    cases ho : pl[id.toNat]? with
    | none => rw [ho] at h3; cases h3
    | some o => rw [ho] at h3; cases o with
      | none => cases h3
      | some x => exact ⟨x, rfl⟩
  · rintro ⟨⟨h1, h2⟩, x, hx⟩
    exact ⟨⟨⟨rfl, h1⟩, h2⟩, by rw [List.getD_eq_getElem?_getD, hx]; rfl⟩

set_option maxHeartbeats 1000000 in
theorem rkofg_spec (b n len : Nat) (A : List Bk) (s : Bk) (C : List Bk) (B : Nat) (pV : Value) (pl : List (Option (Nat × Nat))) (rB : Res) (rs : List Res) (w : World) (hrB : ChR kBuc B n (bks (A ++ s :: C)) rB) (hs : Holds w (bun (rkg b n len B pV pl rB rs)).foot [bun (rkg b n len B pV pl rB rs)] w) :
    Spec Tryz.prog 93 [.pointer (some ⟨b, 0, .none⟩), .int .i64 (s.1 : Int)] w (bun (rkg b n len B pV pl rB rs)).foot fun v H => v = .agg #[.int .u64 (s.2.1 : Int), .pointer (some ⟨s.2.2.1, 0, .none⟩)] ∧ H = [bun (rkg b n len B pV pl rB rs)] := by
  rw [bks_app, bks_cons] at hrB
  refine enter (n := 17) Tryz.func93 rfl rfl [(0, _), (1, _)] rfl ⟨rfl, rfl, trivial⟩ hs ?_
  refine w_unb (rkg b n len B pV pl rB rs) ?_
  refine w_seq (w_reg (wl_e (e_allocs [.int .u64 0, .pointer .none] (by kernel_rfl)) ?_))
  rintro _ _ w0_0 ⟨b0_0, rfl, rfl⟩
  refine wl_end [(0, _), (1, _), (4, _)] ⟨rfl, rfl, rfl, trivial⟩ ?_
  refine w_seq (w_reg (wl_f (f_move rfl) (wl_f (f_nilCheck rfl) (wl_f (f_fieldAddr 2 rfl Tryz.underlying119 rfl rfl (by kernel_rfl)) ?_))))
  refine wl_f (f_loadb 1 rfl Tryz.underlying111 rfl rfl rfl) ?_
  refine wl_f (f_move rfl) (wl_e (e_call1 rB [_, _, _, _] rfl Tryz.func103 (by kernel_rfl) (pk1 3 rfl) (fun w hh hs' => bValue_spec B n _ s.1 rB w hrB hs')) ?_)
  rintro _ _ w1 ⟨_, rfl, rfl, hv⟩
  obtain rfl := hv.ok hrB.nd
  refine wl_f (f_move rfl) (wl_f (f_extract rfl rfl) ?_)
  refine wl_f (f_extract rfl rfl) ?_
  refine wl_e (e_allocs [.int .u64 0, .pointer .none] (by kernel_rfl)) ?_
  rintro _ _ w1_9 ⟨b1_9, rfl, rfl⟩
  refine wl_e0 (e_store0 (us := [_, _]) rfl rfl rfl (by kernel_rfl) (by simp [Value.oneCell']) rfl rfl) ?_
  rintro _ _ w1_10 rfl
  refine wl_f (f_assign rfl) (wl_end [(4, _), (5, _)] ⟨rfl, rfl, trivial⟩ ?_)
  refine w_seq (w_reg (wl_f (f_loadsb (cs := [_, _]) 0 rfl Tryz.underlying116 rfl (by kernel_rfl) rfl rfl) ?_))
  refine wl_e0 (e_store2 (us := [_, _]) rfl rfl rfl (by kernel_rfl) (by simp [Value.oneCell']) rfl rfl) ?_
  rintro _ _ w2_1 rfl
  refine wl_end [(4, _)] ⟨rfl, trivial⟩ ?_
  refine w_pick [3, 3, 1, 2, 1] rfl ?_
  refine w_bun (H := [_]) [_, _, _, _] ?_
  refine w_pick [1, 0] rfl ?_
  refine w_ret ?_
  refine ⟨_, _, fun a ha hh => results_cell 0 Tryz.results93 rfl a ha hh Tryz.underlying116 rfl (by kernel_rfl) rfl, List.sublist_cons_self .., ?_⟩
  exact ⟨rfl, rfl⟩
theorem rkof_spec (b n : Nat) (A : List Bk) (s : Bk) (C : List Bk) (r : Res) (w : World) (hr : RkR b n (A ++ s :: C) r) (hs : Holds w r.foot [r] w) :
    Spec Tryz.prog 93 [.pointer (some ⟨b, 0, .none⟩), .int .i64 (s.1 : Int)] w r.foot fun v H => v = .agg #[.int .u64 (s.2.1 : Int), .pointer (some ⟨s.2.2.1, 0, .none⟩)] ∧ H = [r] := by
  obtain ⟨hn1, hn2, B, pV, pl, rB, rs, rfl, hrB, hrs, hI⟩ := hr
  exact rkofg_spec b n _ A s C B pV pl rB rs w hrB hs
end Go.Proofs.YtmagdjlcckgkpaaGreat

/- Orders by count: what an insertion and a taking do to buckets, plain. -/
namespace Go.Proofs.YtmagdjlcckgkpaaGreat
open Go.RowKit

theorem flat_cnt {S : List Bk} {p : Int × Nat} (h : p ∈ flat S) : ∃ s ∈ S, p.2 = s.2.1 := by
  simp only [flat, List.mem_flatMap, bfl, List.mem_map] at h
  obtain ⟨s, hs, q, _, rfl⟩ := h
  exact ⟨s, hs, rfl⟩
theorem bfl_cnt {s : Bk} {p : Int × Nat} (h : p ∈ bfl s) : p.2 = s.2.1 := by
  simp only [bfl, List.mem_map] at h
  obtain ⟨q, _, rfl⟩ := h
  rfl
theorem asc_split {A C : List Bk} {s : Bk} (h : ((A ++ s :: C).map fun s => s.2.1).Pairwise (· < ·)) : (∀ a ∈ A, a.2.1 < s.2.1) ∧ ∀ c ∈ C, s.2.1 < c.2.1 := by
  rw [List.map_append, List.map_cons, List.pairwise_append, List.pairwise_cons] at h
  refine ⟨fun a ha => h.2.2 _ (List.mem_map_of_mem ha) _ (List.mem_cons_self ..), fun c hc => h.2.1.1 _ (List.mem_map_of_mem hc)⟩

theorem RInv.add {n : Nat} {S S' : List Bk} {pl : List (Option (Nat × Nat))} {x bx y : Nat} (h : RInv n S pl) (hx : x < n) (hid : (x : Int) ∉ ids (flat S))
    (hasc : (S'.map fun s => s.2.1).Pairwise (· < ·)) (hne : ∀ s ∈ S', s.2.2.2 ≠ []) (hnd : (S'.map (·.1)).Nodup) (hndi : ∀ s ∈ S', (nodes s.2.2.2).Nodup) (hcnt : ∀ s ∈ S', s.2.1 ≤ 9223372036854775808)
    (hp : (ids (flat S')).Perm ((x : Int) :: ids (flat S))) (hm : ∀ s ∈ S', ∀ p ∈ s.2.2.2, (s.1 = bx ∧ p = (y, (x : Int))) ∨ ∃ s0 ∈ S, s0.1 = s.1 ∧ p ∈ s0.2.2.2) : RInv n S' (pl.set x (some (bx, y))) := by
  have hl := h.len
  refine ⟨by rw [List.length_set]; exact hl, hasc, hne, hnd, hndi, hp.nodup_iff.2 (List.nodup_cons.2 ⟨hid, h.nid⟩), fun z hz => ?_, fun s hs p hps => ?_, fun j hj hjn => ?_, hcnt⟩
  · rcases List.mem_cons.1 (hp.mem_iff.1 hz) with rfl | hz
    · omega
    · exact h.rng z hz
  · rcases hm s hs p hps with ⟨h1, rfl⟩ | ⟨s0, hs0, h1, h2⟩
    · rw [h1]
      show (pl.set x _)[(x : Int).toNat]? = _
      rw [Int.toNat_natCast, List.getElem?_set_self (by omega)]
    · have hi : p.2 ∈ ids (flat S) := ids_flat.2 ⟨s0, hs0, p.1, h2⟩
      have hr := h.rng _ hi
      have hne : x ≠ p.2.toNat := fun e => hid (by rw [show (x : Int) = p.2 by omega]; exact hi)
      rw [List.getElem?_set_ne hne, ← h1]
      exact h.at_ s0 hs0 p h2
  · rw [hp.mem_iff, List.mem_cons, not_or] at hjn
    rw [List.getElem?_set_ne (by omega)]
    exact h.no j hj hjn.2
theorem RInv.del {n : Nat} {S S' : List Bk} {pl : List (Option (Nat × Nat))} {x : Nat} (h : RInv n S pl)
    (hasc : (S'.map fun s => s.2.1).Pairwise (· < ·)) (hne : ∀ s ∈ S', s.2.2.2 ≠ []) (hnd : (S'.map (·.1)).Nodup) (hndi : ∀ s ∈ S', (nodes s.2.2.2).Nodup) (hcnt : ∀ s ∈ S', s.2.1 ≤ 9223372036854775808)
    (hp : (ids (flat S)).Perm ((x : Int) :: ids (flat S'))) (hm : ∀ s ∈ S', ∀ p ∈ s.2.2.2, ∃ s0 ∈ S, s0.1 = s.1 ∧ p ∈ s0.2.2.2) : RInv n S' (pl.set x none) := by
  have hl := h.len
  have hn := List.nodup_cons.1 (hp.nodup_iff.1 h.nid)
  refine ⟨by rw [List.length_set]; exact hl, hasc, hne, hnd, hndi, hn.2, fun z hz => h.rng z (hp.mem_iff.2 (List.mem_cons_of_mem _ hz)), fun s hs p hps => ?_, fun j hj hjn => ?_, hcnt⟩
  · obtain ⟨s0, hs0, h1, h2⟩ := hm s hs p hps
    have hi' : p.2 ∈ ids (flat S') := ids_flat.2 ⟨s, hs, p.1, hps⟩
    have hr := h.rng _ (hp.mem_iff.2 (List.mem_cons_of_mem _ hi'))
    have hne : x ≠ p.2.toNat := fun e => hn.1 (by rw [show (x : Int) = p.2 by omega]; exact hi')
    rw [List.getElem?_set_ne hne, ← h1]
    exact h.at_ s0 hs0 p h2
  · by_cases hjx : x = j
    · subst hjx; rw [List.getElem?_set_self (by omega)]
    · rw [List.getElem?_set_ne hjx]
      refine h.no j hj fun hji => ?_
      rcases List.mem_cons.1 (hp.mem_iff.1 hji) with e | e
      · omega
      · exact hjn e

/-- One more in a bucket. -/
def bpush (s : Bk) (y : Nat) (id : Int) : Bk := (s.1, s.2.1, s.2.2.1, s.2.2.2 ++ [(y, id)])
theorem flat_push (A C : List Bk) (s : Bk) (y : Nat) (id : Int) : flat (A ++ bpush s y id :: C) = (flat A ++ bfl s) ++ (id, s.2.1) :: flat C := by
  simp [flat_app, flat_cons, bfl, bpush]
theorem flat_mid (A C : List Bk) (s : Bk) : flat (A ++ s :: C) = (flat A ++ bfl s) ++ flat C := by simp [flat_app, flat_cons]
theorem perm_mid {A B : List Int} {x : Int} : (A ++ x :: B).Perm (x :: (A ++ B)) := List.perm_middle
theorem RInv.push {n : Nat} {A C : List Bk} {s : Bk} {pl : List (Option (Nat × Nat))} {x y : Nat} (h : RInv n (A ++ s :: C) pl) (hx : x < n) (hid : (x : Int) ∉ ids (flat (A ++ s :: C))) (hy : y ∉ nodes s.2.2.2) :
    RInv n (A ++ bpush s y x :: C) (pl.set x (some (s.1, y))) := by
  refine h.add hx hid ?_ ?_ ?_ ?_ ?_ ?_ ?_
  · have := h.asc; rw [List.map_append, List.map_cons] at this ⊢; exact this
  · intro t ht
    rcases List.mem_append.1 ht with ht | ht
    · exact h.ne t (List.mem_append_left _ ht)
    rcases List.mem_cons.1 ht with rfl | ht
    · simp [bpush]
    · exact h.ne t (List.mem_append_right _ (List.mem_cons_of_mem _ ht))
  · have := h.nd; rw [List.map_append, List.map_cons] at this ⊢; exact this
  · intro t ht
    rcases List.mem_append.1 ht with ht | ht
    · exact h.ndi t (List.mem_append_left _ ht)
    rcases List.mem_cons.1 ht with rfl | ht
    · have := h.ndi s (by simp)
      show ((s.2.2.2 ++ [(y, (x : Int))]).map Prod.fst).Nodup
      rw [List.map_append, List.nodup_append]
      exact ⟨this, by simp, by rintro a ha b hb rfl; simp at hb; subst hb; exact hy ha⟩
    · exact h.ndi t (List.mem_append_right _ (List.mem_cons_of_mem _ ht))
  · intro t ht
    rcases List.mem_append.1 ht with ht | ht
    · exact h.cnt t (List.mem_append_left _ ht)
    rcases List.mem_cons.1 ht with rfl | ht
    · exact h.cnt s (by simp)
    · exact h.cnt t (List.mem_append_right _ (List.mem_cons_of_mem _ ht))
  · rw [flat_push, flat_mid]
    simp only [ids, List.map_append, List.map_cons]
    exact perm_mid
  · intro t ht p hp
    rcases List.mem_append.1 ht with ht | ht
    · exact .inr ⟨t, List.mem_append_left _ ht, rfl, hp⟩
    rcases List.mem_cons.1 ht with rfl | ht
    · rcases List.mem_append.1 hp with hp | hp
      · exact .inr ⟨s, by simp, rfl, hp⟩
      · exact .inl ⟨rfl, List.mem_singleton.1 hp⟩
    · exact .inr ⟨t, List.mem_append_right _ (List.mem_cons_of_mem _ ht), rfl, hp⟩
theorem ins_push {A C : List Bk} {s : Bk} {y : Nat} {id : Int} (h : ((A ++ s :: C).map fun s => s.2.1).Pairwise (· < ·)) : ins (flat (A ++ s :: C)) id s.2.1 = flat (A ++ bpush s y id :: C) := by
  obtain ⟨h1, h2⟩ := asc_split h
  rw [flat_push, flat_mid]
  refine ins_at (fun p hp => ?_) fun p hp => ?_
  · rcases List.mem_append.1 hp with hp | hp
    · obtain ⟨t, ht, e⟩ := flat_cnt hp; have := h1 t ht; omega
    · rw [bfl_cnt hp]; exact Nat.le_refl _
  · obtain ⟨t, ht, e⟩ := flat_cnt hp; have := h2 t ht; omega

/-- A bucket of one. -/
theorem RInv.bucket {n : Nat} {A C : List Bk} {pl : List (Option (Nat × Nat))} {x y bx c k : Nat} (h : RInv n (A ++ C) pl) (hx : x < n) (hid : (x : Int) ∉ ids (flat (A ++ C))) (hb : bx ∉ (A ++ C).map (·.1)) (hA : ∀ s ∈ A, s.2.1 < c) (hC : ∀ s ∈ C, c < s.2.1) (hc : c ≤ 9223372036854775808) :
    RInv n (A ++ (bx, c, k, [(y, (x : Int))]) :: C) (pl.set x (some (bx, y))) := by
  refine h.add hx hid ?_ ?_ ?_ ?_ ?_ ?_ ?_
  · have := h.asc
    rw [List.map_append, List.pairwise_append] at this
    rw [List.map_append, List.map_cons, List.pairwise_append, List.pairwise_cons]
    refine ⟨this.1, ⟨fun a ha => ?_, this.2.1⟩, fun a ha b hb => ?_⟩
    · obtain ⟨s, hs, rfl⟩ := List.mem_map.1 ha; exact hC s hs
    · rcases List.mem_cons.1 hb with rfl | hb
      · obtain ⟨s, hs, rfl⟩ := List.mem_map.1 ha; exact hA s hs
      · exact this.2.2 a ha b hb
  · intro t ht
    rcases List.mem_append.1 ht with ht | ht
    · exact h.ne t (List.mem_append_left _ ht)
    rcases List.mem_cons.1 ht with rfl | ht
    · simp
    · exact h.ne t (List.mem_append_right _ ht)
  · have := h.nd
    rw [List.map_append] at this hb
    rw [List.map_append, List.map_cons]
    exact List.perm_middle.nodup_iff.2 (List.nodup_cons.2 ⟨hb, this⟩)
  · intro t ht
    rcases List.mem_append.1 ht with ht | ht
    · exact h.ndi t (List.mem_append_left _ ht)
    rcases List.mem_cons.1 ht with rfl | ht
    · simp
    · exact h.ndi t (List.mem_append_right _ ht)
  · intro t ht
    rcases List.mem_append.1 ht with ht | ht
    · exact h.cnt t (List.mem_append_left _ ht)
    rcases List.mem_cons.1 ht with rfl | ht
    · exact hc
    · exact h.cnt t (List.mem_append_right _ ht)
  · rw [flat_app, flat_cons, flat_app]
    simp only [ids, bfl, List.map_append, List.map_cons, List.map_nil, List.singleton_append]
    exact perm_mid
  · intro t ht p hp
    rcases List.mem_append.1 ht with ht | ht
    · exact .inr ⟨t, List.mem_append_left _ ht, rfl, hp⟩
    rcases List.mem_cons.1 ht with rfl | ht
    · exact .inl ⟨rfl, List.mem_singleton.1 hp⟩
    · exact .inr ⟨t, List.mem_append_right _ ht, rfl, hp⟩
theorem ins_bucket {A C : List Bk} {y bx c k : Nat} {id : Int} (hA : ∀ s ∈ A, s.2.1 < c) (hC : ∀ s ∈ C, c < s.2.1) : ins (flat (A ++ C)) id c = flat (A ++ (bx, c, k, [(y, id)]) :: C) := by
  rw [flat_app, flat_app, flat_cons]
  exact ins_at (fun p hp => by obtain ⟨t, ht, e⟩ := flat_cnt hp; have := hA t ht; omega) fun p hp => by obtain ⟨t, ht, e⟩ := flat_cnt hp; exact e ▸ hC t ht

/-- One is taken. -/
def btake (s : Bk) (I J : List (Nat × Int)) : Bk := (s.1, s.2.1, s.2.2.1, I ++ J)
theorem flat_take (A C : List Bk) (s : Bk) (I J : List (Nat × Int)) (y : Nat) (id : Int) (hs : s.2.2.2 = I ++ (y, id) :: J) :
    flat (A ++ s :: C) = (flat A ++ I.map fun p => (p.2, s.2.1)) ++ (id, s.2.1) :: ((J.map fun p => (p.2, s.2.1)) ++ flat C) := by
  simp [flat_app, flat_cons, bfl, hs]
theorem flat_took (A C : List Bk) (s : Bk) (I J : List (Nat × Int)) : flat (A ++ btake s I J :: C) = (flat A ++ I.map fun p => (p.2, s.2.1)) ++ ((J.map fun p => (p.2, s.2.1)) ++ flat C) := by
  simp [flat_app, flat_cons, bfl, btake]
theorem RInv.take {n : Nat} {A C : List Bk} {s : Bk} {pl : List (Option (Nat × Nat))} {I J : List (Nat × Int)} {x y : Nat} (h : RInv n (A ++ s :: C) pl) (hs : s.2.2.2 = I ++ (y, (x : Int)) :: J) (hIJ : I ++ J ≠ []) :
    RInv n (A ++ btake s I J :: C) (pl.set x none) := by
  refine h.del ?_ ?_ ?_ ?_ ?_ ?_ ?_
  · have := h.asc; rw [List.map_append, List.map_cons] at this ⊢; exact this
  · intro t ht
    rcases List.mem_append.1 ht with ht | ht
    · exact h.ne t (List.mem_append_left _ ht)
    rcases List.mem_cons.1 ht with rfl | ht
    · exact hIJ
    · exact h.ne t (List.mem_append_right _ (List.mem_cons_of_mem _ ht))
  · have := h.nd; rw [List.map_append, List.map_cons] at this ⊢; exact this
  · intro t ht
    rcases List.mem_append.1 ht with ht | ht
    · exact h.ndi t (List.mem_append_left _ ht)
    rcases List.mem_cons.1 ht with rfl | ht
    · have := h.ndi s (by simp)
      rw [hs, nodes_split] at this
      show ((I ++ J).map Prod.fst).Nodup
      rw [List.map_append]
      exact (List.nodup_cons.1 (List.perm_middle.nodup_iff.1 this)).2
    · exact h.ndi t (List.mem_append_right _ (List.mem_cons_of_mem _ ht))
  · intro t ht
    rcases List.mem_append.1 ht with ht | ht
    · exact h.cnt t (List.mem_append_left _ ht)
    rcases List.mem_cons.1 ht with rfl | ht
    · exact h.cnt s (by simp)
    · exact h.cnt t (List.mem_append_right _ (List.mem_cons_of_mem _ ht))
  · rw [flat_take _ _ _ _ _ _ _ hs, flat_took]
    simp only [ids, List.map_append, List.map_cons]
    exact perm_mid
  · intro t ht p hp
    rcases List.mem_append.1 ht with ht | ht
    · exact ⟨t, List.mem_append_left _ ht, rfl, hp⟩
    rcases List.mem_cons.1 ht with rfl | ht
    · refine ⟨s, by simp, rfl, ?_⟩
      rw [hs]
      rcases List.mem_append.1 hp with hp | hp
      · exact List.mem_append_left _ hp
      · exact List.mem_append_right _ (List.mem_cons_of_mem _ hp)
    · exact ⟨t, List.mem_append_right _ (List.mem_cons_of_mem _ ht), rfl, hp⟩
theorem RInv.gone {n : Nat} {A C : List Bk} {s : Bk} {pl : List (Option (Nat × Nat))} {x y : Nat} (h : RInv n (A ++ s :: C) pl) (hs : s.2.2.2 = [(y, (x : Int))]) : RInv n (A ++ C) (pl.set x none) := by
  have hsub : (A ++ C).Sublist (A ++ s :: C) := List.Sublist.append_left (List.sublist_cons_self ..) _
  refine h.del (h.asc.sublist (hsub.map _)) (fun t ht => h.ne t (hsub.subset ht)) (h.nd.sublist (hsub.map _)) (fun t ht => h.ndi t (hsub.subset ht)) (fun t ht => h.cnt t (hsub.subset ht)) ?_ (fun t ht p hp => ⟨t, hsub.subset ht, rfl, hp⟩)
  rw [flat_take _ _ _ [] [] y x hs, flat_app]
  simp only [ids, List.map_append, List.map_cons, List.map_nil, List.nil_append, List.append_nil]
  exact perm_mid
theorem rem_take {n : Nat} {A C : List Bk} {s : Bk} {pl : List (Option (Nat × Nat))} {I J : List (Nat × Int)} {y : Nat} {id : Int} (h : RInv n (A ++ s :: C) pl) (hs : s.2.2.2 = I ++ (y, id) :: J) :
    rem (flat (A ++ s :: C)) id = flat (A ++ btake s I J :: C) ∧ look (flat (A ++ s :: C)) id = some s.2.1 := by
  have h1 := h.nid
  rw [flat_take _ _ _ _ _ _ _ hs, ids_app] at h1
  have h2 : id ∉ ids (flat A ++ I.map fun p => (p.2, s.2.1)) := fun hi => (List.nodup_append.1 h1).2.2 id hi id (List.mem_cons_self ..) rfl
  rw [flat_take _ _ _ _ _ _ _ hs, flat_took]
  exact ⟨rem_at h2, look_at h2⟩
theorem flat_gone (A C : List Bk) (s : Bk) : flat (A ++ btake s [] [] :: C) = flat (A ++ C) := by simp [flat_app, flat_cons, bfl, btake]
theorem ins_len (l : Ord) (id : Int) (c : Nat) : (ins l id c).length = l.length + 1 := by
  induction l with
  | nil => rfl
  | cons p l ih => rw [ins]; split <;> simp [ih]
end Go.Proofs.YtmagdjlcckgkpaaGreat

/- Orders by count: put. -/
namespace Go.Proofs.YtmagdjlcckgkpaaGreat
open Go.RowKit

def hdC (S : List Bk) : Nat := match S with
  | [] => 0
  | s :: _ => s.2.1
theorem hd_bks_nil {S : List Bk} (h : hdE (-1) (nodes (bks S)) = -1) : S = [] := by
  cases S with
  | nil => rfl
  | cons s S => simp only [bks_cons, List.map_cons, hdE] at h; omega
theorem last_bks {A : List Bk} {s : Bk} : hdE (-1) (nodes (bks (A ++ [s]))).reverse = (s.1 : Int) := by simp [bks, nodes, hdE]
theorem last_bks_nil {A : List Bk} (h : hdE (-1) (nodes (bks A)).reverse = -1) : A = [] := by
  rcases List.eq_nil_or_concat A with rfl | ⟨A0, s, rfl⟩
  · rfl
  · rw [List.concat_eq_append, last_bks] at h; omega
theorem last_bks_some {A : List Bk} (h : hdE (-1) (nodes (bks A)).reverse ≠ -1) : ∃ A0 s, A = A0 ++ [s] := by
  rcases List.eq_nil_or_concat A with rfl | ⟨A0, s, rfl⟩
  · exact absurd rfl h
  · exact ⟨A0, s, by rw [List.concat_eq_append]⟩

section
variable {P : Program} {n : Nat} {w0 : World} {F0 : Nat → Prop} {N R : Cond} {X : Nat → Cond} {m : Env} {H L L' : List Res} {r : Res} {w : World}
theorem bun_mid : Holds w0 F0 (bun (L ++ r :: L') :: H) w ↔ Holds w0 F0 (r :: bun (L ++ L') :: H) w := by
  have hp : ((L ++ r :: L') ++ H).Perm ((L ++ L') ++ (r :: H)) := by
    rw [List.append_assoc, List.append_assoc]
    refine List.Perm.append_left _ ?_
    exact (List.perm_middle (l₁ := L') (l₂ := H) (a := r)).symm
  constructor
  · intro h
    exact (Holds.bun.1 ((Holds.bun.2 h).perm hp)).perm (List.Perm.swap ..)
  · intro h
    exact Holds.bun.1 ((Holds.bun.2 (h.perm (List.Perm.swap ..))).perm hp.symm)
theorem w_mid {c : Code} (h : W P n w0 F0 c N R X m (r :: bun (L ++ L') :: H) w) : W P n w0 F0 c N R X m (bun (L ++ r :: L') :: H) w := w_eqv bun_mid.1 h
theorem w_amid {c : Code} (h : W P n w0 F0 c N R X m (bun (L ++ r :: L') :: H) w) : W P n w0 F0 c N R X m (r :: bun (L ++ L') :: H) w := w_eqv bun_mid.2 h
theorem wl_mid {ops : Array Oper} {l : List Oper} (h : WL P n w0 F0 ops N l m (r :: bun (L ++ L') :: H) w) : WL P n w0 F0 ops N l m (bun (L ++ r :: L') :: H) w := wl_eqv bun_mid.1 h
theorem wl_amid {ops : Array Oper} {l : List Oper} (h : WL P n w0 F0 ops N l m (bun (L ++ r :: L') :: H) w) : WL P n w0 F0 ops N l m (r :: bun (L ++ L') :: H) w := wl_eqv bun_mid.2 h
end
theorem build_bucket (c : Int) (B : Nat) (w : World) : (Instr.build 116 [(0, .int .u64 c), (1, .pointer (some ⟨B, 0, .none⟩))].toArray).run Tryz.prog w =
    .ok (.agg [.int .u64 c, .pointer (some ⟨B, 0, .none⟩)].toArray) w := by kernel_rfl
theorem build_place (x y : Int) (w : World) : (Instr.build 158 [(0, .bool true), (1, .int .i64 x), (2, .int .i64 y)].toArray).run Tryz.prog w =
    .ok (.agg [.bool true, .int .i64 x, .int .i64 y].toArray) w := by kernel_rfl

set_option maxHeartbeats 8000000 in
theorem rkput_spec (b n : Nat) (A C : List Bk) (r : Res) (x c : Nat) (w : World) (hx : x < n) (hid : (x : Int) ∉ ids (flat (A ++ C))) (hc : c ≤ 9223372036854775808) (hA : ∀ s ∈ A, s.2.1 < c) (hr : RkR b n (A ++ C) r) (hs : Holds w r.foot [r] w) :
    Spec Tryz.prog 95 [.pointer (some ⟨b, 0, .none⟩), .int .i64 (x : Int), .int .u64 (c : Int), .int .i64 (hdE (-1) (nodes (bks A)).reverse)] w r.foot fun v H => v = .int .i64 0 ∧ ∃ r', H = [r'] ∧ RkO b n (ins (flat (A ++ C)) x c) r' := by
  obtain ⟨hn1, hn2, B, pV, pl, rB, rs, rfl, hrB, hrs, hI⟩ := id hr
  refine enter (n := 121) Tryz.func95 rfl rfl [(0, _), (1, _), (2, _), (3, _)] rfl ⟨rfl, rfl, rfl, rfl, trivial⟩ hs ?_
  refine w_seq (w_reg (wl_f (f_assign rfl) (wl_end [(0, _), (1, _), (2, _), (3, _)] ⟨rfl, rfl, rfl, rfl, trivial⟩ ?_)))
  refine w_seq (w_unb (rkg b n _ B pV pl rB rs) ?_)
  refine w_reg (wl_f (f_move rfl) (wl_f (f_nilCheck rfl) (wl_f (f_fieldAddr 2 rfl Tryz.underlying119 rfl rfl (by kernel_rfl)) ?_)))
  refine wl_f (f_loadb 0 rfl Tryz.underlying111 rfl rfl rfl) ?_
  refine wl_e (e_call1 rB [_, _, _] rfl Tryz.func108 (by kernel_rfl) (pk1 2 rfl) (fun w hh hs' => bfirst_spec B n _ rB w hrB hs')) ?_
  rintro _ _ w1 ⟨_, rfl, rfl, rfl⟩
  refine wl_f (f_assign rfl) (wl_pick [1, 1, 0, 0] rfl ?_)
  refine wl_bun (H := []) [_, _, _, _] ?_
  refine wl_end [(0, _), (1, _), (2, _), (3, _), (9, _)] ⟨rfl, rfl, rfl, rfl, rfl, trivial⟩ ?_
  refine w_seq (w_seq (w_reg (wl_f (f_move rfl) (wl_f (f_neq rfl rfl) ?_))))
  refine wl_end [(0, _), (1, _), (2, _), (3, _), (9, _), (21, _)] ⟨rfl, rfl, rfl, rfl, rfl, rfl, trivial⟩ ?_
  refine w_post (fun m H w' => m = [(0, .pointer (some ⟨b, 0, .none⟩)), (1, .int .i64 x), (2, .int .u64 c), (3, .int .i64 (hdE (-1) (nodes (bks A)).reverse)), (9, .int .i64 (hdE (-1) (nodes (bks C))))] ∧ H = [bun (rkg b n (flat (A ++ C)).length B pV pl rB rs)]) ?_ ?_
  · skip
    refine w_ifd rfl (fun hc1 => ?_) (fun hc1 => ?_)
    · skip
      obtain ⟨A0, s0, rfl⟩ := last_bks_some (by simpa using hc1)
      rw [last_bks]
      refine w_unb (rkg b n _ B pV pl rB rs) ?_
      refine w_reg (wl_f (f_move rfl) (wl_f (f_nilCheck rfl) (wl_f (f_fieldAddr 2 rfl Tryz.underlying119 rfl rfl (by kernel_rfl)) ?_)))
      refine wl_f (f_loadb 0 rfl Tryz.underlying111 rfl rfl rfl) ?_
      refine wl_f (f_move rfl) (wl_e (e_call1 rB [_, _, _] rfl Tryz.func109 (by kernel_rfl) (pk1 2 rfl) (fun w hh hs' => bnext_spec B n _ rB s0.1 w hrB hs')) ?_)
      rintro _ _ w2 ⟨_, rfl, rfl, y, rfl, _, hy⟩
      obtain rfl := hy (bks A0) s0.1 _ (bks C) (by rw [bks_app, bks_app, List.append_assoc]; rfl) rfl
      refine wl_f (f_assign rfl) (wl_pick [1, 1, 0, 0] rfl ?_)
      refine wl_bun (H := []) [_, _, _, _] ?_
      refine wl_end [(0, _), (1, _), (2, _), (3, _), (9, _)] ⟨rfl, rfl, rfl, rfl, rfl, trivial⟩ ?_
      exact ⟨rfl, rfl⟩
    · skip
      obtain rfl : A = [] := last_bks_nil (by simpa using hc1)
      refine w_sub [(0, _), (1, _), (2, _), (3, _), (9, _)] ⟨rfl, rfl, rfl, rfl, rfl, trivial⟩ (w_skip ?_)
      exact ⟨rfl, rfl⟩
  · rintro _ _ w3 ⟨rfl, rfl⟩
    refine w_seq (w_block ?_)
    refine w_loop (fun k m H w' => ∃ A' C', m = [(0, .pointer (some ⟨b, 0, .none⟩)), (1, .int .i64 x), (2, .int .u64 c), (3, .int .i64 (hdE (-1) (nodes (bks A')).reverse)), (9, .int .i64 (hdE (-1) (nodes (bks C'))))] ∧ H = [bun (rkg b n (flat (A ++ C)).length B pV pl rB rs)] ∧
      A ++ C = A' ++ C' ∧ (∀ s ∈ A', s.2.1 < c) ∧ k = C'.length) C.length ⟨A, C, rfl, rfl, rfl, hA, rfl⟩ ?_
    rintro k _ _ w4 ⟨A', C', rfl, rfl, hS, hA', hk⟩
    refine w_seq (w_seq (w_reg (wl_f (f_move rfl) (wl_f (f_neq rfl rfl) ?_))))
    refine wl_f (f_move rfl) ?_
    refine wl_and (j := 2) (c := decide ((hdC C' : Int) < (c : Int))) 6 [(0, _), (1, _), (2, _), (3, _), (9, _)] ⟨rfl, rfl, rfl, rfl, rfl, trivial⟩ rfl rfl rfl rfl rfl (fun hg4_9 => ?_) (fun w4_9 => ?_)
    · skip
      refine wl_gf rfl rfl (f_move rfl) ?_
      refine wl_gf rfl rfl (f_move rfl) ?_
      obtain ⟨s, C2, rfl⟩ : ∃ s C2, C' = s :: C2 := by
        cases C' with
        | nil => simp [bks, nodes, hdE] at hg4_9
        | cons s t => exact ⟨s, t, rfl⟩
      refine wl_ge rfl rfl (e_call1 (bun (rkg b n _ B pV pl rB rs)) [] rfl Tryz.func93 (by kernel_rfl) (List.Perm.refl _) (fun w hh hs' => rkofg_spec b n _ A' s C2 B pV pl rB rs w (hS ▸ hrB) hs')) ?_
      rintro _ _ w5 ⟨_, rfl, rfl, rfl⟩
      refine wl_gf rfl rfl (f_field rfl Tryz.underlying116 rfl Tryz.underlying33 rfl rfl) ?_
      refine wl_gf rfl rfl (f_move rfl) ?_
      refine wl_gf rfl rfl (f_lss rfl rfl) ?_
      exact wl_pend rfl rfl ⟨rfl, rfl, rfl, rfl, rfl, trivial⟩ (List.Sublist.refl _)
    refine wl_end [(0, _), (1, _), (2, _), (3, _), (9, _), (37, _)] ⟨rfl, rfl, rfl, rfl, rfl, rfl, trivial⟩ ?_
    refine w_ifb rfl (fun hc2 => ?_) (fun hc2 => ?_)
    · skip
      refine w_skip ?_
      refine w_block ?_
      obtain ⟨s, C2, rfl⟩ : ∃ s C2, C' = s :: C2 := by
        cases C' with
        | nil => simp [bks, nodes, hdE] at hc2
        | cons s t => exact ⟨s, t, rfl⟩
      refine w_unb (rkg b n _ B pV pl rB rs) ?_
      refine w_reg (wl_f (f_move rfl) (wl_f (f_move rfl) (wl_f (f_nilCheck rfl) (wl_f (f_fieldAddr 2 rfl Tryz.underlying119 rfl rfl (by kernel_rfl)) ?_))))
      refine wl_f (f_loadb 0 rfl Tryz.underlying111 rfl rfl rfl) ?_
      refine wl_f (f_move rfl) (wl_e (e_call1 rB [_, _, _] rfl Tryz.func109 (by kernel_rfl) (pk1 2 rfl) (fun w hh hs' => bnext_spec B n _ rB s.1 w hrB hs')) ?_)
      rintro _ _ w6 ⟨_, rfl, rfl, y, rfl, _, hy⟩
      obtain rfl := hy (bks A') s.1 _ (bks C2) (by rw [hS, bks_app]; rfl) rfl
      refine wl_f (f_assign rfl) (wl_f (f_assign rfl) (wl_pick [1, 1, 0, 0] rfl ?_))
      refine wl_bun (H := []) [_, _, _, _] ?_
      refine wl_end [(0, _), (1, _), (2, _), (3, _), (9, _)] ⟨rfl, rfl, rfl, rfl, rfl, trivial⟩ ?_
      refine ⟨C2.length, by rw [hk]; exact Nat.lt_succ_self _, A' ++ [s], C2, by rw [last_bks]; rfl, rfl, by rw [hS, List.append_assoc]; rfl, fun t ht => ?_, rfl⟩
      rcases List.mem_append.1 ht with ht | ht
      · exact hA' t ht
      · rw [List.mem_singleton] at ht
        subst ht
        have h2 := (Bool.and_eq_true _ _).mp hc2 |>.2
        have h3 : (t.2.1 : Int) < (c : Int) := of_decide_eq_true h2
        omega
    · skip
      have hC0 : C' = [] ∨ c ≤ hdC C' := by
        cases C' with
        | nil => exact .inl rfl
        | cons s t =>
          refine .inr (Nat.le_of_not_lt fun h => hc2 ?_)
          rw [Bool.and_eq_true]
          refine ⟨?_, decide_eq_true (by show (s.2.1 : Int) < c; have h' : s.2.1 < c := h; omega)⟩
          simp only [bks_cons, List.map_cons, hdE]
          exact decide_eq_true (by omega)
      refine w_exit0 ?_
      refine w_seq (w_seq (w_reg (wl_f (f_move rfl) (wl_f (f_eql rfl rfl) ?_))))
      refine wl_f (f_move rfl) ?_
      refine wl_or (j := 2) (c := decide ((hdC C' : Int) ≠ (c : Int))) 6 [(0, _), (1, _), (2, _), (3, _), (9, _)] ⟨rfl, rfl, rfl, rfl, rfl, trivial⟩ rfl rfl rfl rfl rfl (fun hg6_9 => ?_) (fun w6_9 => ?_)
      · skip
        refine wl_gf rfl rfl (f_move rfl) ?_
        refine wl_gf rfl rfl (f_move rfl) ?_
        obtain ⟨s, C2, rfl⟩ : ∃ s C2, C' = s :: C2 := by
          cases C' with
          | nil => simp [bks, nodes, hdE] at hg6_9
          | cons s t => exact ⟨s, t, rfl⟩
        refine wl_ge rfl rfl (e_call1 (bun (rkg b n _ B pV pl rB rs)) [] rfl Tryz.func93 (by kernel_rfl) (List.Perm.refl _) (fun w hh hs' => rkofg_spec b n _ A' s C2 B pV pl rB rs w (hS ▸ hrB) hs')) ?_
        rintro _ _ w5 ⟨_, rfl, rfl, rfl⟩
        refine wl_gf rfl rfl (f_field rfl Tryz.underlying116 rfl Tryz.underlying33 rfl rfl) ?_
        refine wl_gf rfl rfl (f_move rfl) ?_
        refine wl_gf rfl rfl (f_neq rfl rfl) ?_
        exact wl_pend rfl rfl ⟨rfl, rfl, rfl, rfl, rfl, trivial⟩ (List.Sublist.refl _)
      refine wl_end [(0, _), (1, _), (2, _), (3, _), (9, _), (54, _)] ⟨rfl, rfl, rfl, rfl, rfl, rfl, trivial⟩ ?_
      refine w_post (fun m H w' => ∃ (A1 : List Bk) (s1 : Bk) (C1 : List Bk) (rB1 : Res) (ra : List Res) (ri : Res) (rc : List Res),
        m = [(0, .pointer (some ⟨b, 0, .none⟩)), (1, .int .i64 x), (9, .int .i64 s1.1)] ∧ H = [bun (rkg b n (flat (A ++ C)).length B pV pl rB1 (ra ++ ri :: rc))] ∧
        ChR kBuc B n (bks (A1 ++ s1 :: C1)) rB1 ∧ IdsR n A1 ra ∧ ChR kInt s1.2.2.1 n s1.2.2.2 ri ∧ IdsR n C1 rc ∧ s1.2.2.2.length < n ∧
        (∀ y, Fresh (nodes s1.2.2.2) y → RInv n (A1 ++ bpush s1 y x :: C1) (pl.set x (some (s1.1, y))) ∧ flat (A1 ++ bpush s1 y x :: C1) = ins (flat (A ++ C)) x c)) ?_ ?_
      · skip
        refine w_ifb rfl (fun hc3 => ?_) (fun hc3 => ?_)
        · skip
          obtain ⟨ra, rc, hrac, hra, hrc⟩ := IdsR.split (hS ▸ hrs : IdsR n (A' ++ C') rs)
          subst hrac
          have hI' : RInv n (A' ++ C') pl := hS ▸ hI
          have hid' : (x : Int) ∉ ids (flat (A' ++ C')) := hS ▸ hid
          have hlt := range_lt hI'.nid hI'.rng (id := (x : Int)) (by omega) hid'
          have hfl := flat_len hI'.ne
          simp only [ids, List.length_map] at hlt
          have hlb := bks_len (A' ++ C')
          have hrB' : ChR kBuc B n (bks (A' ++ C')) rB := hS ▸ hrB
          have hCgt : ∀ s ∈ C', c < s.2.1 := by
            cases C' with
            | nil => exact fun s hs => absurd hs (List.not_mem_nil)
            | cons s C2 =>
              have h1 : c ≤ s.2.1 := by
                rcases hC0 with h | h
                · cases h
                · exact h
              have h2 : s.2.1 ≠ c := by
                rw [Bool.or_eq_true] at hc3
                rcases hc3 with h | h
                · have h' := of_decide_eq_true h
                  simp only [bks_cons, List.map_cons, hdE] at h'
                  omega
                · have h' := of_decide_eq_true h
                  have h'' : (s.2.1 : Int) ≠ c := h'
                  omega
              intro t ht
              rcases List.mem_cons.1 ht with rfl | ht
              · omega
              · have := (asc_split hI'.asc).2 t ht; omega
          refine w_seq (w_reg (wl_f (f_move rfl) (wl_f (f_nilCheck rfl) (wl_f (f_fieldAddr 0 rfl Tryz.underlying119 rfl rfl (by kernel_rfl)) ?_))))
          refine wl_f (f_loadB 0 0 rfl rfl rfl Tryz.underlying3 rfl rfl) ?_
          refine wl_e (e_call0 rfl Tryz.func110 (by kernel_rfl) (fun w hh => inew_spec n w)) ?_
          rintro _ _ w7 ⟨_, rfl, ⟨_, rfl, rfl⟩ | ⟨k', k0, rN, hk', _, _, rfl, rfl, hrN⟩⟩
          · omega
          obtain rfl : n = k' := by omega
          refine wl_f (f_move rfl) (wl_f (f_extract rfl rfl) ?_)
          refine wl_f (f_extract rfl rfl) ?_
          refine wl_f (f_assign rfl) (wl_f (f_assign rfl) (wl_end [(0, _), (1, _), (2, _), (3, _), (10, _), (11, _)] ⟨rfl, rfl, rfl, rfl, rfl, rfl, trivial⟩ ?_))
          refine w_seq (w_seq (w_reg (wl_f (f_move rfl) (wl_f (f_neq rfl rfl) ?_))))
          refine wl_end [(0, _), (1, _), (2, _), (3, _), (10, _), (11, _), (64, _)] ⟨rfl, rfl, rfl, rfl, rfl, rfl, rfl, trivial⟩ ?_
          refine w_ifb rfl (fun h => absurd h (by simp)) (fun _ => ?_)
          refine w_skip ?_
          refine w_seq (w_reg (wl_f (f_move rfl) (wl_f (f_move rfl) (wl_f (f_build rfl (fun w => build_bucket _ _ w)) ?_))))
          refine wl_e (e_allocs [.int .u64 0, .pointer .none] (by kernel_rfl)) ?_
          rintro _ _ w10_3 ⟨b10_3, rfl, rfl⟩
          refine wl_e0 (e_store0 (us := [_, _]) rfl rfl rfl (by kernel_rfl) (by simp [Value.oneCell']) rfl rfl) ?_
          rintro _ _ w10_4 rfl
          refine wl_end [(0, _), (1, _), (3, _), (12, _)] ⟨rfl, rfl, rfl, rfl, trivial⟩ ?_
          refine w_seq (w_seq (w_reg (wl_f (f_move rfl) (wl_f (f_eql rfl rfl) ?_))))
          refine wl_pick [2, 0, 0] rfl ?_
          refine wl_unb (rkg b n _ B pV pl rB (ra ++ rc)) ?_
          refine wl_pick [0, 0, 1, 2, 1, 0] rfl ?_
          refine wl_end [(0, _), (1, _), (3, _), (12, _), (70, _)] ⟨rfl, rfl, rfl, rfl, rfl, trivial⟩ ?_
          refine w_post (fun m H w' => ∃ (y : Nat) (r' : Res), m = [(0, .pointer (some ⟨b, 0, .none⟩)), (1, .int .i64 x), (9, .int .i64 y), (11, .int .i64 0)] ∧
            H = [blk b [.int .i64 (n : Int), .int .i64 ((flat (A ++ C)).length : Int), .pointer (some ⟨B, 0, .none⟩), pV] 119, row pV 158 3 n (pcells pl), bun (ra ++ rc), rN, r'] ∧
            ChR kBuc B n (bks (A' ++ (y, c, k0, []) :: C')) r' ∧ y ∉ (A' ++ C').map (·.1)) ?_ ?_
          · skip
            refine w_ifd rfl (fun hc5 => ?_) (fun hc5 => ?_)
            · skip
              obtain rfl : A' = [] := last_bks_nil (by simpa using hc5)
              refine w_draw [(0, true), (1, true), (2, true), (3, true), (4, true), (5, false), (6, true), (7, true), (8, true), (9, true), (10, true)] ([_, _, _, _, _]) ([_]) mixed (by kernel_rfl) (by kernel_rfl) rfl (List.Perm.refl _) (fun w12_ => ?_)
              refine wd_f rfl (f_move rfl) (wd_f rfl (f_nilCheck rfl) (wd_f rfl (f_fieldAddr 2 rfl Tryz.underlying119 rfl rfl (by kernel_rfl)) ?_))
              refine wd_f rfl (f_loadb 0 rfl Tryz.underlying111 rfl rfl rfl) ?_
              refine wd_f rfl (f_loadsb (cs := [_, _]) 4 rfl Tryz.underlying116 rfl (by kernel_rfl) rfl rfl) ?_
              refine wd_e rfl (e_call1 rB [_, _, _, _, _] rfl Tryz.func111 (by kernel_rfl) (pk1 5 rfl) (fun w hh hs' => bPushFront_spec B n _ (c, some k0) rB w hn2 hrB' hs')) ?_
              rintro _ _ w12 ⟨_, rfl, ⟨h, _⟩ | ⟨_, y, r2, hy, rfl, rfl, hr2⟩⟩
              · exfalso
                rw [List.nil_append, List.nil_append] at h
                rw [List.nil_append] at hfl hlt hlb
                omega
              refine ⟨_, List.perm_append_comm, ?_⟩
              refine wd_f rfl (f_move rfl) (wd_f rfl (f_extract rfl rfl) ?_)
              refine wd_f rfl (f_extract rfl rfl) ?_
              refine wd_f rfl (f_assign rfl) (wd_f rfl (f_assign rfl) (wd_endp [(0, _), (1, _), (9, _), (11, _)] [0, 0, 0, 0, 1] ⟨rfl, rfl, rfl, rfl, trivial⟩ rfl ?_))
              exact ⟨y, r2, rfl, rfl, hr2, by rw [← nodes_bks]; exact hy.1⟩
            · skip
              obtain ⟨A0, s0, rfl⟩ := last_bks_some (by simpa using hc5)
              rw [last_bks]
              refine w_draw [(0, true), (1, true), (2, true), (3, true), (4, true), (5, true), (6, false), (7, true), (8, true), (9, true), (10, true), (11, true)] ([_, _, _, _, _]) ([_]) mixed (by kernel_rfl) (by kernel_rfl) rfl (List.Perm.refl _) (fun w13_ => ?_)
              refine wd_f rfl (f_move rfl) (wd_f rfl (f_nilCheck rfl) (wd_f rfl (f_fieldAddr 2 rfl Tryz.underlying119 rfl rfl (by kernel_rfl)) ?_))
              refine wd_f rfl (f_loadb 0 rfl Tryz.underlying111 rfl rfl rfl) ?_
              refine wd_f rfl (f_move rfl) (wd_f rfl (f_loadsb (cs := [_, _]) 4 rfl Tryz.underlying116 rfl (by kernel_rfl) rfl rfl) ?_)
              refine wd_e rfl (e_call1 rB [_, _, _, _, _] rfl Tryz.func112 (by kernel_rfl) (pk1 5 rfl) (fun w hh hs' => bInsertAfter_spec B n _ s0.1 (c, some k0) rB w hn2 hrB' hs')) ?_
              rintro _ _ w13 ⟨_, rfl, hG⟩
              rw [bks_app, bks_app, List.append_assoc] at hG
              have hnd := hrB'.nd
              rw [bks_app, bks_app, List.append_assoc] at hnd
              replace hG := BehindG.ok (A := bks A0) (y := s0.1) (a := (s0.2.1, some s0.2.2.1)) (B := bks C') hG hnd
              obtain ⟨h, _⟩ | ⟨_, y, r2, hy, rfl, rfl, hr2⟩ := hG
              · exfalso
                rw [bks_app, bks_app] at hlb
                have : (bks A0 ++ [(s0.1, s0.2.1, some s0.2.2.1)] ++ bks C').length = n := h
                have h3 : (bks A0 ++ bks [s0] ++ bks C').length = n := this
                omega
              refine ⟨_, List.perm_append_comm, ?_⟩
              refine wd_f rfl (f_move rfl) (wd_f rfl (f_extract rfl rfl) ?_)
              refine wd_f rfl (f_extract rfl rfl) ?_
              refine wd_f rfl (f_assign rfl) (wd_f rfl (f_assign rfl) (wd_endp [(0, _), (1, _), (9, _), (11, _)] [0, 0, 0, 0, 1] ⟨rfl, rfl, rfl, rfl, trivial⟩ rfl ?_))
              refine ⟨y, r2, rfl, rfl, ?_, ?_⟩
              · rw [bks_app, bks_app, bks_cons]; exact hr2
              · rw [← nodes_bks, bks_app, bks_app]; exact hy.1
          · rintro _ _ w14 ⟨y, r', rfl, rfl, hrB2, hyn⟩
            refine w_seq (w_reg (wl_f (f_move rfl) (wl_f (f_neq rfl rfl) ?_)))
            refine wl_end [(0, _), (1, _), (9, _), (11, _), (91, _)] ⟨rfl, rfl, rfl, rfl, rfl, trivial⟩ ?_
            refine w_ifb rfl (fun h => absurd h (by simp)) (fun _ => ?_)
            refine w_pick [3, 2, 0, 0, 0] rfl ?_
            refine w_amid ?_
            refine w_pick [1, 1, 1, 0] rfl ?_
            refine w_bun (H := []) [_, _, _, _] ?_
            refine w_sub [(0, _), (1, _), (9, _)] ⟨rfl, rfl, rfl, trivial⟩ (w_skip ?_)
            exact ⟨A', (y, c, k0, []), C', r', ra, rN, rc, rfl, rfl, hrB2, hra, hrN, hrc, by show 0 < n; omega, fun z hz => ⟨hI'.bucket hx hid' hyn hA' hCgt hc, by rw [hS]; exact (ins_bucket hA' hCgt).symm⟩⟩
        · skip
          obtain ⟨s, C2, rfl⟩ : ∃ s C2, C' = s :: C2 := by
            cases C' with
            | nil => exact absurd rfl hc3
            | cons s t => exact ⟨s, t, rfl⟩
          have hsc : s.2.1 = c := by
            refine Classical.byContradiction fun h => hc3 ?_
            rw [Bool.or_eq_true]
            exact .inr (decide_eq_true (by show (s.2.1 : Int) ≠ c; omega))
          refine w_sub [(0, _), (1, _), (9, _)] ⟨rfl, rfl, rfl, trivial⟩ (w_skip ?_)
          obtain ⟨ra, rb, rfl, h1, h2⟩ := IdsR.split (hS ▸ hrs : IdsR n (A' ++ s :: C2) rs)
          obtain ⟨ri, rc, rfl, h3, h4⟩ := h2.cons_inv
          have hI' : RInv n (A' ++ s :: C2) pl := hS ▸ hI
          have hlt := range_lt hI'.nid hI'.rng (id := (x : Int)) (by omega) (hS ▸ hid)
          refine ⟨A', s, C2, rB, ra, ri, rc, rfl, rfl, hS ▸ hrB, h1, h3, h4, ?_, fun y hy => ⟨hI'.push hx (hS ▸ hid) hy.1, ?_⟩⟩
          · rw [flat_mid] at hlt
            simp only [ids, List.length_map, List.length_append, bfl] at hlt
            omega
          · rw [hS, ← hsc, ins_push hI'.asc]
      · rintro _ _ w15 ⟨A1, s1, C1, rB1, ra, ri, rc, rfl, rfl, hrB1, hra, hri, hrc, hl1, hfin⟩
        refine w_seq (w_reg (wl_f (f_move rfl) (wl_f (f_move rfl) (wl_e (e_call1 (bun (rkg b n _ B pV pl rB1 (ra ++ ri :: rc))) [] rfl Tryz.func93 (by kernel_rfl) (List.Perm.refl _) (fun w hh hs' => rkofg_spec b n _ A1 s1 C1 B pV pl rB1 _ w hrB1 hs')) ?_))))
        rintro _ _ w16 ⟨_, rfl, rfl, rfl⟩
        rw [List.append_nil]
        refine wl_unb (rkg b n _ B pV pl rB1 (ra ++ ri :: rc)) ?_
        refine wl_pick [3, 0, 0, 0] rfl ?_
        refine wl_mid ?_
        refine wl_f (f_field rfl Tryz.underlying116 rfl Tryz.underlying114 rfl rfl) ?_
        refine wl_f (f_move rfl) (wl_e (e_call1 ri [_, _, _, _] rfl Tryz.func113 (by kernel_rfl) (pk1 0 rfl) (fun w hh hs' => ipushBack_spec s1.2.2.1 n s1.2.2.2 (x : Int) ri w hn2 hri hs')) ?_)
        rintro _ _ w17 ⟨_, rfl, ⟨h, _⟩ | ⟨_, y, r2, hy, rfl, rfl, hr2⟩⟩
        · exfalso
          rw [List.append_nil] at h
          omega
        rw [List.append_nil] at hy
        obtain ⟨hI2, hfl2⟩ := hfin y hy
        have hpl := hI.len
        have hlt2 := range_lt hI.nid hI.rng (id := (x : Int)) (by omega) hid
        simp only [ids, List.length_map] at hlt2
        refine wl_f (f_move rfl) (wl_f (f_extract rfl rfl) ?_)
        refine wl_f (f_extract rfl rfl) ?_
        refine wl_f (f_assign rfl) (wl_f (f_assign rfl) (wl_end [(0, _), (1, _), (9, _), (13, _), (14, _)] ⟨rfl, rfl, rfl, rfl, rfl, trivial⟩ ?_))
        refine w_seq (w_seq (w_reg (wl_f (f_move rfl) (wl_f (f_neq rfl rfl) ?_))))
        refine wl_end [(0, _), (1, _), (9, _), (13, _), (14, _), (103, _)] ⟨rfl, rfl, rfl, rfl, rfl, rfl, trivial⟩ ?_
        refine w_ifb rfl (fun h => absurd h (by simp)) (fun _ => ?_)
        refine w_skip ?_
        refine w_seq (w_with fun hh => ?_)
        obtain ⟨g, cp, rfl⟩ := row_form hh (i := 3) rfl (by omega)
        clear hh
        refine w_reg (wl_f (f_move rfl) (wl_f (f_nilCheck rfl) (wl_f (f_fieldAddr 3 rfl Tryz.underlying119 rfl rfl (by kernel_rfl)) ?_)))
        refine wl_f (f_loadb 2 rfl Tryz.underlying117 rfl rfl rfl) ?_
        refine wl_f (f_move rfl) (wl_f (f_move rfl) (wl_f (f_move rfl) (wl_f (f_build rfl (fun w => build_place _ _ w)) ?_)))
        refine wl_f (f_indexAddr 3 (i := x) rfl rfl Tryz.underlying117 (by kernel_rfl) rfl hx) ?_
        refine wl_e0 (e_storerN 3 (us := pcell (some (s1.1, y))) (xs' := pcells (pl.set x (some (s1.1, y)))) rfl rfl rfl rfl (by kernel_rfl) (by simp [pcell, Value.oneCell']) (by rw [pcells_len]; show 0 + x * 3 + 3 ≤ _; omega) (pcells_set _ (by omega))) ?_
        rintro _ _ w19_9 rfl
        refine wl_end [(0, _)] ⟨rfl, trivial⟩ ?_
        refine w_seq (w_reg (wl_f (f_move rfl) (wl_f (f_nilCheck rfl) (wl_f (f_fieldAddr 1 rfl Tryz.underlying119 rfl rfl (by kernel_rfl)) ?_))))
        refine wl_f (f_loadb 2 rfl Tryz.underlying3 rfl rfl rfl) ?_
        refine wl_f (f_add rfl rfl (by omega)) ?_
        refine wl_f (f_nilCheck rfl) (wl_f (f_fieldAddr 1 rfl Tryz.underlying119 rfl rfl (by kernel_rfl)) ?_)
        refine wl_e0 (e_store2 (us := [_]) rfl rfl rfl (by kernel_rfl) (by simp [Value.oneCell']) rfl rfl) ?_
        rintro _ _ w20_7 rfl
        refine wl_end [] trivial ?_
        refine w_seq (w_reg (wl_f (f_assign rfl) (wl_end [(8, _)] ⟨rfl, trivial⟩ ?_)))
        refine w_amid ?_
        refine w_pick [1, 1, 1, 0] rfl ?_
        refine w_bun (H := []) [_, _, _, _] ?_
        refine w_ret ?_
        refine ⟨_, _, fun a ha hh => results_tmps Tryz.results95 rfl a ha _, List.Sublist.refl _, ?_⟩
        refine ⟨rfl, _, rfl, A1 ++ bpush s1 y x :: C1, hfl2.symm, hn1, hn2, B, .slice (some ⟨g, 0, .none⟩) n cp, _, rB1, ra ++ r2 :: rc, ?_, ?_, hra.join ⟨hr2, hrc⟩, hI2⟩
        · rw [rks, hfl2, ins_len, rkg]
          rfl
        · rw [bks_app, bks_cons] at hrB1
          rw [bks_app, bks_cons]
          exact hrB1
end Go.Proofs.YtmagdjlcckgkpaaGreat

/- Orders by count: take. -/
namespace Go.Proofs.YtmagdjlcckgkpaaGreat
open Go.RowKit

theorem build_place0 (w : World) : (Instr.build 158 #[]).run Tryz.prog w = .ok (.agg [.bool false, .int .i64 0, .int .i64 0].toArray) w := by kernel_rfl
theorem rem_len {l : Ord} {id : Int} (h : id ∈ ids l) : (rem l id).length + 1 = l.length := by
  induction l with
  | nil => simp [ids] at h
  | cons p l ih =>
    rw [rem]
    split
    · simp
    · rename_i hp
      simp only [ids, List.map_cons, List.mem_cons] at h
      have := ih (by rcases h with rfl | h; exact absurd rfl hp; exact h)
      rw [List.length_cons, List.length_cons]; omega

set_option maxHeartbeats 8000000 in
theorem rktake_spec (b n : Nat) (A : List Bk) (s : Bk) (C : List Bk) (I J : List (Nat × Int)) (y x : Nat) (r : Res) (w : World) (hsI : s.2.2.2 = I ++ (y, (x : Int)) :: J) (hr : RkR b n (A ++ s :: C) r) (hs : Holds w r.foot [r] w) :
    Spec Tryz.prog 94 [.pointer (some ⟨b, 0, .none⟩), .int .i64 (x : Int)] w r.foot fun v H => v = .tuple #[.int .u64 (s.2.1 : Int), .int .i64 (hdE (-1) (nodes (bks A)).reverse)] ∧
      ∃ C' r', H = [r'] ∧ RkR b n (A ++ C') r' ∧ flat (A ++ C') = rem (flat (A ++ s :: C)) (x : Int) := by
  obtain ⟨hn1, hn2, B, pV, pl, rB, rs, rfl, hrB, hrs, hI⟩ := id hr
  have hpl := hI.len
  have hxi : (x : Int) ∈ ids (flat (A ++ s :: C)) := ids_flat.2 ⟨s, by simp, y, by rw [hsI]; simp⟩
  have hx := hI.rng _ hxi
  replace hx : x < n := by omega
  have hat : pl[x]? = some (some (s.1, y)) := by
    have := hI.at_ s (by simp) (y, (x : Int)) (by rw [hsI]; simp)
    simpa using this
  obtain ⟨ra, rb, rfl, hra, hrb⟩ := hrs.split
  obtain ⟨ri, rc, rfl, hri, hrc⟩ := hrb.cons_inv
  have hrl := rem_len hxi
  obtain ⟨hrem, _⟩ := rem_take hI hsI
  have hln : (flat (A ++ s :: C)).length ≤ n := by
    have := range_len hI.nid hI.rng
    simpa [ids] using this
  have hrB2 : ChR kBuc B n (bks A ++ (s.1, s.2.1, some s.2.2.1) :: bks C) rB := by rw [bks_app, bks_cons] at hrB; exact hrB
  refine enter (n := 59) Tryz.func94 rfl rfl [(0, _), (1, _)] rfl ⟨rfl, rfl, trivial⟩ hs ?_
  refine w_with fun hh => ?_
  obtain ⟨g, cp, rfl⟩ := rowB_form hh (i := 0) (j := 1) rfl rfl (by omega)
  clear hh
  refine w_seq (w_reg (wl_f (f_assign rfl) (wl_f (f_assign rfl) (wl_end [(0, _), (1, _)] ⟨rfl, rfl, trivial⟩ ?_))))
  refine w_seq (w_reg (wl_f (f_move rfl) (wl_f (f_nilCheck rfl) (wl_f (f_fieldAddr 3 rfl Tryz.underlying119 rfl rfl (by kernel_rfl)) ?_))))
  refine wl_f (f_loadB 0 0 rfl rfl rfl Tryz.underlying117 rfl rfl) ?_
  refine wl_f (f_move rfl) (wl_f (f_indexAddr 3 (i := x) rfl rfl Tryz.underlying117 (by kernel_rfl) rfl hx) ?_)
  refine wl_f (f_loadsBr (cs := pcell (some (s.1, y))) 0 1 rfl rfl rfl Tryz.underlying158 rfl (by kernel_rfl) (pcells_get hat)) ?_
  refine wl_e (e_allocs [.bool false, .int .i64 0, .int .i64 0] (by kernel_rfl)) ?_
  rintro _ _ w1_7 ⟨b1_7, rfl, rfl⟩
  refine wl_e0 (e_store0 (us := [_, _, _]) rfl rfl rfl (by kernel_rfl) (by simp [Value.oneCell']) rfl rfl) ?_
  rintro _ _ w1_8 rfl
  refine wl_end [(0, _), (1, _), (6, _)] ⟨rfl, rfl, rfl, trivial⟩ ?_
  refine w_seq (w_reg (wl_f (f_move rfl) (wl_f (f_fieldAddr 1 rfl Tryz.underlying158 rfl rfl (by kernel_rfl)) ?_)))
  refine wl_f (f_loadb 0 rfl Tryz.underlying3 rfl rfl rfl) ?_
  refine wl_e (e_call1 (bun (rkg b n _ B _ pl rB (ra ++ ri :: rc))) [_] rfl Tryz.func93 (by kernel_rfl) (pk1 1 rfl) (fun w hh hs' => rkofg_spec b n _ A s C B _ pl rB _ w hrB hs')) ?_
  rintro _ _ w2 ⟨_, rfl, rfl, rfl⟩
  refine wl_e (e_allocs [.int .u64 0, .pointer .none] (by kernel_rfl)) ?_
  rintro _ _ w2_4 ⟨b2_4, rfl, rfl⟩
  refine wl_e0 (e_store0 (us := [_, _]) rfl rfl rfl (by kernel_rfl) (by simp [Value.oneCell']) rfl rfl) ?_
  rintro _ _ w2_5 rfl
  refine wl_end [(0, _), (1, _), (6, _), (7, _)] ⟨rfl, rfl, rfl, rfl, trivial⟩ ?_
  refine w_seq (w_pick [1, 0, 0] rfl ?_)
  refine w_unb (rkg b n _ B _ pl rB (ra ++ ri :: rc)) ?_
  refine w_pick [0, 0, 1, 1, 1, 0] rfl ?_
  refine w_draw [(0, true), (1, true), (2, true), (3, true), (4, true), (5, true), (6, false), (7, true)] ([_, _, _, _, _]) ([_]) mixed (by kernel_rfl) (by kernel_rfl) rfl (List.Perm.refl _) (fun w3_ => ?_)
  refine wd_f rfl (f_move rfl) (wd_f rfl (f_nilCheck rfl) (wd_f rfl (f_fieldAddr 2 rfl Tryz.underlying119 rfl rfl (by kernel_rfl)) ?_))
  refine wd_f rfl (f_loadb 0 rfl Tryz.underlying111 rfl rfl rfl) ?_
  refine wd_f rfl (f_fieldAddr 1 rfl Tryz.underlying158 rfl rfl (by kernel_rfl)) ?_
  refine wd_f rfl (f_loadb 4 rfl Tryz.underlying3 rfl rfl rfl) ?_
  refine wd_e rfl (e_call1 rB [_, _, _, _, _] rfl Tryz.func104 (by kernel_rfl) (pk1 5 rfl) (fun w hh hs' => bprev_spec B n _ rB s.1 w hrB2 hs')) ?_
  rintro _ _ w3 ⟨_, rfl, rfl, z, rfl, _, hz⟩
  obtain rfl := hz (bks A) s.1 _ (bks C) rfl rfl
  refine ⟨_, List.perm_append_comm, ?_⟩
  refine wd_f rfl (f_assign rfl) (wd_end [(0, _), (1, _), (5, _), (6, _), (7, _)] ⟨rfl, rfl, rfl, rfl, rfl, trivial⟩ ?_)
  refine w_seq (w_pick [2, 0, 0, 0, 0, 0] rfl ?_)
  refine w_mid ?_
  refine w_reg (wl_f (f_fieldAddr 1 rfl Tryz.underlying116 rfl rfl (by kernel_rfl)) ?_)
  refine wl_f (f_loadb 4 rfl Tryz.underlying114 rfl rfl rfl) ?_
  refine wl_f (f_fieldAddr 2 rfl Tryz.underlying158 rfl rfl (by kernel_rfl)) ?_
  refine wl_f (f_loadb 5 rfl Tryz.underlying3 rfl rfl rfl) ?_
  refine wl_e (e_call1 ri [_, _, _, _, _, _] rfl Tryz.func105 (by kernel_rfl) (pk1 0 rfl) (fun w hh hs' => iRemove_spec s.2.2.1 n (I ++ (y, (x : Int)) :: J) y ri w hn2 (hsI ▸ hri) hs')) ?_
  rintro _ _ w4 ⟨_, rfl, hG⟩
  obtain ⟨ri2, rfl, rfl, hri2⟩ := RemG.ok hG (ChR.nd (hsI ▸ hri))
  refine wl_end [(0, _), (1, _), (5, _), (6, _), (7, _)] ⟨rfl, rfl, rfl, rfl, rfl, trivial⟩ ?_
  refine w_seq (w_seq (w_reg (wl_f (f_fieldAddr 1 rfl Tryz.underlying116 rfl rfl (by kernel_rfl)) ?_)))
  refine wl_f (f_loadb 4 rfl Tryz.underlying114 rfl rfl rfl) ?_
  refine wl_e (e_call1 ri2 [_, _, _, _, _, _] rfl Tryz.func106 (by kernel_rfl) (pk1 0 rfl) (fun w hh hs' => ilen_spec s.2.2.1 n (I ++ J) ri2 w hri2 hs')) ?_
  rintro _ _ w5 ⟨_, rfl, rfl, rfl⟩
  refine wl_f (f_eql rfl rfl) ?_
  refine wl_end [(0, _), (1, _), (5, _), (6, _), (7, _), (34, _)] ⟨rfl, rfl, rfl, rfl, rfl, rfl, trivial⟩ ?_
  refine w_post (fun m H w' => ∃ (C' : List Bk) (rs2 : List Res) (rB2 : Res), m = [(0, .pointer (some ⟨b, 0, .none⟩)), (1, .int .i64 x), (5, .int .i64 (hdE (-1) (nodes (bks A)).reverse)), (7, .pointer (some ⟨b2_4, 0, .none⟩))] ∧
    H = [blk b [.int .i64 (n : Int), .int .i64 ((flat (A ++ s :: C)).length : Int), .pointer (some ⟨B, 0, .none⟩), .slice (some ⟨g, 0, .none⟩) n cp] 119, row (.slice (some ⟨g, 0, .none⟩) n cp) 158 3 n (pcells pl), bun rs2, rB2,
      blk b2_4 [.int .u64 (s.2.1 : Int), .pointer (some ⟨s.2.2.1, 0, .none⟩)] 116] ∧
    ChR kBuc B n (bks (A ++ C')) rB2 ∧ IdsR n (A ++ C') rs2 ∧ RInv n (A ++ C') (pl.set x none) ∧ flat (A ++ C') = rem (flat (A ++ s :: C)) (x : Int)) ?_ ?_
  · skip
    refine w_ifd rfl (fun hc1 => ?_) (fun hc1 => ?_)
    · skip
      have hIJ : I ++ J = [] := by
        have : ((I ++ J).length : Int) = 0 := hc1
        exact List.length_eq_zero_iff.1 (by omega)
      obtain ⟨rfl, rfl⟩ := List.append_eq_nil_iff.1 hIJ
      refine w_draw [(0, true), (1, true), (2, true), (3, true), (4, true), (5, true), (6, false)] ([_, _, _, _, _, _]) ([_]) mixed (by kernel_rfl) (by kernel_rfl) rfl (List.Perm.refl _) (fun w6_ => ?_)
      refine wd_f rfl (f_move rfl) (wd_f rfl (f_nilCheck rfl) (wd_f rfl (f_fieldAddr 2 rfl Tryz.underlying119 rfl rfl (by kernel_rfl)) ?_))
      refine wd_f rfl (f_loadb 2 rfl Tryz.underlying111 rfl rfl rfl) ?_
      refine wd_f rfl (f_fieldAddr 1 rfl Tryz.underlying158 rfl rfl (by kernel_rfl)) ?_
      refine wd_f rfl (f_loadb 5 rfl Tryz.underlying3 rfl rfl rfl) ?_
      refine wd_e rfl (e_call1 rB [_, _, _, _, _, _] rfl Tryz.func107 (by kernel_rfl) (pk1 6 rfl) (fun w hh hs' => bRemove_spec B n _ s.1 rB w hn2 hrB2 hs')) ?_
      rintro _ _ w6 ⟨_, rfl, hG2⟩
      obtain ⟨rB3, rfl, rfl, hrB3⟩ := RemG.ok hG2 hrB2.nd
      refine ⟨_, List.perm_append_comm, ?_⟩
      refine wd_endp [(0, _), (1, _), (5, _), (7, _)] [2, 2, 1, 3, 1] ⟨rfl, rfl, rfl, rfl, trivial⟩ rfl ?_
      exact ⟨C, ra ++ rc, rB3, rfl, rfl, by rw [bks_app]; exact hrB3, hra.join hrc, hI.gone hsI, by rw [hrem, flat_gone]⟩
    · skip
      have hIJ : I ++ J ≠ [] := fun h => hc1 (by rw [h]; rfl)
      refine w_amid ?_
      refine w_pick [1, 1, 0, 2, 0] rfl ?_
      refine w_sub [(0, _), (1, _), (5, _), (7, _)] ⟨rfl, rfl, rfl, rfl, trivial⟩ (w_skip ?_)
      exact ⟨btake s I J :: C, ra ++ ri2 :: rc, rB, rfl, rfl, by rw [bks_app, bks_cons]; exact hrB2, hra.join ⟨hri2, hrc⟩, hI.take hsI hIJ, hrem.symm⟩
  · rintro _ _ w7 ⟨C', rs2, rB3, rfl, rfl, hrB3, hrs2, hI3, hfl3⟩
    refine w_seq (w_reg (wl_f (f_move rfl) (wl_f (f_nilCheck rfl) (wl_f (f_fieldAddr 3 rfl Tryz.underlying119 rfl rfl (by kernel_rfl)) ?_))))
    refine wl_f (f_loadb 0 rfl Tryz.underlying117 rfl rfl rfl) ?_
    refine wl_f (f_move rfl) (wl_f (f_build rfl build_place0) ?_)
    refine wl_f (f_indexAddr 3 (i := x) rfl rfl Tryz.underlying117 (by kernel_rfl) rfl hx) ?_
    refine wl_e0 (e_storerN 1 (us := pcell none) (xs' := pcells (pl.set x none)) rfl rfl rfl rfl (by kernel_rfl) (by simp [pcell, Value.oneCell']) (by rw [pcells_len]; show 0 + x * 3 + 3 ≤ _; omega) (pcells_set _ (by omega))) ?_
    rintro _ _ w7_7 rfl
    refine wl_end [(0, _), (5, _), (7, _)] ⟨rfl, rfl, rfl, trivial⟩ ?_
    refine w_seq (w_reg (wl_f (f_move rfl) (wl_f (f_nilCheck rfl) (wl_f (f_fieldAddr 1 rfl Tryz.underlying119 rfl rfl (by kernel_rfl)) ?_))))
    refine wl_f (f_loadb 0 rfl Tryz.underlying3 rfl rfl rfl) ?_
    refine wl_f (f_sub rfl rfl (by omega)) ?_
    refine wl_f (f_nilCheck rfl) (wl_f (f_fieldAddr 1 rfl Tryz.underlying119 rfl rfl (by kernel_rfl)) ?_)
    refine wl_e0 (e_store0 (us := [_]) rfl rfl rfl (by kernel_rfl) (by simp [Value.oneCell']) rfl rfl) ?_
    rintro _ _ w8_7 rfl
    refine wl_end [(5, _), (7, _)] ⟨rfl, rfl, trivial⟩ ?_
    refine w_seq (w_reg (wl_f (f_fieldAddr 0 rfl Tryz.underlying116 rfl rfl (by kernel_rfl)) ?_))
    refine wl_f (f_loadb 4 rfl Tryz.underlying33 rfl rfl rfl) ?_
    refine wl_f (f_move rfl) (wl_f (f_assign rfl) (wl_f (f_assign rfl) (wl_end [(4, _), (5, _)] ⟨rfl, rfl, trivial⟩ ?_)))
    refine w_pick [0, 0, 1, 0] rfl ?_
    refine w_bun (H := []) [_, _, _, _] ?_
    refine w_ret ?_
    refine ⟨_, _, fun a ha hh => results_tmps Tryz.results94 rfl a ha _, List.Sublist.refl _, ?_⟩
    refine ⟨rfl, C', _, rfl, ⟨hn1, hn2, B, .slice (some ⟨g, 0, .none⟩) n cp, _, rB3, rs2, ?_, hrB3, hrs2, hI3⟩, hfl3⟩
    rw [rks, hfl3, rkg, show (((rem (flat (A ++ s :: C)) (x : Int)).length : Nat) : Int) = ((flat (A ++ s :: C)).length : Int) - 1 by omega]
    rfl
end Go.Proofs.YtmagdjlcckgkpaaGreat

/- Sums of weights. -/
namespace Go.Proofs.YtmagdjlcckgkpaaGreat
open Go.RowKit

def addE : Array Value → Sem Value := fun args => do
  let (x, y, c) ← Extern.MathBitsCarry.three "Add64" args
  pure (Extern.MathBitsCarry.pair ((x + y + c) % Extern.MathBitsCarry.m64) ((x + y + c) / Extern.MathBitsCarry.m64))
theorem run_add64 {P : Program} (a b : Nat) (w : World) : (addE #[.int .u64 (a : Int), .int .u64 (b : Int), .int .u64 0]).run P w = .ok (.tuple #[.int .u64 (((a + b) % 18446744073709551616 : Nat) : Int), .int .u64 (((a + b) / 18446744073709551616 : Nat) : Int)]) w := by
  rfl
theorem satadd_spec (a b : Nat) (w : World) (ha : a < 18446744073709551616) (hb : b < 18446744073709551616) : Spec Tryz.prog 36 [.int .u64 (a : Int), .int .u64 (b : Int)] w Nil fun r H =>
    r = .tuple #[.int .u64 (if a + b < 18446744073709551616 then ((a + b : Nat) : Int) else 18446744073709551615), .bool (decide (a + b < 18446744073709551616))] ∧ H = [] := by
  refine enter (n := 17) Tryz.func36 rfl rfl [(0, _), (1, _)] rfl ⟨rfl, rfl, trivial⟩ (Holds.start _ _) ?_
  refine w_seq (w_reg (wl_f (f_assign rfl) (wl_f (f_assign rfl) (wl_end [(0, _), (1, _)] ⟨rfl, rfl, trivial⟩ ?_))))
  refine w_seq (w_reg (wl_f (f_move rfl) (wl_f (f_move rfl) (wl_f (f_extern (e := addE) rfl Tryz.func50 (by kernel_rfl) rfl (by kernel_rfl) (by kernel_rfl) (fun w => run_add64 a b w)) ?_))))
  skip
  refine wl_f (f_move rfl) (wl_f (f_extract rfl rfl) ?_)
  refine wl_f (f_extract rfl rfl) ?_
  refine wl_f (f_assign rfl) (wl_f (f_assign rfl) (wl_end [(6, _), (7, _)] ⟨rfl, rfl, trivial⟩ ?_))
  refine w_seq (w_seq (w_reg (wl_f (f_move rfl) (wl_f (f_neq rfl rfl) ?_))))
  refine wl_end [(6, _), (15, _)] ⟨rfl, rfl, trivial⟩ ?_
  refine w_ifd rfl (fun hc1 => ?_) (fun hc1 => ?_)
  · skip
    have hov : ¬ a + b < 18446744073709551616 := fun h => hc1 (by rw [Nat.div_eq_of_lt h]; rfl)
    refine w_seq (w_reg (wl_f (f_assign rfl) (wl_f (f_assign rfl) (wl_end [(4, _), (5, _)] ⟨rfl, rfl, trivial⟩ ?_))))
    refine w_ret ?_
    refine ⟨_, _, fun a ha hh => results_tmps Tryz.results36 rfl a ha _, List.Sublist.refl _, ?_⟩
    exact ⟨by rw [if_neg hov, decide_eq_false hov]; rfl, rfl⟩
  · skip
    have hov : a + b < 18446744073709551616 := by
      refine Classical.byContradiction fun h => hc1 fun e => ?_
      have h2 : (a + b) / 18446744073709551616 = 0 := by exact_mod_cast e
      omega
    refine w_skip ?_
    refine w_seq (w_reg (wl_f (f_move rfl) (wl_f (f_assign rfl) (wl_f (f_assign rfl) (wl_end [(4, _), (5, _)] ⟨rfl, rfl, trivial⟩ ?_)))))
    refine w_ret ?_
    refine ⟨_, _, fun a ha hh => results_tmps Tryz.results36 rfl a ha _, List.Sublist.refl _, ?_⟩
    exact ⟨by rw [if_pos hov, decide_eq_true hov, Nat.mod_eq_of_lt hov]; rfl, rfl⟩
theorem satfits_spec (a b : Nat) (w : World) (ha : a < 18446744073709551616) (hb : b < 18446744073709551616) : Spec Tryz.prog 81 [.int .u64 (a : Int), .int .u64 (b : Int)] w Nil fun r H =>
    r = .bool (decide (a + b ≤ 9223372036854775808)) ∧ H = [] := by
  refine enter (n := 18) Tryz.func81 rfl rfl [(0, _), (1, _)] rfl ⟨rfl, rfl, trivial⟩ (Holds.start _ _) ?_
  refine w_seq (w_reg (wl_f (f_assign rfl) (wl_end [(0, _), (1, _)] ⟨rfl, rfl, trivial⟩ ?_)))
  refine w_seq (w_reg (wl_f (f_move rfl) (wl_f (f_move rfl) (wl_e (e_call0 rfl Tryz.func36 (by kernel_rfl) (fun w hh => satadd_spec a b w ha hb)) ?_))))
  rintro _ _ w1 ⟨_, rfl, rfl, rfl⟩
  refine wl_f (f_move rfl) (wl_f (f_extract rfl rfl) ?_)
  refine wl_f (f_extract rfl rfl) ?_
  refine wl_f (f_assign rfl) (wl_f (f_assign rfl) (wl_end [(5, _), (6, _)] ⟨rfl, rfl, trivial⟩ ?_))
  refine w_seq (w_reg (wl_f (f_move rfl) (wl_f (f_move rfl) ?_)))
  refine wl_and (j := 1) (c := decide ((if a + b < 18446744073709551616 then ((a + b : Nat) : Int) else 18446744073709551615) ≤ 9223372036854775808)) 2 [] trivial rfl rfl rfl rfl rfl (fun hg2_4 => ?_) (fun w2_4 => ?_)
  · skip
    refine wl_gf rfl rfl (f_move rfl) ?_
    refine wl_gf rfl rfl (f_leq rfl rfl) ?_
    exact wl_pend rfl rfl trivial (List.Sublist.refl _)
  refine wl_f (f_assign rfl) (wl_end [(4, _)] ⟨rfl, trivial⟩ ?_)
  refine w_ret ?_
  refine ⟨_, _, fun a ha hh => results_tmps Tryz.results81 rfl a ha _, List.Sublist.refl _, ?_⟩
  refine ⟨?_, rfl⟩
  show Value.bool _ = _
  congr 1
  by_cases h : a + b < 18446744073709551616
  · rw [if_pos h, decide_eq_true h, Bool.true_and]
    by_cases h2 : a + b ≤ 9223372036854775808
    · rw [decide_eq_true h2]; exact decide_eq_true (by omega)
    · rw [decide_eq_false h2]; exact decide_eq_false (by omega)
  · rw [decide_eq_false h, Bool.false_and, decide_eq_false (by omega)]
end Go.Proofs.YtmagdjlcckgkpaaGreat

/- Orders by count: sums of weights; inserting, raising, removing, counting. -/
namespace Go.Proofs.YtmagdjlcckgkpaaGreat
open Go.RowKit


/-! ### What is done -/
def oins (n : Nat) (l : Ord) (id : Int) (c : Nat) : Int × Ord := if id < 0 ∨ (n : Int) ≤ id then (1, l) else if id ∈ ids l then (10, l) else if 9223372036854775808 < c then (12, l) else (0, ins l id c)
def orai (l : Ord) (id : Int) (k : Nat) : Int × Ord := match look l id with
  | none => (8, l)
  | some c => if c + k ≤ 9223372036854775808 then if k = 0 then (0, l) else (0, ins (rem l id) id (c + k)) else (12, l)
def orem (l : Ord) (id : Int) : Nat × Int × Ord := match look l id with
  | none => (0, 8, l)
  | some c => (c, 0, rem l id)
theorem find_bk {S : List Bk} {id : Int} (h : id ∈ ids (flat S)) : ∃ A s C I y J, S = A ++ s :: C ∧ s.2.2.2 = I ++ (y, id) :: J := by
  obtain ⟨s, hs, y, hy⟩ := ids_flat.1 h
  obtain ⟨A, C, rfl⟩ := List.append_of_mem hs
  obtain ⟨I, J, e⟩ := List.append_of_mem hy
  exact ⟨A, s, C, I, y, J, rfl, e⟩
theorem ids_ins {l : Ord} {id : Int} {c : Nat} : ∀ {z : Int}, z ∈ ids (ins l id c) ↔ z = id ∨ z ∈ ids l := by
  induction l with
  | nil => simp [ins, ids]
  | cons p l ih =>
    intro z
    rw [ins]
    split
    · simp only [ids, List.map_cons, List.mem_cons] at ih ⊢
      rw [ih]
      constructor
      · rintro (h | h | h) <;> simp [h]
      · rintro (h | h | h) <;> simp [h]
    · simp [ids]
theorem rem_notin {l : Ord} {id : Int} (h : (ids l).Nodup) : id ∉ ids (rem l id) := by
  induction l with
  | nil => simp [rem, ids]
  | cons p l ih =>
    simp only [ids, List.map_cons, List.nodup_cons] at h
    rw [rem]
    split
    · rename_i hp; rw [← hp]; exact h.1
    · rename_i hp
      simp only [ids, List.map_cons, List.mem_cons, not_or]
      exact ⟨fun e => hp e.symm, ih h.2⟩
theorem pcells_bucket {pl : List (Option (Nat × Nat))} {i x y : Nat} (h : pl[i]? = some (some (x, y))) : (pcells pl)[0 + i * 3 + 1]? = some (.int .i64 x) := by
  have h1 : (((pcells pl).drop (0 + i * 3)).take 3)[1]? = some (.int .i64 x) := by rw [pcells_get h]; rfl
  rw [List.getElem?_take, if_pos (by omega), List.getElem?_drop] at h1
  exact h1

theorem rkhas_nil (id : Int) (w : World) : Spec Tryz.prog 92 [.pointer .none, .int .i64 id] w Nil fun r H => r = .bool false ∧ H = [] := by
  refine enter (n := 29) Tryz.func92 rfl rfl [(0, _), (1, _)] rfl ⟨rfl, rfl, trivial⟩ (Holds.start _ _) ?_
  refine w_seq (w_reg (wl_f (f_assign rfl) (wl_end [(0, _), (1, _)] ⟨rfl, rfl, trivial⟩ ?_)))
  refine w_seq (w_reg (wl_f (f_move rfl) (wl_f (f_neqnil rfl rfl Tryz.underlying89) ?_)))
  refine wl_f (f_move rfl) (wl_gs rfl rfl ?_)
  refine wl_gs rfl rfl ?_
  refine wl_f (f_pick0 rfl rfl) ?_
  refine wl_f (f_move rfl) (wl_gs rfl rfl ?_)
  refine wl_gs rfl rfl ?_
  refine wl_gs rfl rfl ?_
  refine wl_gs rfl rfl ?_
  refine wl_gs rfl rfl ?_
  refine wl_gs rfl rfl ?_
  refine wl_f (f_pick0 rfl rfl) ?_
  refine wl_f (f_move rfl) (wl_gs rfl rfl ?_)
  refine wl_gs rfl rfl ?_
  refine wl_gs rfl rfl ?_
  refine wl_gs rfl rfl ?_
  refine wl_gs rfl rfl ?_
  refine wl_gs rfl rfl ?_
  refine wl_gs rfl rfl ?_
  refine wl_gs rfl rfl ?_
  refine wl_f (f_pick0 rfl rfl) ?_
  refine wl_f (f_assign rfl) (wl_end [(4, _)] ⟨rfl, trivial⟩ ?_)
  refine w_ret ?_
  refine ⟨_, _, fun a ha hh => results_tmps Tryz.results92 rfl a ha _, List.Sublist.refl _, ?_⟩
  exact ⟨rfl, rfl⟩
theorem rkinsert_nil (id : Int) (c : Int) (w : World) : Spec Tryz.prog 97 [.pointer .none, .int .i64 id, .int .u64 c] w Nil fun r H => r = .int .i64 8 ∧ H = [] := by
  refine enter (n := 32) Tryz.func97 rfl rfl [(0, _), (1, _), (2, _)] rfl ⟨rfl, rfl, rfl, trivial⟩ (Holds.start _ _) ?_
  refine w_seq (w_reg (wl_f (f_assign rfl) (wl_end [(0, _), (1, _), (2, _)] ⟨rfl, rfl, rfl, trivial⟩ ?_)))
  refine w_seq (w_block ?_)
  refine w_seq (w_reg (wl_f (f_move rfl) (wl_f (f_eqlnil rfl rfl Tryz.underlying89) ?_)))
  refine wl_f (f_assign rfl) (wl_end [(0, _), (1, _), (2, _), (7, _)] ⟨rfl, rfl, rfl, rfl, trivial⟩ ?_)
  refine w_ift rfl ?_
  refine w_seq (w_reg (wl_f (f_assign rfl) (wl_end [(6, _)] ⟨rfl, trivial⟩ ?_)))
  refine w_ret ?_
  refine ⟨_, _, fun a ha hh => results_tmps Tryz.results97 rfl a ha _, List.Sublist.refl _, ?_⟩
  exact ⟨rfl, rfl⟩
theorem rkraise_nil (id : Int) (c : Int) (w : World) : Spec Tryz.prog 83 [.pointer .none, .int .i64 id, .int .u64 c] w Nil fun r H => r = .int .i64 8 ∧ H = [] := by
  refine enter (n := 44) Tryz.func83 rfl rfl [(0, _), (1, _), (2, _)] rfl ⟨rfl, rfl, rfl, trivial⟩ (Holds.start _ _) ?_
  refine w_seq (w_reg (wl_f (f_assign rfl) (wl_end [(0, _), (1, _), (2, _)] ⟨rfl, rfl, rfl, trivial⟩ ?_)))
  refine w_seq (w_seq (w_reg (wl_f (f_move rfl) (wl_f (f_move rfl) (wl_e (e_call0 rfl Tryz.func92 (by kernel_rfl) (fun w hh => rkhas_nil id w)) ?_)))))
  rintro _ _ w1 ⟨_, rfl, rfl, rfl⟩
  refine wl_f (f_not rfl rfl) ?_
  refine wl_end [(0, _), (1, _), (2, _), (13, _)] ⟨rfl, rfl, rfl, rfl, trivial⟩ ?_
  refine w_ift rfl ?_
  refine w_seq (w_reg (wl_f (f_assign rfl) (wl_end [(6, _)] ⟨rfl, trivial⟩ ?_)))
  refine w_ret ?_
  refine ⟨_, _, fun a ha hh => results_tmps Tryz.results83 rfl a ha _, List.Sublist.refl _, ?_⟩
  exact ⟨rfl, rfl⟩
theorem rkremove_nil (id : Int) (w : World) : Spec Tryz.prog 100 [.pointer .none, .int .i64 id] w Nil fun r H => r = .tuple #[.int .u64 0, .int .i64 8] ∧ H = [] := by
  refine enter (n := 19) Tryz.func100 rfl rfl [(0, _), (1, _)] rfl ⟨rfl, rfl, trivial⟩ (Holds.start _ _) ?_
  refine w_seq (w_reg (wl_f (f_assign rfl) (wl_f (f_assign rfl) (wl_end [(0, _), (1, _)] ⟨rfl, rfl, trivial⟩ ?_))))
  refine w_seq (w_seq (w_reg (wl_f (f_move rfl) (wl_f (f_move rfl) (wl_e (e_call0 rfl Tryz.func92 (by kernel_rfl) (fun w hh => rkhas_nil id w)) ?_)))))
  rintro _ _ w1 ⟨_, rfl, rfl, rfl⟩
  refine wl_f (f_not rfl rfl) ?_
  refine wl_end [(0, _), (1, _), (11, _)] ⟨rfl, rfl, rfl, trivial⟩ ?_
  refine w_ift rfl ?_
  refine w_seq (w_reg (wl_f (f_assign rfl) (wl_f (f_assign rfl) (wl_end [(4, _), (5, _)] ⟨rfl, rfl, trivial⟩ ?_))))
  refine w_ret ?_
  refine ⟨_, _, fun a ha hh => results_tmps Tryz.results100 rfl a ha _, List.Sublist.refl _, ?_⟩
  exact ⟨rfl, rfl⟩
theorem rkcount_nil (id : Int) (w : World) : Spec Tryz.prog 88 [.pointer .none, .int .i64 id] w Nil fun r H => r = .tuple #[.int .u64 0, .bool false] ∧ H = [] := by
  refine enter (n := 21) Tryz.func88 rfl rfl [(0, _), (1, _)] rfl ⟨rfl, rfl, trivial⟩ (Holds.start _ _) ?_
  refine w_seq (w_reg (wl_f (f_assign rfl) (wl_f (f_assign rfl) (wl_end [(0, _), (1, _)] ⟨rfl, rfl, trivial⟩ ?_))))
  refine w_seq (w_seq (w_reg (wl_f (f_move rfl) (wl_f (f_move rfl) (wl_e (e_call0 rfl Tryz.func92 (by kernel_rfl) (fun w hh => rkhas_nil id w)) ?_)))))
  rintro _ _ w1 ⟨_, rfl, rfl, rfl⟩
  refine wl_f (f_not rfl rfl) ?_
  refine wl_end [(0, _), (1, _), (9, _)] ⟨rfl, rfl, rfl, trivial⟩ ?_
  refine w_ift rfl ?_
  refine w_seq (w_reg (wl_f (f_assign rfl) (wl_f (f_assign rfl) (wl_end [(4, _), (5, _)] ⟨rfl, rfl, trivial⟩ ?_))))
  refine w_ret ?_
  refine ⟨_, _, fun a ha hh => results_tmps Tryz.results88 rfl a ha _, List.Sublist.refl _, ?_⟩
  exact ⟨rfl, rfl⟩
theorem rkleast_nil (w : World) : Spec Tryz.prog 96 [.pointer .none] w Nil fun r H => r = .tuple #[.int .i64 0, .int .u64 0, .bool false] ∧ H = [] := by
  refine enter (n := 34) Tryz.func96 rfl rfl [(0, _)] rfl ⟨rfl, trivial⟩ (Holds.start _ _) ?_
  refine w_seq (w_reg (wl_f (f_assign rfl) (wl_f (f_assign rfl) (wl_f (f_assign rfl) (wl_end [(0, _)] ⟨rfl, trivial⟩ ?_)))))
  refine w_seq (w_seq (w_reg (wl_f (f_move rfl) (wl_f (f_eqlnil rfl rfl Tryz.underlying89) ?_))))
  refine wl_f (f_move rfl) (wl_gs rfl rfl ?_)
  refine wl_gs rfl rfl ?_
  refine wl_gs rfl rfl ?_
  refine wl_gs rfl rfl ?_
  refine wl_gs rfl rfl ?_
  refine wl_f (f_pick1 rfl rfl) ?_
  refine wl_end [(0, _), (14, _)] ⟨rfl, rfl, trivial⟩ ?_
  refine w_ift rfl ?_
  refine w_seq (w_reg (wl_f (f_assign rfl) (wl_f (f_assign rfl) (wl_f (f_assign rfl) (wl_end [(2, _), (3, _), (4, _)] ⟨rfl, rfl, rfl, trivial⟩ ?_)))))
  refine w_ret ?_
  refine ⟨_, _, fun a ha hh => results_tmps Tryz.results96 rfl a ha _, List.Sublist.refl _, ?_⟩
  exact ⟨rfl, rfl⟩
theorem rklen_nil (w : World) : Spec Tryz.prog 87 [.pointer .none] w Nil fun r H => r = .int .i64 0 ∧ H = [] := by
  refine enter (n := 9) Tryz.func87 rfl rfl [(0, _)] rfl ⟨rfl, trivial⟩ (Holds.start _ _) ?_
  refine w_seq (w_reg (wl_f (f_assign rfl) (wl_end [(0, _)] ⟨rfl, trivial⟩ ?_)))
  refine w_seq (w_seq (w_reg (wl_f (f_move rfl) (wl_f (f_eqlnil rfl rfl Tryz.underlying89) ?_))))
  refine wl_end [(0, _), (4, _)] ⟨rfl, rfl, trivial⟩ ?_
  refine w_ift rfl ?_
  refine w_seq (w_reg (wl_f (f_assign rfl) (wl_end [(2, _)] ⟨rfl, trivial⟩ ?_)))
  refine w_ret ?_
  refine ⟨_, _, fun a ha hh => results_tmps Tryz.results87 rfl a ha _, List.Sublist.refl _, ?_⟩
  exact ⟨rfl, rfl⟩

set_option maxHeartbeats 1000000 in
theorem rklen_spec (b n : Nat) (l : Ord) (r : Res) (w : World) (hr : RkO b n l r) (hs : Holds w r.foot [r] w) :
    Spec Tryz.prog 87 [.pointer (some ⟨b, 0, .none⟩)] w r.foot fun v H => v = .int .i64 (l.length : Int) ∧ H = [r] := by
  obtain ⟨S, rfl, hn1, hn2, B, pV, pl, rB, rs, rfl, hrB, hrs, hI⟩ := hr
  refine enter (n := 9) Tryz.func87 rfl rfl [(0, _)] rfl ⟨rfl, trivial⟩ hs ?_
  refine w_seq (w_reg (wl_f (f_assign rfl) (wl_end [(0, _)] ⟨rfl, trivial⟩ ?_)))
  refine w_seq (w_seq (w_reg (wl_f (f_move rfl) (wl_f (f_eqlnil rfl rfl Tryz.underlying89) ?_))))
  refine wl_end [(0, _), (4, _)] ⟨rfl, rfl, trivial⟩ ?_
  refine w_iff rfl ?_
  refine w_skip ?_
  refine w_seq (w_reg (wl_f (f_move rfl) (wl_f (f_nilCheck rfl) (wl_f (f_fieldAddr 1 rfl Tryz.underlying119 rfl rfl (by kernel_rfl)) ?_))))
  refine wl_f (f_loadB 0 0 rfl rfl rfl Tryz.underlying3 rfl rfl) ?_
  refine wl_f (f_assign rfl) (wl_end [(2, _)] ⟨rfl, trivial⟩ ?_)
  refine w_ret ?_
  refine ⟨_, _, fun a ha hh => results_tmps Tryz.results87 rfl a ha _, List.Sublist.refl _, ?_⟩
  exact ⟨rfl, rfl⟩

set_option maxHeartbeats 1000000 in
theorem rkinsert_spec (b n : Nat) (l : Ord) (r : Res) (id : Int) (c : Nat) (w : World) (hr : RkO b n l r) (hs : Holds w r.foot [r] w) :
    Spec Tryz.prog 97 [.pointer (some ⟨b, 0, .none⟩), .int .i64 id, .int .u64 (c : Int)] w r.foot fun v H => v = .int .i64 (oins n l id c).1 ∧ ∃ r', H = [r'] ∧ RkO b n (oins n l id c).2 r' := by
  obtain ⟨S, rfl, hr⟩ := hr
  have hO : RkO b n (flat S) r := ⟨S, rfl, hr⟩
  obtain ⟨hn1, hn2, B, pV, pl, rB, rs, rfl, hrB, hrs, hI⟩ := _root_.id hr
  refine enter (n := 32) Tryz.func97 rfl rfl [(0, _), (1, _), (2, _)] rfl ⟨rfl, rfl, rfl, trivial⟩ hs ?_
  refine w_seq (w_reg (wl_f (f_assign rfl) (wl_end [(0, _), (1, _), (2, _)] ⟨rfl, rfl, rfl, trivial⟩ ?_)))
  refine w_seq (w_block ?_)
  refine w_seq (w_reg (wl_f (f_move rfl) (wl_f (f_eqlnil rfl rfl Tryz.underlying89) ?_)))
  refine wl_f (f_assign rfl) (wl_end [(0, _), (1, _), (2, _), (7, _)] ⟨rfl, rfl, rfl, rfl, trivial⟩ ?_)
  refine w_iff rfl ?_
  refine w_seq (w_reg (wl_f (f_move rfl) (wl_f (f_lss rfl rfl) ?_)))
  refine wl_f (f_move rfl) ?_
  refine wl_or (j := 2) (c := decide ((n : Int) ≤ id)) 6 [(0, _), (1, _), (2, _)] ⟨rfl, rfl, rfl, trivial⟩ rfl rfl rfl rfl rfl (fun hg3_9 => ?_) (fun w3_9 => ?_)
  · skip
    refine wl_gf rfl rfl (f_move rfl) ?_
    refine wl_gf rfl rfl (f_move rfl) ?_
    refine wl_gf rfl rfl (f_nilCheck rfl) ?_
    refine wl_gf rfl rfl (f_fieldAddr 0 rfl Tryz.underlying119 rfl rfl (by kernel_rfl)) ?_
    refine wl_gf rfl rfl (f_loadB 0 0 rfl rfl rfl Tryz.underlying3 rfl rfl) ?_
    refine wl_gf rfl rfl (f_geq rfl rfl) ?_
    exact wl_pend rfl rfl ⟨rfl, rfl, rfl, trivial⟩ (List.Sublist.refl _)
  refine wl_f (f_assign rfl) (wl_end [(0, _), (1, _), (2, _), (10, _)] ⟨rfl, rfl, rfl, rfl, trivial⟩ ?_)
  refine w_ifb rfl (fun hc2 => ?_) (fun hc2 => ?_)
  · skip
    have h1 : id < 0 ∨ (n : Int) ≤ id := by simpa [Bool.or_eq_true] using hc2
    have e1 : oins n (flat S) id c = (1, flat S) := if_pos h1
    refine w_seq (w_reg (wl_f (f_assign rfl) (wl_end [(6, _)] ⟨rfl, trivial⟩ ?_)))
    refine w_ret ?_
    refine ⟨_, _, fun a ha hh => results_tmps Tryz.results97 rfl a ha _, List.Sublist.refl _, ?_⟩
    rw [e1]; exact ⟨rfl, _, rfl, hO⟩
  · skip
    have h1 : ¬ (id < 0 ∨ (n : Int) ≤ id) := by simpa [Bool.or_eq_true] using hc2
    obtain ⟨x, rfl⟩ : ∃ x : Nat, id = x := ⟨id.toNat, by omega⟩
    refine w_seq (w_reg (wl_f (f_move rfl) (wl_f (f_move rfl) (wl_e (e_call1 _ [] rfl Tryz.func92 (by kernel_rfl) (List.Perm.refl _) (fun w hh hs' => rkhas_spec b n S _ x w hr hs')) ?_))))
    rintro _ _ w5 ⟨_, rfl, rfl, rfl⟩
    refine wl_f (f_assign rfl) (wl_end [(0, _), (1, _), (2, _), (21, _)] ⟨rfl, rfl, rfl, rfl, trivial⟩ ?_)
    refine w_ifd rfl (fun hc3 => ?_) (fun hc3 => ?_)
    · skip
      have h2 : (x : Int) ∈ ids (flat S) := hc3
      have e1 : oins n (flat S) x c = (10, flat S) := (if_neg h1).trans (if_pos h2)
      refine w_seq (w_reg (wl_f (f_assign rfl) (wl_end [(6, _)] ⟨rfl, trivial⟩ ?_)))
      refine w_ret ?_
      refine ⟨_, _, fun a ha hh => results_tmps Tryz.results97 rfl a ha _, List.Sublist.refl _, ?_⟩
      rw [e1]; exact ⟨rfl, _, rfl, hO⟩
    · skip
      have h2 : (x : Int) ∉ ids (flat S) := hc3
      refine w_seq (w_reg (wl_f (f_move rfl) (wl_f (f_gtr rfl rfl) ?_)))
      refine wl_f (f_assign rfl) (wl_end [(0, _), (1, _), (2, _), (25, _)] ⟨rfl, rfl, rfl, rfl, trivial⟩ ?_)
      refine w_ifd rfl (fun hc4 => ?_) (fun hc4 => ?_)
      · skip
        have h3 : 9223372036854775808 < c := by
          have : (9223372036854775808 : Int) < c := hc4
          omega
        have e1 : oins n (flat S) x c = (12, flat S) := (if_neg h1).trans ((if_neg h2).trans (if_pos h3))
        refine w_seq (w_reg (wl_f (f_assign rfl) (wl_end [(6, _)] ⟨rfl, trivial⟩ ?_)))
        refine w_ret ?_
        refine ⟨_, _, fun a ha hh => results_tmps Tryz.results97 rfl a ha _, List.Sublist.refl _, ?_⟩
        rw [e1]; exact ⟨rfl, _, rfl, hO⟩
      · skip
        have h3 : ¬ 9223372036854775808 < c := fun h => hc4 (show (9223372036854775808 : Int) < c by omega)
        have e1 : oins n (flat S) x c = (0, ins (flat S) x c) := (if_neg h1).trans ((if_neg h2).trans (if_neg h3))
        refine w_skip ?_
        refine w_seq (w_reg (wl_f (f_move rfl) (wl_f (f_move rfl) (wl_f (f_move rfl) (wl_e (e_call1 _ [] rfl Tryz.func95 (by kernel_rfl) (List.Perm.refl _) (fun w hh hs' => rkput_spec b n [] S _ x c w (by omega) h2 (by omega) (fun s hs => absurd hs (List.not_mem_nil)) hr hs')) ?_)))))
        rintro _ _ w9 ⟨_, rfl, rfl, r', rfl, hr'⟩
        refine wl_f (f_assign rfl) (wl_end [(6, _)] ⟨rfl, trivial⟩ ?_)
        refine w_ret ?_
        refine ⟨_, _, fun a ha hh => results_tmps Tryz.results97 rfl a ha _, List.Sublist.refl _, ?_⟩
        rw [e1]; exact ⟨rfl, _, rfl, hr'⟩
end Go.Proofs.YtmagdjlcckgkpaaGreat
