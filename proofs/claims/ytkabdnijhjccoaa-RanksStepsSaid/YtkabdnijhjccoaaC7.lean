/- Linked lists: new nodes at the ends and behind a node. -/
import Derived.Test.YtkabdnijhjccoaaC6
namespace Go.Proofs.Ytkabdnijhjccoaa
open Go.RowKit

/-- What a new node leaves. -/
def NewG {α : Type} (R : List (Nat × α) → Res → Prop) (n : Nat) (A B : List (Nat × α)) (v : α) (r : Res) (u : Value) (H : List Res) : Prop :=
  ((A ++ B).length = n ∧ u = .tuple #[.int .i64 0, .int .i64 7] ∧ H = [r]) ∨ ((A ++ B).length ≠ n ∧ ∃ (x : Nat) (r' : Res), Fresh (nodes (A ++ B)) x ∧ u = .tuple #[.int .i64 x, .int .i64 0] ∧ H = [r'] ∧ R (A ++ (x, v) :: B) r')
abbrev NewAt {α : Type} (K : VK α) (b n : Nat) (A B : List (Nat × α)) (v : α) (r : Res) (u : Value) (H : List Res) : Prop := NewG (ChR K b n) n A B v r u H

set_option maxHeartbeats 1000000 in
theorem ipushBack_spec (b n : Nat) (l : List (Nat × (Int))) (v : Int) (r : Res) (w : World) (hn : n ≤ 8192) (hr : ChR kInt b n l r) (hs : Holds w r.foot [r] w) :
    Spec Try.prog 28 [.pointer (some ⟨b, 0, .none⟩), (kInt).val v] w r.foot fun u H => NewAt kInt b n l [] v r u H := by
  obtain ⟨uV, nV, pV, vV, used, nx, pv, vs, rfl, hc⟩ := id hr
  have hr' : ChR kInt b n (l ++ []) (bun (chs kInt b n l uV nV pV vV used nx pv vs)) := by simpa using hr
  refine enter (n := 17) Try.func28 rfl rfl [(0, _), (1, _)] rfl ⟨rfl, rfl, trivial⟩ hs ?_
  refine w_seq ?_
  refine w_reg ?_
  refine wl_f (f_assign rfl) ?_
  refine wl_f (f_assign rfl) ?_
  refine wl_end [(0, _), (1, _)] ⟨rfl, rfl, trivial⟩ ?_
  refine w_seq ?_
  refine w_seq ?_
  refine w_reg ?_
  refine wl_f (f_move rfl) ?_
  refine wl_f (f_eqlnil rfl rfl Try.underlying34) ?_
  refine wl_end [(0, _), (1, _), (7, _)] ⟨rfl, rfl, rfl, trivial⟩ ?_
  refine w_iff rfl ?_
  refine w_skip ?_
  refine w_seq ?_
  refine w_reg ?_
  refine wl_f (f_move rfl) ?_
  refine wl_f (f_move rfl) ?_
  refine wl_f (f_nilCheck rfl) ?_
  refine wl_f (f_fieldAddr 3 rfl Try.underlying86 rfl rfl (by kernel_rfl)) ?_
  refine wl_f (f_loadB 0 0 rfl rfl rfl Try.underlying3 rfl rfl) ?_
  refine wl_f (f_move rfl) ?_
  refine wl_e (e_call1 _ [] rfl Try.func63 (by kernel_rfl) (List.Perm.refl _) (fun w hh hs => iinsert_spec b n l [] v _ w hn hr' hs)) ?_
  rintro u _ w1 ⟨H1, rfl, hH⟩
  rw [List.append_nil]
  obtain ⟨u1, u2, rfl, H2, rfl⟩ : ∃ u1 u2, u = .tuple [u1, u2].toArray ∧ ∃ H2, H1 = H2 := by
    rcases hH with ⟨_, rfl, _⟩ | ⟨_, x, r', _, rfl, _⟩
    · exact ⟨_, _, rfl, _, rfl⟩
    · exact ⟨_, _, rfl, _, rfl⟩
  refine wl_f (f_extract rfl rfl) ?_
  refine wl_f (f_extract rfl rfl) ?_
  refine wl_f (f_assign rfl) ?_
  refine wl_f (f_assign rfl) ?_
  refine wl_end [(4, _), (5, _)] ⟨rfl, rfl, trivial⟩ ?_
  refine w_ret ?_
  refine ⟨_, _, fun a ha hh => results_tmps Try.results28 rfl a ha _, List.Sublist.refl _, ?_⟩
  exact hH
set_option maxHeartbeats 1000000 in
theorem spushBack_spec (b n : Nat) (l : List (Nat × (ByteArray))) (v : ByteArray) (r : Res) (w : World) (hn : n ≤ 8192) (hr : ChR kStr b n l r) (hs : Holds w r.foot [r] w) :
    Spec Try.prog 13 [.pointer (some ⟨b, 0, .none⟩), (kStr).val v] w r.foot fun u H => NewAt kStr b n l [] v r u H := by
  obtain ⟨uV, nV, pV, vV, used, nx, pv, vs, rfl, hc⟩ := id hr
  have hr' : ChR kStr b n (l ++ []) (bun (chs kStr b n l uV nV pV vV used nx pv vs)) := by simpa using hr
  refine enter (n := 17) Try.func13 rfl rfl [(0, _), (1, _)] rfl ⟨rfl, rfl, trivial⟩ hs ?_
  refine w_seq ?_
  refine w_reg ?_
  refine wl_f (f_assign rfl) ?_
  refine wl_f (f_assign rfl) ?_
  refine wl_end [(0, _), (1, _)] ⟨rfl, rfl, trivial⟩ ?_
  refine w_seq ?_
  refine w_seq ?_
  refine w_reg ?_
  refine wl_f (f_move rfl) ?_
  refine wl_f (f_eqlnil rfl rfl Try.underlying23) ?_
  refine wl_end [(0, _), (1, _), (7, _)] ⟨rfl, rfl, rfl, trivial⟩ ?_
  refine w_iff rfl ?_
  refine w_skip ?_
  refine w_seq ?_
  refine w_reg ?_
  refine wl_f (f_move rfl) ?_
  refine wl_f (f_move rfl) ?_
  refine wl_f (f_nilCheck rfl) ?_
  refine wl_f (f_fieldAddr 3 rfl Try.underlying83 rfl rfl (by kernel_rfl)) ?_
  refine wl_f (f_loadB 0 0 rfl rfl rfl Try.underlying3 rfl rfl) ?_
  refine wl_f (f_move rfl) ?_
  refine wl_e (e_call1 _ [] rfl Try.func61 (by kernel_rfl) (List.Perm.refl _) (fun w hh hs => sinsert_spec b n l [] v _ w hn hr' hs)) ?_
  rintro u _ w1 ⟨H1, rfl, hH⟩
  rw [List.append_nil]
  obtain ⟨u1, u2, rfl, H2, rfl⟩ : ∃ u1 u2, u = .tuple [u1, u2].toArray ∧ ∃ H2, H1 = H2 := by
    rcases hH with ⟨_, rfl, _⟩ | ⟨_, x, r', _, rfl, _⟩
    · exact ⟨_, _, rfl, _, rfl⟩
    · exact ⟨_, _, rfl, _, rfl⟩
  refine wl_f (f_extract rfl rfl) ?_
  refine wl_f (f_extract rfl rfl) ?_
  refine wl_f (f_assign rfl) ?_
  refine wl_f (f_assign rfl) ?_
  refine wl_end [(4, _), (5, _)] ⟨rfl, rfl, trivial⟩ ?_
  refine w_ret ?_
  refine ⟨_, _, fun a ha hh => results_tmps Try.results13 rfl a ha _, List.Sublist.refl _, ?_⟩
  exact hH
set_option maxHeartbeats 1000000 in
theorem ipushFront_spec (b n : Nat) (l : List (Nat × (Int))) (v : Int) (r : Res) (w : World) (hn : n ≤ 8192) (hr : ChR kInt b n l r) (hs : Holds w r.foot [r] w) :
    Spec Try.prog 30 [.pointer (some ⟨b, 0, .none⟩), (kInt).val v] w r.foot fun u H => NewAt kInt b n [] l v r u H := by
  obtain ⟨uV, nV, pV, vV, used, nx, pv, vs, rfl, hc⟩ := id hr
  have hr' : ChR kInt b n ([] ++ l) (bun (chs kInt b n l uV nV pV vV used nx pv vs)) := by simpa using hr
  refine enter (n := 17) Try.func30 rfl rfl [(0, _), (1, _)] rfl ⟨rfl, rfl, trivial⟩ hs ?_
  refine w_seq ?_
  refine w_reg ?_
  refine wl_f (f_assign rfl) ?_
  refine wl_f (f_assign rfl) ?_
  refine wl_end [(0, _), (1, _)] ⟨rfl, rfl, trivial⟩ ?_
  refine w_seq ?_
  refine w_seq ?_
  refine w_reg ?_
  refine wl_f (f_move rfl) ?_
  refine wl_f (f_eqlnil rfl rfl Try.underlying34) ?_
  refine wl_end [(0, _), (1, _), (7, _)] ⟨rfl, rfl, rfl, trivial⟩ ?_
  refine w_iff rfl ?_
  refine w_skip ?_
  refine w_seq ?_
  refine w_reg ?_
  refine wl_f (f_move rfl) ?_
  refine wl_f (f_move rfl) ?_
  refine wl_f (f_nilCheck rfl) ?_
  refine wl_f (f_fieldAddr 2 rfl Try.underlying86 rfl rfl (by kernel_rfl)) ?_
  refine wl_f (f_loadB 0 0 rfl rfl rfl Try.underlying3 rfl rfl) ?_
  refine wl_f (f_move rfl) ?_
  refine wl_e (e_call1 _ [] rfl Try.func63 (by kernel_rfl) (List.Perm.refl _) (fun w hh hs => iinsert_spec b n [] l v _ w hn hr' hs)) ?_
  rintro u _ w1 ⟨H1, rfl, hH⟩
  rw [List.append_nil]
  obtain ⟨u1, u2, rfl, H2, rfl⟩ : ∃ u1 u2, u = .tuple [u1, u2].toArray ∧ ∃ H2, H1 = H2 := by
    rcases hH with ⟨_, rfl, _⟩ | ⟨_, x, r', _, rfl, _⟩
    · exact ⟨_, _, rfl, _, rfl⟩
    · exact ⟨_, _, rfl, _, rfl⟩
  refine wl_f (f_extract rfl rfl) ?_
  refine wl_f (f_extract rfl rfl) ?_
  refine wl_f (f_assign rfl) ?_
  refine wl_f (f_assign rfl) ?_
  refine wl_end [(4, _), (5, _)] ⟨rfl, rfl, trivial⟩ ?_
  refine w_ret ?_
  refine ⟨_, _, fun a ha hh => results_tmps Try.results30 rfl a ha _, List.Sublist.refl _, ?_⟩
  exact hH
theorem spushBack_nil (v : ByteArray) (w : World) : Spec Try.prog 13 [.pointer .none, .string v] w Nil fun v H => v = .tuple #[.int .i64 0, .int .i64 8] ∧ H = [] := by
  refine enter (n := 17) Try.func13 rfl rfl [(0, _), (1, _)] rfl ⟨rfl, rfl, trivial⟩ (Holds.start _ _) ?_
  refine w_seq ?_
  refine w_reg ?_
  refine wl_f (f_assign rfl) ?_
  refine wl_f (f_assign rfl) ?_
  refine wl_end [(0, _), (1, _)] ⟨rfl, rfl, trivial⟩ ?_
  refine w_seq ?_
  refine w_seq ?_
  refine w_reg ?_
  refine wl_f (f_move rfl) ?_
  refine wl_f (f_eqlnil rfl rfl Try.underlying23) ?_
  refine wl_end [(0, _), (1, _), (7, _)] ⟨rfl, rfl, rfl, trivial⟩ ?_
  refine w_ift rfl ?_
  refine w_seq ?_
  refine w_reg ?_
  refine wl_f (f_assign rfl) ?_
  refine wl_f (f_assign rfl) ?_
  refine wl_end [(4, _), (5, _)] ⟨rfl, rfl, trivial⟩ ?_
  refine w_ret ?_
  refine ⟨_, _, fun a ha hh => results_tmps Try.results13 rfl a ha _, List.Sublist.refl _, ?_⟩
  exact ⟨rfl, rfl⟩
theorem spushFront_nil (v : ByteArray) (w : World) : Spec Try.prog 19 [.pointer .none, .string v] w Nil fun v H => v = .tuple #[.int .i64 0, .int .i64 8] ∧ H = [] := by
  refine enter (n := 17) Try.func19 rfl rfl [(0, _), (1, _)] rfl ⟨rfl, rfl, trivial⟩ (Holds.start _ _) ?_
  refine w_seq ?_
  refine w_reg ?_
  refine wl_f (f_assign rfl) ?_
  refine wl_f (f_assign rfl) ?_
  refine wl_end [(0, _), (1, _)] ⟨rfl, rfl, trivial⟩ ?_
  refine w_seq ?_
  refine w_seq ?_
  refine w_reg ?_
  refine wl_f (f_move rfl) ?_
  refine wl_f (f_eqlnil rfl rfl Try.underlying23) ?_
  refine wl_end [(0, _), (1, _), (7, _)] ⟨rfl, rfl, rfl, trivial⟩ ?_
  refine w_ift rfl ?_
  refine w_seq ?_
  refine w_reg ?_
  refine wl_f (f_assign rfl) ?_
  refine wl_f (f_assign rfl) ?_
  refine wl_end [(4, _), (5, _)] ⟨rfl, rfl, trivial⟩ ?_
  refine w_ret ?_
  refine ⟨_, _, fun a ha hh => results_tmps Try.results19 rfl a ha _, List.Sublist.refl _, ?_⟩
  exact ⟨rfl, rfl⟩
theorem sInsertAfter_nil (node : Int) (v : ByteArray) (w : World) : Spec Try.prog 20 [.pointer .none, .int .i64 node, .string v] w Nil fun v H => v = .tuple #[.int .i64 0, .int .i64 8] ∧ H = [] := by
  refine enter (n := 25) Try.func20 rfl rfl [(0, _), (1, _), (2, _)] rfl ⟨rfl, rfl, rfl, trivial⟩ (Holds.start _ _) ?_
  refine w_seq ?_
  refine w_reg ?_
  refine wl_f (f_assign rfl) ?_
  refine wl_f (f_assign rfl) ?_
  refine wl_end [(0, _), (1, _), (2, _)] ⟨rfl, rfl, rfl, trivial⟩ ?_
  refine w_seq ?_
  refine w_seq ?_
  refine w_reg ?_
  refine wl_f (f_move rfl) ?_
  refine wl_f (f_move rfl) ?_
  refine wl_e (e_call0 rfl Try.func62 (by kernel_rfl) (fun w hh => shas_nil node w)) ?_
  rintro _ _ w1 ⟨_, rfl, rfl, rfl⟩
  refine wl_f (f_not rfl rfl) ?_
  refine wl_end [(0, _), (1, _), (2, _), (11, _)] ⟨rfl, rfl, rfl, rfl, trivial⟩ ?_
  refine w_ift rfl ?_
  refine w_seq ?_
  refine w_reg ?_
  refine wl_f (f_assign rfl) ?_
  refine wl_f (f_assign rfl) ?_
  refine wl_end [(6, _), (7, _)] ⟨rfl, rfl, trivial⟩ ?_
  refine w_ret ?_
  refine ⟨_, _, fun a ha hh => results_tmps Try.results20 rfl a ha _, List.Sublist.refl _, ?_⟩
  exact ⟨rfl, rfl⟩
theorem sNext_nil (node : Int) (w : World) : Spec Try.prog 23 [.pointer .none, .int .i64 node] w Nil fun v H => v = .int .i64 (-1) ∧ H = [] := by
  refine enter (n := 16) Try.func23 rfl rfl [(0, _), (1, _)] rfl ⟨rfl, rfl, trivial⟩ (Holds.start _ _) ?_
  refine w_seq ?_
  refine w_reg ?_
  refine wl_f (f_assign rfl) ?_
  refine wl_end [(0, _), (1, _)] ⟨rfl, rfl, trivial⟩ ?_
  refine w_seq ?_
  refine w_seq ?_
  refine w_reg ?_
  refine wl_f (f_move rfl) ?_
  refine wl_f (f_move rfl) ?_
  refine wl_e (e_call0 rfl Try.func62 (by kernel_rfl) (fun w hh => shas_nil node w)) ?_
  rintro _ _ w1 ⟨_, rfl, rfl, rfl⟩
  refine wl_f (f_not rfl rfl) ?_
  refine wl_end [(0, _), (1, _), (8, _)] ⟨rfl, rfl, rfl, trivial⟩ ?_
  refine w_ift rfl ?_
  refine w_seq ?_
  refine w_reg ?_
  refine wl_f (f_assign rfl) ?_
  refine wl_end [(4, _)] ⟨rfl, trivial⟩ ?_
  refine w_ret ?_
  refine ⟨_, _, fun a ha hh => results_tmps Try.results23 rfl a ha _, List.Sublist.refl _, ?_⟩
  exact ⟨rfl, rfl⟩
theorem sPrev_nil (node : Int) (w : World) : Spec Try.prog 24 [.pointer .none, .int .i64 node] w Nil fun v H => v = .int .i64 (-1) ∧ H = [] := by
  refine enter (n := 16) Try.func24 rfl rfl [(0, _), (1, _)] rfl ⟨rfl, rfl, trivial⟩ (Holds.start _ _) ?_
  refine w_seq ?_
  refine w_reg ?_
  refine wl_f (f_assign rfl) ?_
  refine wl_end [(0, _), (1, _)] ⟨rfl, rfl, trivial⟩ ?_
  refine w_seq ?_
  refine w_seq ?_
  refine w_reg ?_
  refine wl_f (f_move rfl) ?_
  refine wl_f (f_move rfl) ?_
  refine wl_e (e_call0 rfl Try.func62 (by kernel_rfl) (fun w hh => shas_nil node w)) ?_
  rintro _ _ w1 ⟨_, rfl, rfl, rfl⟩
  refine wl_f (f_not rfl rfl) ?_
  refine wl_end [(0, _), (1, _), (8, _)] ⟨rfl, rfl, rfl, trivial⟩ ?_
  refine w_ift rfl ?_
  refine w_seq ?_
  refine w_reg ?_
  refine wl_f (f_assign rfl) ?_
  refine wl_end [(4, _)] ⟨rfl, trivial⟩ ?_
  refine w_ret ?_
  refine ⟨_, _, fun a ha hh => results_tmps Try.results24 rfl a ha _, List.Sublist.refl _, ?_⟩
  exact ⟨rfl, rfl⟩
theorem sValue_nil (node : Int) (w : World) : Spec Try.prog 22 [.pointer .none, .int .i64 node] w Nil fun v H => v = .tuple #[.string ByteArray.empty, .int .i64 8] ∧ H = [] := by
  refine enter (n := 19) Try.func22 rfl rfl [(0, _), (1, _)] rfl ⟨rfl, rfl, trivial⟩ (Holds.start _ _) ?_
  refine w_seq ?_
  refine w_reg ?_
  refine wl_f (f_assign rfl) ?_
  refine wl_f (f_assign rfl) ?_
  refine wl_end [(0, _), (1, _)] ⟨rfl, rfl, trivial⟩ ?_
  refine w_seq ?_
  refine w_seq ?_
  refine w_reg ?_
  refine wl_f (f_move rfl) ?_
  refine wl_f (f_move rfl) ?_
  refine wl_e (e_call0 rfl Try.func62 (by kernel_rfl) (fun w hh => shas_nil node w)) ?_
  rintro _ _ w1 ⟨_, rfl, rfl, rfl⟩
  refine wl_f (f_not rfl rfl) ?_
  refine wl_end [(0, _), (1, _), (10, _)] ⟨rfl, rfl, rfl, trivial⟩ ?_
  refine w_ift rfl ?_
  refine w_seq ?_
  refine w_reg ?_
  refine wl_f (f_assign rfl) ?_
  refine wl_end [(6, _)] ⟨rfl, trivial⟩ ?_
  refine w_seq ?_
  refine w_reg ?_
  refine wl_f (f_move rfl) ?_
  refine wl_f (f_assign rfl) ?_
  refine wl_f (f_assign rfl) ?_
  refine wl_end [(4, _), (5, _)] ⟨rfl, rfl, trivial⟩ ?_
  refine w_ret ?_
  refine ⟨_, _, fun a ha hh => results_tmps Try.results22 rfl a ha _, List.Sublist.refl _, ?_⟩
  exact ⟨rfl, rfl⟩
theorem sRemove_nil (node : Int) (w : World) : Spec Try.prog 21 [.pointer .none, .int .i64 node] w Nil fun v H => v = .tuple #[.string ByteArray.empty, .int .i64 8] ∧ H = [] := by
  refine enter (n := 83) Try.func21 rfl rfl [(0, _), (1, _)] rfl ⟨rfl, rfl, trivial⟩ (Holds.start _ _) ?_
  refine w_seq ?_
  refine w_reg ?_
  refine wl_f (f_assign rfl) ?_
  refine wl_f (f_assign rfl) ?_
  refine wl_end [(0, _), (1, _)] ⟨rfl, rfl, trivial⟩ ?_
  refine w_seq ?_
  refine w_reg ?_
  refine wl_f (f_assign rfl) ?_
  refine wl_end [(0, _), (1, _), (6, _)] ⟨rfl, rfl, rfl, trivial⟩ ?_
  refine w_seq ?_
  refine w_seq ?_
  refine w_reg ?_
  refine wl_f (f_move rfl) ?_
  refine wl_f (f_move rfl) ?_
  refine wl_e (e_call0 rfl Try.func62 (by kernel_rfl) (fun w hh => shas_nil node w)) ?_
  rintro _ _ w1 ⟨_, rfl, rfl, rfl⟩
  refine wl_f (f_not rfl rfl) ?_
  refine wl_end [(0, _), (1, _), (6, _), (13, _)] ⟨rfl, rfl, rfl, rfl, trivial⟩ ?_
  refine w_ift rfl ?_
  refine w_seq ?_
  refine w_reg ?_
  refine wl_f (f_move rfl) ?_
  refine wl_f (f_assign rfl) ?_
  refine wl_f (f_assign rfl) ?_
  refine wl_end [(4, _), (5, _)] ⟨rfl, rfl, trivial⟩ ?_
  refine w_ret ?_
  refine ⟨_, _, fun a ha hh => results_tmps Try.results21 rfl a ha _, List.Sublist.refl _, ?_⟩
  exact ⟨rfl, rfl⟩
theorem sValues_nil (w : World) : Spec Try.prog 15 [.pointer .none] w Nil fun v H => v = .slice .none 0 0 ∧ H = [] := by
  refine enter (n := 31) Try.func15 rfl rfl [(0, _)] rfl ⟨rfl, trivial⟩ (Holds.start _ _) ?_
  refine w_seq ?_
  refine w_reg ?_
  refine wl_f (f_assign rfl) ?_
  refine wl_end [(0, _)] ⟨rfl, trivial⟩ ?_
  refine w_seq ?_
  refine w_seq ?_
  refine w_reg ?_
  refine wl_f (f_move rfl) ?_
  refine wl_f (f_eqlnil rfl rfl Try.underlying23) ?_
  refine wl_end [(0, _), (6, _)] ⟨rfl, rfl, trivial⟩ ?_
  refine w_ift rfl ?_
  refine w_seq ?_
  refine w_reg ?_
  refine wl_f (f_assign rfl) ?_
  refine wl_end [(2, _)] ⟨rfl, trivial⟩ ?_
  refine w_ret ?_
  refine ⟨_, _, fun a ha hh => results_tmps Try.results15 rfl a ha _, List.Sublist.refl _, ?_⟩
  exact ⟨rfl, rfl⟩
end Go.Proofs.Ytkabdnijhjccoaa
