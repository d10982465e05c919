/- Linked lists: new nodes at the ends and behind a node. -/
import Derived.Test.YtbcfdgnpdaaleaaC6
namespace Go.Proofs.Ytbcfdgnpdaaleaa
open Go.RowKit

/-- What a new node leaves. -/
def NewG {α : Type} (R : List (Nat × α) → Res → Prop) (n : Nat) (A B : List (Nat × α)) (v : α) (r : Res) (u : Value) (H : List Res) : Prop :=
  ((A ++ B).length = n ∧ u = .tuple #[.int .i64 0, .int .i64 7] ∧ H = [r]) ∨ ((A ++ B).length ≠ n ∧ ∃ (x : Nat) (r' : Res), Fresh (nodes (A ++ B)) x ∧ u = .tuple #[.int .i64 x, .int .i64 0] ∧ H = [r'] ∧ R (A ++ (x, v) :: B) r')
abbrev NewAt {α : Type} (K : VK α) (b n : Nat) (A B : List (Nat × α)) (v : α) (r : Res) (u : Value) (H : List Res) : Prop := NewG (ChR K b n) n A B v r u H

set_option maxHeartbeats 1000000 in
theorem ipushBack_spec (b n : Nat) (l : List (Nat × (Int))) (v : Int) (r : Res) (w : World) (hn : n ≤ 8192) (hr : ChR kInt b n l r) (hs : Holds w r.foot [r] w) :
    Spec Try.prog 62 [.pointer (some ⟨b, 0, .none⟩), (kInt).val v] w r.foot fun u H => NewAt kInt b n l [] v r u H := by
  obtain ⟨uV, nV, pV, vV, used, nx, pv, vs, rfl, hc⟩ := id hr
  have hr' : ChR kInt b n (l ++ []) (bun (chs kInt b n l uV nV pV vV used nx pv vs)) := by simpa using hr
  refine enter (n := 17) Try.func62 rfl rfl [(0, _), (1, _)] rfl ⟨rfl, rfl, trivial⟩ hs ?_
  refine w_seq ?_
  refine w_reg ?_
  refine wl_f (f_assign rfl) ?_
  refine wl_f (f_assign rfl) ?_
  refine wl_end [(0, _), (1, _)] ⟨rfl, rfl, trivial⟩ ?_
  refine w_seq ?_
  refine w_seq ?_
  refine w_reg ?_
  refine wl_f (f_move rfl) ?_
  refine wl_f (f_eqlnil rfl rfl Try.underlying87) ?_
  refine wl_end [(0, _), (1, _), (7, _)] ⟨rfl, rfl, rfl, trivial⟩ ?_
  refine w_iff rfl ?_
  refine w_skip ?_
  refine w_seq ?_
  refine w_reg ?_
  refine wl_f (f_move rfl) ?_
  refine wl_f (f_move rfl) ?_
  refine wl_f (f_nilCheck rfl) ?_
  refine wl_f (f_fieldAddr 3 rfl Try.underlying133 rfl rfl (by kernel_rfl)) ?_
  refine wl_f (f_loadB 0 0 rfl rfl rfl Try.underlying3 rfl rfl) ?_
  refine wl_f (f_move rfl) ?_
  refine wl_e (e_call1 _ [] rfl Try.func72 (by kernel_rfl) (List.Perm.refl _) (fun w hh hs => iinsert_spec b n l [] v _ w hn hr' hs)) ?_
  rintro u _ w1 ⟨H1, rfl, hH⟩
  rw [List.append_nil]
  obtain ⟨u1, u2, rfl, H2, rfl⟩ : ∃ u1 u2, u = .tuple [u1, u2].toArray ∧ ∃ H2, H1 = H2 := by
    rcases hH with ⟨_, rfl, _⟩ | ⟨_, x, r', _, rfl, _⟩
    · exact ⟨_, _, rfl, _, rfl⟩
    · exact ⟨_, _, rfl, _, rfl⟩
  refine wl_f (f_extract rfl rfl) ?_
  refine wl_f (f_extract rfl rfl) ?_
  refine wl_f (f_assign rfl) ?_
  refine wl_f (f_assign rfl) ?_
  refine wl_end [(4, _), (5, _)] ⟨rfl, rfl, trivial⟩ ?_
  refine w_ret ?_
  refine ⟨_, _, fun a ha hh => results_tmps Try.results62 rfl a ha _, List.Sublist.refl _, ?_⟩
  exact hH
end Go.Proofs.Ytbcfdgnpdaaleaa
