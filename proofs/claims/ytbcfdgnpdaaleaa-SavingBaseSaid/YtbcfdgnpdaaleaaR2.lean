/- Orders by count: making one, of, has. -/
import Derived.Test.YtbcfdgnpdaaleaaR1
namespace Go.Proofs.Ytbcfdgnpdaaleaa
open Go.RowKit

theorem t90 : SlT Try.prog 90 102 3 24 (.agg #[.bool false, .int .i64 0, .int .i64 0]) := .mk' Try.underlying90 (by kernel_rfl) rfl (by decide)
/-- The lists of the buckets. -/
def IdsR (n : Nat) : List Bk → List Res → Prop
  | [], [] => True
  | s :: S, r :: rs => ChR kInt s.2.2.1 n s.2.2.2 r ∧ IdsR n S rs
  | _, _ => False
theorem IdsR.split {n : Nat} : ∀ {A B : List Bk} {rs : List Res}, IdsR n (A ++ B) rs → ∃ ra rb, rs = ra ++ rb ∧ IdsR n A ra ∧ IdsR n B rb
  | [], B, rs, h => ⟨[], rs, rfl, trivial, h⟩
  | s :: A, B, [], h => h.elim
  | s :: A, B, r :: rs, h => by
    obtain ⟨ra, rb, rfl, h1, h2⟩ := IdsR.split h.2
    exact ⟨r :: ra, rb, rfl, ⟨h.1, h1⟩, h2⟩
theorem IdsR.join {n : Nat} : ∀ {A B : List Bk} {ra rb : List Res}, IdsR n A ra → IdsR n B rb → IdsR n (A ++ B) (ra ++ rb)
  | [], B, [], rb, _, h => h
  | s :: A, B, r :: ra, rb, h1, h2 => ⟨h1.1, IdsR.join h1.2 h2⟩
  | s :: A, B, [], rb, h1, _ => h1.elim
  | [], B, r :: ra, rb, h1, _ => h1.elim
theorem IdsR.cons_inv {n : Nat} {s : Bk} {S : List Bk} {rs : List Res} (h : IdsR n (s :: S) rs) : ∃ r rb, rs = r :: rb ∧ ChR kInt s.2.2.1 n s.2.2.2 r ∧ IdsR n S rb := by
  cases rs with
  | nil => exact h.elim
  | cons r rs => exact ⟨r, rs, rfl, h.1, h.2⟩

def rkg (b n len B : Nat) (pV : Value) (pl : List (Option (Nat × Nat))) (rB : Res) (rs : List Res) : List Res :=
  [blk b [.int .i64 (n : Int), .int .i64 (len : Int), .pointer (some ⟨B, 0, .none⟩), pV] 92, row pV 102 3 n (pcells pl), rB, bun rs]
abbrev rks (b n : Nat) (S : List Bk) (B : Nat) (pV : Value) (pl : List (Option (Nat × Nat))) (rB : Res) (rs : List Res) : List Res := rkg b n (flat S).length B pV pl rB rs
/-- An order with its buckets. -/
def RkR (b n : Nat) (S : List Bk) (r : Res) : Prop :=
  1 ≤ n ∧ n ≤ 8192 ∧ ∃ B pV pl rB rs, r = bun (rks b n S B pV pl rB rs) ∧ ChR kBuc B n (bks S) rB ∧ IdsR n S rs ∧ RInv n S pl
/-- An order. -/
def RkO (b n : Nat) (l : Ord) (r : Res) : Prop := ∃ S, l = flat S ∧ RkR b n S r

theorem madeCells3 (n : Nat) : (madeCells (Value.agg #[.bool false, .int .i64 0, .int .i64 0]).cells (n * 3)).toList = pcells (List.replicate n none) := by
  have h : ∀ n, ((List.range (n * 3)).map fun i => (#[Value.bool false, .int .i64 0, .int .i64 0] : Array Value)[i % 3]!) = pcells (List.replicate n none) := by
    intro n
    induction n with
    | zero => rfl
    | succ n ih =>
      rw [Nat.succ_mul, List.replicate_succ', pcells_app, ← ih, List.range_succ, List.range_succ, List.range_succ]
      simp only [List.map_append, List.map_cons, List.map_nil, List.append_assoc]
      congr 1
      have e0 : (n * 3) % 3 = 0 := by omega
      have e1 : (n * 3 + 1) % 3 = 1 := by omega
      have e2 : (n * 3 + 2) % 3 = 2 := by omega
      rw [e0, e1, e2]
      rfl
  rw [← h n]
  simp only [madeCells, Array.toList_map, Array.toList_range]
  rfl

theorem build_ranks (n : Int) (B : Nat) (A : Option Addr) (l c : Nat) (w : World) : (Instr.build 92 [(0, .int .i64 n), (2, .pointer (some ⟨B, 0, .none⟩)), (3, .slice A l c)].toArray).run Try.prog w =
    .ok (.agg [.int .i64 n, .int .i64 0, .pointer (some ⟨B, 0, .none⟩), .slice A l c].toArray) w := by kernel_rfl

theorem rknew_bad (n : Int) (w : World) (hn : n < 1 ∨ 8192 < n) : Spec Try.prog 21 [.int .i64 n] w Nil fun r H => r = .tuple #[.pointer .none, .int .i64 1] ∧ H = [] := by
  refine enter (n := 20) Try.func21 rfl rfl [(0, _)] rfl ⟨rfl, trivial⟩ (Holds.start _ _) ?_
  refine w_seq ?_
  refine w_reg ?_
  refine wl_f (f_assign rfl) ?_
  refine wl_f (f_assign rfl) ?_
  refine wl_end [(0, _)] ⟨rfl, trivial⟩ ?_
  refine w_seq ?_
  refine w_reg ?_
  refine wl_f (f_move rfl) ?_
  refine wl_e (e_call0 rfl Try.func35 (by kernel_rfl) (fun w hh => bnew_spec n w)) ?_
  rintro _ _ w1 ⟨_, rfl, ⟨_, rfl, rfl⟩ | ⟨k, B, rB, rfl, h1, h2, _⟩⟩
  rotate_left
  · omega
  refine wl_f (f_move rfl) ?_
  refine wl_f (f_extract rfl rfl) ?_
  refine wl_f (f_extract rfl rfl) ?_
  refine wl_f (f_assign rfl) ?_
  refine wl_f (f_assign rfl) ?_
  refine wl_end [(0, _), (4, _), (5, _)] ⟨rfl, rfl, rfl, trivial⟩ ?_
  refine w_seq ?_
  refine w_seq ?_
  refine w_reg ?_
  refine wl_f (f_move rfl) ?_
  refine wl_f (f_neq rfl rfl) ?_
  refine wl_end [(0, _), (4, _), (5, _), (12, _)] ⟨rfl, rfl, rfl, rfl, trivial⟩ ?_
  refine w_ifb rfl (fun _ => ?_) (fun h => absurd rfl h)
  refine w_seq ?_
  refine w_reg ?_
  refine wl_f (f_move rfl) ?_
  refine wl_f (f_assign rfl) ?_
  refine wl_f (f_assign rfl) ?_
  refine wl_end [(2, _), (3, _)] ⟨rfl, rfl, trivial⟩ ?_
  refine w_ret ?_
  refine ⟨_, _, fun a ha hh => results_tmps Try.results21 rfl a ha _, List.Sublist.refl _, ?_⟩
  exact ⟨rfl, rfl⟩

theorem rknew_ok (n : Nat) (w : World) (h1 : 1 ≤ n) (h2 : n ≤ 8192) : Spec Try.prog 21 [.int .i64 n] w Nil fun r H => ∃ b r', r = .tuple #[.pointer (some ⟨b, 0, .none⟩), .int .i64 0] ∧ H = [r'] ∧ RkR b n [] r' := by
  refine enter (n := 20) Try.func21 rfl rfl [(0, _)] rfl ⟨rfl, trivial⟩ (Holds.start _ _) ?_
  refine w_seq ?_
  refine w_reg ?_
  refine wl_f (f_assign rfl) ?_
  refine wl_f (f_assign rfl) ?_
  refine wl_end [(0, _)] ⟨rfl, trivial⟩ ?_
  refine w_seq ?_
  refine w_reg ?_
  refine wl_f (f_move rfl) ?_
  refine wl_e (e_call0 rfl Try.func35 (by kernel_rfl) (fun w hh => bnew_spec n w)) ?_
  rintro _ _ w1 ⟨_, rfl, ⟨_, rfl, rfl⟩ | ⟨k, B, rB, hk, _, _, rfl, rfl, hrB⟩⟩
  · omega
  obtain rfl : n = k := by omega
  refine wl_f (f_move rfl) ?_
  refine wl_f (f_extract rfl rfl) ?_
  refine wl_f (f_extract rfl rfl) ?_
  refine wl_f (f_assign rfl) ?_
  refine wl_f (f_assign rfl) ?_
  refine wl_end [(0, _), (4, _), (5, _)] ⟨rfl, rfl, rfl, trivial⟩ ?_
  refine w_seq ?_
  refine w_seq ?_
  refine w_reg ?_
  refine wl_f (f_move rfl) ?_
  refine wl_f (f_neq rfl rfl) ?_
  refine wl_end [(0, _), (4, _), (5, _), (12, _)] ⟨rfl, rfl, rfl, rfl, trivial⟩ ?_
  refine w_ifb rfl (fun h => absurd h (by simp)) (fun _ => ?_)
  refine w_skip ?_
  refine w_seq ?_
  refine w_reg ?_
  refine wl_f (f_move rfl) ?_
  refine wl_f (f_move rfl) ?_
  refine wl_f (f_move rfl) ?_
  refine wl_e (e_make (l := n) (cs := pcells (List.replicate n none)) rfl rfl t90 (by omega) (by omega) (madeCells3 n).symm) ?_
  rintro _ _ w4_3 ⟨b4_3, rfl, rfl⟩
  refine wl_f (f_build rfl (fun w => build_ranks _ _ _ _ _ w)) ?_
  refine wl_e (e_box (cs := [_, _, _, _]) rfl rfl) ?_
  rintro _ _ w4_5 ⟨b4_5, rfl, rfl⟩
  refine wl_f (f_assign rfl) ?_
  refine wl_f (f_assign rfl) ?_
  refine wl_end [(2, _), (3, _)] ⟨rfl, rfl, trivial⟩ ?_
  refine w_bun0 ?_
  refine w_pick [1, 1, 1, 0] rfl ?_
  refine w_bun (H := []) [_, _, _, _] ?_
  refine w_ret ?_
  refine ⟨_, _, fun a ha hh => results_tmps Try.results21 rfl a ha _, List.Sublist.refl _, ?_⟩
  exact ⟨_, _, rfl, rfl, h1, h2, B, _, _, rB, [], rfl, hrB, trivial, RInv.new n⟩
end Go.Proofs.Ytbcfdgnpdaaleaa
