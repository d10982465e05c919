/- Tables: making one. -/
import Derived.Test.YtkoklfagmbaapaaI3
import Derived.Test.YtkoklfagmbaapaaK7
namespace Go.Proofs.Ytkoklfagmbaapaa
open Go.RowKit

theorem madeCellsI {α : Type} (K : VI α) (n : Nat) : (madeCells (Value.agg #[.bool false, .string ByteArray.empty, K.val K.zero]).cells (n * 3)).toList = icells K (List.replicate n none) := by
  have h : ∀ n, ((List.range (n * 3)).map fun i => (#[Value.bool false, .string ByteArray.empty, K.val K.zero] : Array Value)[i % 3]!) = icells K (List.replicate n none) := by
    intro n
    induction n with
    | zero => rfl
    | succ n ih =>
      have e : icells K (List.replicate (n + 1) none) = icells K (List.replicate n none) ++ icell K none := by
        rw [List.replicate_succ', icells, icells, List.flatMap_append]; simp
      rw [e, Nat.succ_mul, ← ih, List.range_succ, List.range_succ, List.range_succ]
      simp only [List.map_append, List.map_cons, List.map_nil, List.append_assoc]
      congr 1
      have e0 : (n * 3) % 3 = 0 := by omega
      have e1 : (n * 3 + 1) % 3 = 1 := by omega
      have e2 : (n * 3 + 2) % 3 = 2 := by omega
      rw [e0, e1, e2]
      rfl
  rw [← h n]
  simp only [madeCells, Array.toList_map, Array.toList_range]
  rfl
theorem ents_replicate {α : Type} (N : Nat) : ents (List.replicate N (none : Option (ByteArray × α))) = [] := by
  induction N with
  | zero => rfl
  | succ N ih => rw [List.replicate_succ, ents_none, ih]

theorem build_umap (n seed : Int) (A C : Option Addr) (l c l2 c2 : Nat) (w : World) : (Instr.build 86 [(0, .int .i64 n), (2, .slice A l c), (3, .int .u64 seed), (4, .slice C l2 c2)].toArray).run Try.prog w =
    .ok (.agg [.int .i64 n, .int .i64 0, .slice A l c, .int .u64 seed, .slice C l2 c2].toArray) w := by kernel_rfl
theorem uxnew_bad (n : Int) (A : Option Addr) (l c : Nat) (seed : Int) (w : World) (hn : n < 1 ∨ 8192 < n ∨ l ≠ 16) : Spec Try.prog 31 [.int .i64 n, .slice A l c, .int .u64 seed] w Nil
    fun r H => r = .tuple #[.pointer .none, .int .i64 (if n < 1 ∨ 8192 < n then 1 else 11)] ∧ H = [] := by
  refine enter (n := 29) Try.func31 rfl rfl [(0, _), (1, _), (2, _)] rfl ⟨rfl, rfl, rfl, trivial⟩ (Holds.start _ _) ?_
  refine w_seq ?_
  refine w_reg ?_
  refine wl_f (f_assign rfl) ?_
  refine wl_f (f_assign rfl) ?_
  refine wl_end [(0, _), (1, _), (2, _)] ⟨rfl, rfl, rfl, trivial⟩ ?_
  refine w_seq ?_
  refine w_seq ?_
  refine w_reg ?_
  refine wl_f (f_move rfl) ?_
  refine wl_f (f_lss rfl rfl) ?_
  refine wl_f (f_move rfl) ?_
  refine wl_or (j := 2) (c := decide (8192 < n)) 2 [(0, _), (1, _), (2, _)] ⟨rfl, rfl, rfl, trivial⟩ rfl rfl rfl rfl rfl (fun hg1_5 => ?_) (fun w1_5 => ?_)
  · skip
    refine wl_gf rfl rfl (f_move rfl) ?_
    refine wl_gf rfl rfl (f_gtr rfl rfl) ?_
    exact wl_pend rfl rfl ⟨rfl, rfl, rfl, trivial⟩ (List.Sublist.refl _)
  refine wl_end [(0, _), (1, _), (2, _), (14, _)] ⟨rfl, rfl, rfl, rfl, trivial⟩ ?_
  refine w_ifb rfl (fun hc1 => ?_) (fun hc1 => ?_)
  · skip
    simp only [Bool.or_eq_true, decide_eq_true_eq] at hc1
    refine w_seq ?_
    refine w_reg ?_
    refine wl_f (f_assign rfl) ?_
    refine wl_f (f_assign rfl) ?_
    refine wl_end [(6, _), (7, _)] ⟨rfl, rfl, trivial⟩ ?_
    refine w_ret ?_
    refine ⟨_, _, fun a ha hh => results_tmps Try.results31 rfl a ha _, List.Sublist.refl _, ?_⟩
    rw [if_pos hc1]; exact ⟨rfl, rfl⟩
  · skip
    simp only [Bool.or_eq_true, decide_eq_true_eq] at hc1
    have hl : l ≠ 16 := by
      rcases hn with h | h | h
      · exact absurd (.inl h) hc1
      · exact absurd (.inr h) hc1
      · exact h
    refine w_skip ?_
    refine w_seq ?_
    refine w_seq ?_
    refine w_reg ?_
    refine wl_f (f_move rfl) ?_
    refine wl_e (e_call0 rfl Try.func46 (by kernel_rfl) (fun w hh => check_spec A l c w)) ?_
    rw [if_neg hl]
    rintro _ _ w1 ⟨_, rfl, rfl, rfl⟩
    refine wl_f (f_assign rfl) ?_
    refine wl_end [(0, _), (1, _), (2, _), (8, _)] ⟨rfl, rfl, rfl, rfl, trivial⟩ ?_
    refine w_seq ?_
    refine w_reg ?_
    refine wl_f (f_move rfl) ?_
    refine wl_f (f_neq rfl rfl) ?_
    refine wl_end [(0, _), (1, _), (2, _), (8, _), (18, _)] ⟨rfl, rfl, rfl, rfl, rfl, trivial⟩ ?_
    refine w_ifb rfl (fun _ => ?_) (fun h => absurd (rfl : decide ((11 : Int) ≠ 0) = true) (by simp at h))
    refine w_seq ?_
    refine w_reg ?_
    refine wl_f (f_move rfl) ?_
    refine wl_f (f_assign rfl) ?_
    refine wl_f (f_assign rfl) ?_
    refine wl_end [(6, _), (7, _)] ⟨rfl, rfl, trivial⟩ ?_
    refine w_ret ?_
    refine ⟨_, _, fun a ha hh => results_tmps Try.results31 rfl a ha _, List.Sublist.refl _, ?_⟩
    rw [if_neg hc1]; exact ⟨rfl, rfl⟩
set_option maxHeartbeats 1000000 in
theorem uxnew_ok (n : Nat) (T : List Nat) (tv : Value) (seed : Int) (w : World) (h1 : 1 ≤ n) (h2 : n ≤ 8192) (hT : T.length = 16) (ht : Rd w Nil 1 tv 16 (u64v T)) : Spec Try.prog 31 [.int .i64 n, tv, .int .u64 seed] w Nil
    fun r H => ∃ b r', r = .tuple #[.pointer (some ⟨b, 0, .none⟩), .int .i64 0] ∧ H = [r'] ∧ TbR xU64 b n T seed [] r' := by
  obtain ⟨A1, c1, rfl, -, hc1', g1⟩ := id ht
  refine enter (n := 29) Try.func31 rfl rfl [(0, _), (1, _), (2, _)] rfl ⟨rfl, rfl, rfl, trivial⟩ (Holds.start _ _) ?_
  refine w_seq ?_
  refine w_reg ?_
  refine wl_f (f_assign rfl) ?_
  refine wl_f (f_assign rfl) ?_
  refine wl_end [(0, _), (1, _), (2, _)] ⟨rfl, rfl, rfl, trivial⟩ ?_
  refine w_seq ?_
  refine w_seq ?_
  refine w_reg ?_
  refine wl_f (f_move rfl) ?_
  refine wl_f (f_lss rfl rfl) ?_
  refine wl_f (f_move rfl) ?_
  refine wl_or (j := 2) (c := decide (8192 < (n : Int))) 2 [(0, _), (1, _), (2, _)] ⟨rfl, rfl, rfl, trivial⟩ rfl rfl rfl rfl rfl (fun hg1_5 => ?_) (fun w1_5 => ?_)
  · skip
    refine wl_gf rfl rfl (f_move rfl) ?_
    refine wl_gf rfl rfl (f_gtr rfl rfl) ?_
    exact wl_pend rfl rfl ⟨rfl, rfl, rfl, trivial⟩ (List.Sublist.refl _)
  refine wl_end [(0, _), (1, _), (2, _), (14, _)] ⟨rfl, rfl, rfl, rfl, trivial⟩ ?_
  refine w_ifb rfl (fun h => absurd h (by simp; omega)) (fun _ => ?_)
  refine w_skip ?_
  refine w_seq ?_
  refine w_seq ?_
  refine w_reg ?_
  refine wl_f (f_move rfl) ?_
  refine wl_e (e_call0 rfl Try.func46 (by kernel_rfl) (fun w hh => check_ok _ _ w)) ?_
  rintro _ _ w1 ⟨_, rfl, rfl, rfl⟩
  refine wl_f (f_assign rfl) ?_
  refine wl_end [(0, _), (1, _), (2, _), (8, _)] ⟨rfl, rfl, rfl, rfl, trivial⟩ ?_
  refine w_seq ?_
  refine w_reg ?_
  refine wl_f (f_move rfl) ?_
  refine wl_f (f_neq rfl rfl) ?_
  refine wl_end [(0, _), (1, _), (2, _), (8, _), (18, _)] ⟨rfl, rfl, rfl, rfl, rfl, trivial⟩ ?_
  refine w_ifb rfl (fun h => absurd h (by simp)) (fun _ => ?_)
  refine w_skip ?_
  refine w_seq ?_
  refine w_post (fun m H w' => ∃ (q : Nat) (tV cV : Value), m = [(6, .pointer (some ⟨q, 0, .none⟩)), (7, .int .i64 0)] ∧ H = ims xU64 q n (2 * n) 0 T seed tV cV (List.replicate (2 * n) none)) ?_ ?_
  · skip
    refine w_drawt (.fl 0 (.fl 1 (.fl 3 (.fl 4 (.fl 5 (.two 2 (.ef 6 (.fl 7 (.ef 8 (.fl 9 (.fl 10 .done))))) 6 (.ef 2 (.fl 7 (.ef 8 (.fl 9 (.fl 10 .done))))))))))) ([]) ([]) mixed (by kernel_rfl) (by kernel_rfl) rfl (perm_all _) (fun w6_ => ?_)
    refine wt_f rfl (f_move rfl) ?_
    refine wt_f rfl (f_move rfl) ?_
    refine wt_f rfl (f_move rfl) ?_
    refine wt_f rfl (f_move rfl) ?_
    refine wt_f rfl (f_eqv (v' := .int .i64 ((2 * n : Nat) : Int)) (f_mul rfl rfl (by omega)) (by congr 1)) ?_
    refine wt_two ?_ ?_
    · skip
      refine es_e rfl (e_call0 rfl Try.func47 (by kernel_rfl) (fun w hh => clone_spec T _ w hT (ht.old0 hh))) ?_
      rintro _ _ w6_2 ⟨_, rfl, A2, c2, rfl, rfl⟩
      refine ⟨_, List.Perm.refl _, ?_⟩
      refine wt_ef (es_e rfl (e_make (l := 2 * n) (cs := icells xU64 (List.replicate (2 * n) none)) rfl rfl t84 (by omega) (by omega) (madeCellsI xU64 (2 * n)).symm) ?_)
      rintro _ _ w6_6 ⟨b6_6, rfl, rfl⟩
      refine ⟨_, List.perm_middle.symm, ?_⟩
      refine wt_f rfl (f_build rfl (fun w => build_umap _ _ _ _ _ _ _ _ w)) ?_
      refine wt_ef (es_e rfl (e_box (cs := [_, _, _, _, _]) rfl rfl) ?_)
      rintro _ _ w6_8 ⟨b6_8, rfl, rfl⟩
      refine ⟨_, List.perm_middle.symm, ?_⟩
      refine wt_f rfl (f_assign rfl) ?_
      refine wt_f rfl (f_assign rfl) ?_
      refine wt_endp [(6, _), (7, _)] [0, 1, 0] ⟨rfl, rfl, trivial⟩ rfl ?_
      exact ⟨b6_8, _, _, rfl, rfl⟩
    · skip
      refine es_e rfl (e_make (l := 2 * n) (cs := icells xU64 (List.replicate (2 * n) none)) rfl rfl t84 (by omega) (by omega) (madeCellsI xU64 (2 * n)).symm) ?_
      rintro _ _ w6_6 ⟨b6_6, rfl, rfl⟩
      refine ⟨_, List.perm_middle.symm, ?_⟩
      refine wt_ef (es_e rfl (e_call0 rfl Try.func47 (by kernel_rfl) (fun w hh => clone_spec T _ w hT (ht.old0 hh))) ?_)
      rintro _ _ w6_2 ⟨_, rfl, A2, c2, rfl, rfl⟩
      refine ⟨_, List.Perm.refl _, ?_⟩
      refine wt_f rfl (f_build rfl (fun w => build_umap _ _ _ _ _ _ _ _ w)) ?_
      refine wt_ef (es_e rfl (e_box (cs := [_, _, _, _, _]) rfl rfl) ?_)
      rintro _ _ w6_8 ⟨b6_8, rfl, rfl⟩
      refine ⟨_, List.perm_middle.symm, ?_⟩
      refine wt_f rfl (f_assign rfl) ?_
      refine wt_f rfl (f_assign rfl) ?_
      refine wt_endp [(6, _), (7, _)] [0, 0, 0] ⟨rfl, rfl, trivial⟩ rfl ?_
      exact ⟨b6_8, _, _, rfl, rfl⟩
  rintro _ _ w6_ ⟨q, tV, cV, rfl, rfl⟩
  refine w_bun (H := []) (ims xU64 q n (2 * n) 0 T seed tV cV _) ?_
  refine w_ret ?_
  refine ⟨_, _, fun a ha hh => results_tmps Try.results31 rfl a ha _, List.Sublist.refl _, ?_⟩
  refine ⟨q, _, rfl, rfl, 2 * n, List.replicate (2 * n) none, ⟨h1, h2, rfl, hT, List.length_replicate, tV, cV, by rw [ents_replicate]; rfl⟩, TInv.new _, by rw [ents_replicate], by rw [ents_replicate]; exact Nat.zero_le _, by rw [ents_replicate]; simp⟩
end Go.Proofs.Ytkoklfagmbaapaa
