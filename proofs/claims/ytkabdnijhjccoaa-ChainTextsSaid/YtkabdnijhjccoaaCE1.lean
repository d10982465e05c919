/- The law ChainTexts: the call returns true. -/
import Derived.Test.YtkabdnijhjccoaaCB
namespace Go.Proofs.Ytkabdnijhjccoaa
open Go.RowKit

/-- Texts by number. -/
def numd (l : List ByteArray) : List (Nat × ByteArray) := l.zipIdx.map fun p => (p.2, p.1)
theorem numd_nodes (l : List ByteArray) : nodes (numd l) = List.range l.length := by
  simp only [numd, nodes, List.map_map]
  apply List.ext_getElem
  · simp
  · intro i h1 h2; simp
theorem numd_snoc (l : List ByteArray) (s : ByteArray) : numd (l ++ [s]) = numd l ++ [(l.length, s)] := by
  simp [numd, List.zipIdx_append]
theorem numd_len (l : List ByteArray) : (numd l).length = l.length := by simp [numd]
theorem numd_vals (l : List ByteArray) : (numd l).map Prod.snd = l := by
  simp only [numd, List.map_map]
  apply List.ext_getElem
  · simp
  · intro i h1 h2; simp
theorem numd_fresh (l : List ByteArray) : Fresh (nodes (numd l)) l.length := by
  rw [numd_nodes]
  exact ⟨by simp, fun j hj => List.mem_range.2 hj⟩
theorem snew_ok (k : Nat) (h : 1 ≤ k ∧ k ≤ 8192) {r : Value} {H : List Res} (hs : ((((k : Nat) : Int) < 1 ∨ 8192 < ((k : Nat) : Int)) ∧ r = .tuple #[.pointer .none, .int .i64 1] ∧ H = []) ∨
    ∃ (k' b : Nat) (r' : Res), ((k : Nat) : Int) = k' ∧ 1 ≤ k' ∧ k' ≤ 8192 ∧ r = .tuple #[.pointer (some ⟨b, 0, .none⟩), .int .i64 0] ∧ H = [r'] ∧ ChR kStr b k' [] r') :
    ∃ (b : Nat) (r' : Res), r = .tuple #[.pointer (some ⟨b, 0, .none⟩), .int .i64 0] ∧ H = [r'] ∧ ChR kStr b k [] r' := by
  rcases hs with ⟨h', _⟩ | ⟨k', b, r', e, _, _, h1, h2, h3⟩
  · omega
  · obtain rfl : k = k' := by omega
    exact ⟨b, r', h1, h2, h3⟩
theorem sv_cells (l : List ByteArray) : vcells kStr l = sv l := flatMap_single _ l

set_option maxHeartbeats 2000000 in
theorem chainTexts_spec (A : Option Addr) (c : Nat) (l : List ByteArray) (w : World) (hx : Rd w Nil 1 (.slice A l.length c) l.length (sv l)) (hl : l.length ≤ 140737488355328) :
    Spec Try.prog 3 [.slice A l.length c] w Nil fun r _ => r = .bool true := by
  obtain ⟨A', c', e, hxl, hxc, hxA⟩ := id hx
  injection e with e1 _ e3
  subst e1; subst e3
  refine enter (n := 65) Try.func3 rfl rfl [(0, _)] rfl ⟨rfl, trivial⟩ (Holds.start _ _) ?_
  refine w_seq ?_
  refine w_reg ?_
  refine wl_f (f_assign rfl) ?_
  refine wl_end [(0, _)] ⟨rfl, trivial⟩ ?_
  refine w_seq ?_
  refine w_reg ?_
  refine wl_e (e_call0 rfl Try.func12 (by kernel_rfl) (fun w hh => snew_spec 30 w)) ?_
  rintro u _ w1 ⟨H1, rfl, hH⟩
  obtain ⟨b, r0, rfl, rfl, hr0⟩ := snew_ok 30 (by omega) hH
  clear hH
  refine wl_f (f_move rfl) ?_
  refine wl_f (f_extract rfl rfl) ?_
  refine wl_f (f_extract rfl rfl) ?_
  refine wl_f (f_assign rfl) ?_
  refine wl_f (f_assign rfl) ?_
  refine wl_end [(0, _), (3, _), (4, _)] ⟨rfl, rfl, rfl, trivial⟩ ?_
  refine w_seq ?_
  refine w_seq ?_
  refine w_reg ?_
  refine wl_f (f_move rfl) ?_
  refine wl_f (f_neq rfl rfl) ?_
  refine wl_f (f_move rfl) ?_
  refine wl_or (j := 2) (c := false) 2 [(0, _), (3, _)] ⟨rfl, rfl, trivial⟩ rfl rfl rfl rfl rfl (fun hg2_5 => ?_) (fun w2_5 => ?_)
  · skip
    refine wl_gf rfl rfl (f_move rfl) ?_
    refine wl_gf rfl rfl (f_eqlnil rfl rfl Try.underlying23) ?_
    exact wl_pend rfl rfl ⟨rfl, rfl, trivial⟩ (List.Sublist.refl _)
  refine wl_end [(0, _), (3, _), (20, _)] ⟨rfl, rfl, rfl, trivial⟩ ?_
  refine w_iff rfl ?_
  refine w_skip ?_
  refine w_seq ?_
  refine w_reg ?_
  refine wl_f (f_move rfl) ?_
  refine wl_f (f_len rfl Try.underlying22) ?_
  refine wl_f (f_min (r := ((min l.length 30 : Nat) : Int)) rfl rfl (by split <;> omega)) ?_
  refine wl_f (f_assign rfl) ?_
  refine wl_end [(0, _), (3, _), (5, _)] ⟨rfl, rfl, rfl, trivial⟩ ?_
  refine w_seq ?_
  refine w_seq ?_
  refine w_reg ?_
  refine wl_f (f_assign rfl) ?_
  refine wl_end [(0, _), (3, _), (5, _), (6, _)] ⟨rfl, rfl, rfl, rfl, trivial⟩ ?_
  refine w_block ?_
  refine w_loop (fun k m H w' => ∃ (i : Nat) (r : Res), m = [(0, .slice A l.length c), (3, .pointer (some ⟨b, 0, .none⟩)), (5, .int .i64 ((min l.length 30 : Nat) : Int)), (6, .int .i64 i)] ∧ H = [r] ∧ ChR kStr b 30 (numd (l.take i)) r ∧ k + i = min l.length 30) (min l.length 30)
    ⟨0, r0, rfl, rfl, hr0, rfl⟩ ?_
  rintro k _ _ w2 ⟨i, r, rfl, rfl, hr, hk⟩
  refine w_seq ?_
  refine w_seq ?_
  refine w_reg ?_
  refine wl_f (f_move rfl) ?_
  refine wl_f (f_move rfl) ?_
  refine wl_f (f_lss rfl rfl) ?_
  refine wl_end [(0, _), (3, _), (5, _), (6, _), (26, _)] ⟨rfl, rfl, rfl, rfl, rfl, trivial⟩ ?_
  refine w_ifd rfl (fun hc2 => ?_) (fun hc2 => ?_)
  · skip
    have hi : i < l.length := by omega
    obtain ⟨s, hsi⟩ : ∃ s, l[i]? = some s := ⟨_, List.getElem?_eq_getElem hi⟩
    have hti : (l.take i).length = i := by rw [List.length_take]; omega
    obtain ⟨b2, off, rfl, _, _, hcell⟩ := hxA.resolve_left (by omega)
    refine w_skip ?_
    refine w_seq ?_
    refine w_block ?_
    refine w_seq ?_
    refine w_reg ?_
    refine wl_f (f_move rfl) ?_
    refine wl_f (f_move rfl) ?_
    refine wl_f (f_move rfl) ?_
    refine wl_f (f_indexAddr 1 (i := i) rfl rfl Try.underlying22 (by kernel_rfl) rfl hi) ?_
    refine wl_f (f_loado (v := .string s) rfl Try.underlying9 rfl (hcell _ _ (by simp [sv, hsi])) id) ?_
    refine wl_e (e_call1 r [] rfl Try.func13 (by kernel_rfl) (List.Perm.refl _) (fun w hh hs => spushBack_spec b 30 (numd (l.take i)) s r w (by omega) hr hs)) ?_
    rintro u _ w3 ⟨H1, rfl, hH⟩
    obtain ⟨r1, rfl, rfl, hr1⟩ := hH.ok (by rw [List.append_nil, numd_len]; omega) i (by have h := numd_fresh (l.take i); rw [hti] at h; rw [List.append_nil]; exact h)
    clear hH
    have hs1 : numd (l.take i) ++ [(i, s)] = numd (l.take (i + 1)) := by rw [List.take_add_one, hsi]; show _ = numd (l.take i ++ [s]); rw [numd_snoc, hti]
    rw [hs1] at hr1
    refine wl_f (f_move rfl) ?_
    refine wl_f (f_extract rfl rfl) ?_
    refine wl_f (f_extract rfl rfl) ?_
    refine wl_f (f_assign rfl) ?_
    refine wl_f (f_assign rfl) ?_
    refine wl_end [(0, _), (3, _), (5, _), (6, _), (7, _), (8, _)] ⟨rfl, rfl, rfl, rfl, rfl, rfl, trivial⟩ ?_
    refine w_seq ?_
    refine w_reg ?_
    refine wl_f (f_move rfl) ?_
    refine wl_f (f_neq rfl rfl) ?_
    refine wl_f (f_move rfl) ?_
    refine wl_or (j := 2) (c := decide ((i : Int) ≠ (i : Int))) 3 [(0, _), (3, _), (5, _), (6, _)] ⟨rfl, rfl, rfl, rfl, trivial⟩ rfl rfl rfl rfl rfl (fun hg9_6 => ?_) (fun w9_6 => ?_)
    · skip
      refine wl_gf rfl rfl (f_move rfl) ?_
      refine wl_gf rfl rfl (f_move rfl) ?_
      refine wl_gf rfl rfl (f_neq rfl rfl) ?_
      exact wl_pend rfl rfl ⟨rfl, rfl, rfl, rfl, trivial⟩ (List.Sublist.refl _)
    refine wl_end [(0, _), (3, _), (5, _), (6, _), (44, _)] ⟨rfl, rfl, rfl, rfl, rfl, trivial⟩ ?_
    refine w_ifb rfl (fun h => absurd h (by simp)) (fun _ => ?_)
    refine w_skip ?_
    refine w_reg ?_
    refine wl_f (f_move rfl) ?_
    refine wl_f (f_add rfl rfl (by omega)) ?_
    refine wl_f (f_assign rfl) ?_
    refine wl_end [(0, _), (3, _), (5, _), (6, _)] ⟨rfl, rfl, rfl, rfl, trivial⟩ ?_
    exact ⟨k - 1, by omega, i + 1, r1, rfl, rfl, hr1, by omega⟩
  · skip
    obtain rfl : i = min l.length 30 := by omega
    clear hk
    refine w_exit0 ?_
    refine w_seq ?_
    refine w_seq ?_
    refine w_drawk [(0, true), (2, true), (3, true), (4, true), (1, false), (5, false), (6, true)] ([(_, some 1)]) ([]) mixed (by kernel_rfl) (by kernel_rfl) rfl rfl (List.Perm.refl _) (fun w11_ => ?_)
    refine wk_f rfl (f_move rfl) ?_
    refine wk_f rfl (f_move rfl) ?_
    refine wk_f rfl (f_move rfl) ?_
    refine wk_f rfl (f_sliceA 1 (l := 0) (u := min l.length 30) rfl Try.underlying22 (by kernel_rfl) rfl ⟨_, rfl⟩ (by omega) (by omega)) ?_
    refine wk_e rfl (e_call1 r [] rfl Try.func15 (by kernel_rfl) (List.Perm.refl _) (fun w hh hs => svalues_spec b 30 _ r w (by omega) hr hs)) ?_
    rintro V1 _ w5 ⟨H1, rfl, rfl⟩
    refine ⟨_, List.Perm.refl _, ?_⟩
    refine wk_e rfl (e_call0 rfl Try.func14 (by kernel_rfl) (fun w hh => sameTexts_spec _ _ (l.take (min l.length 30)) (l.take (min l.length 30)) w (by have h := Rd.held0 hh (i := 0) rfl; rw [numd_vals, sv_cells, numd_len] at h; exact h)
      (by have h := (hx.old0 hh).cut (l := 0) (u := min l.length 30) (by omega) (by omega); rw [show (min l.length 30 - 0) = (l.take (min l.length 30)).length by rw [List.length_take]; omega] at h ⊢; simpa [sv, List.map_take] using h) (by rw [List.length_take]; omega) (by rw [List.length_take]; omega))) ?_
    rintro _ _ w6 ⟨_, rfl, rfl, rfl⟩
    refine ⟨_, List.Perm.refl _, ?_⟩
    refine wk_f rfl (f_not rfl rfl) ?_
    refine wk_endp [(3, _), (5, _), (51, _)] [1] ⟨rfl, rfl, rfl, trivial⟩ rfl ?_
    refine w_ifb rfl (fun h => absurd h (by simp)) (fun _ => ?_)
    refine w_skip ?_
    refine w_seq ?_
    refine w_reg ?_
    refine wl_f (f_move rfl) ?_
    refine wl_e (e_call1 r [] rfl Try.func13 (by kernel_rfl) (List.Perm.refl _) (fun w hh hs => spushBack_spec b 30 _ ⟨#[120]⟩ r w (by omega) hr hs)) ?_
    rintro u _ w7 ⟨H1, rfl, hH⟩
    obtain ⟨x, z, hxz, rfl⟩ : ∃ x z : Int, (z = 7 ↔ min l.length 30 = 30) ∧ u = .tuple [.int .i64 x, .int .i64 z].toArray := by
      rcases hH with ⟨h, rfl, _⟩ | ⟨h, x, r', _, rfl, _⟩
      · rw [List.append_nil, numd_len, List.length_take] at h
        exact ⟨_, _, by omega, rfl⟩
      · rw [List.append_nil, numd_len, List.length_take] at h
        exact ⟨_, 0, by omega, rfl⟩
    refine wl_f (f_move rfl) ?_
    refine wl_f (f_extract rfl rfl) ?_
    refine wl_f (f_extract rfl rfl) ?_
    refine wl_f (f_assign rfl) ?_
    refine wl_f (f_assign rfl) ?_
    refine wl_end [(5, _), (10, _)] ⟨rfl, rfl, trivial⟩ ?_
    refine w_seq ?_
    refine w_reg ?_
    refine wl_f (f_move rfl) ?_
    refine wl_f (f_eql rfl rfl) ?_
    refine wl_f (f_move rfl) ?_
    refine wl_f (f_eql rfl rfl) ?_
    refine wl_f (f_eqlb rfl rfl Try.underlying4) ?_
    refine wl_f (f_move rfl) ?_
    refine wl_and (j := 5) (c := true) 1 [] trivial rfl rfl rfl rfl rfl (fun hg14_7 => ?_) (fun w14_7 => ?_)
    · skip
      refine wl_ge rfl rfl (e_call0 rfl Try.func16 (by kernel_rfl) (fun w hh => awake11_spec w)) ?_
      rintro _ _ w8 ⟨_, rfl, rfl⟩
      exact wl_pend rfl rfl trivial (List.sublist_append_right _ _)
    refine wl_f (f_assign rfl) ?_
    refine wl_end [(2, _)] ⟨rfl, trivial⟩ ?_
    refine w_ret ?_
    refine ⟨_, _, fun a ha hh => results_tmps Try.results3 rfl a ha _, List.Sublist.refl _, ?_⟩
    show Value.bool _ = _
    congr 1
    have : (decide (z = 7) == decide (((min l.length 30 : Nat) : Int) = 30)) = true := by
      rw [beq_iff_eq, decide_eq_decide]
      omega
    rw [this]; rfl
end Go.Proofs.Ytkabdnijhjccoaa
