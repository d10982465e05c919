/- Sorting at most twelve texts; the keys of a table. -/
import Derived.Test.YtkoklfagmbaapaaIA
import Derived.Test.YtkoklfagmbaapaaK12
namespace Go.Proofs.Ytkoklfagmbaapaa
open Go.RowKit

theorem t30 : SlT Try.prog 30 9 1 16 (.string ByteArray.empty) := .mk' Try.underlying30 (by kernel_rfl) rfl (by decide)
set_option maxRecDepth 100000 in
theorem len64_spec (k : Nat) (w : World) (hk : k < 256) : Spec Try.prog 71 [.int .u64 k] w Nil fun r H => ∃ n : Int, r = .int .i64 n ∧ H = [] := by
  refine enter (n := 25) Try.func71 rfl rfl [(0, _)] rfl ⟨rfl, trivial⟩ (Holds.start _ _) ?_
  refine w_seq ?_
  refine w_reg ?_
  refine wl_f (f_assign rfl) ?_
  refine wl_end [(0, _), (2, _)] ⟨rfl, rfl, trivial⟩ ?_
  refine w_seq ?_
  refine w_seq ?_
  refine w_reg ?_
  refine wl_f (f_move rfl) ?_
  refine wl_f (f_geq rfl rfl) ?_
  refine wl_end [(0, _), (2, _), (4, _)] ⟨rfl, rfl, rfl, trivial⟩ ?_
  refine w_ifd rfl (fun h => absurd h (by omega)) (fun _ => ?_)
  refine w_skip ?_
  refine w_seq ?_
  refine w_seq ?_
  refine w_reg ?_
  refine wl_f (f_move rfl) ?_
  refine wl_f (f_geq rfl rfl) ?_
  refine wl_end [(0, _), (2, _), (8, _)] ⟨rfl, rfl, rfl, trivial⟩ ?_
  refine w_ifd rfl (fun h => absurd h (by omega)) (fun _ => ?_)
  refine w_skip ?_
  refine w_seq ?_
  refine w_seq ?_
  refine w_reg ?_
  refine wl_f (f_move rfl) ?_
  refine wl_f (f_geq rfl rfl) ?_
  refine wl_end [(0, _), (2, _), (14, _)] ⟨rfl, rfl, rfl, trivial⟩ ?_
  refine w_ifd rfl (fun h => absurd h (by omega)) (fun _ => ?_)
  refine w_skip ?_
  refine w_seq ?_
  refine w_reg ?_
  refine wl_f (f_move rfl) ?_
  refine wl_f (f_move rfl) ?_
  refine wl_f (f_convb rfl Try.underlying33 Try.underlying5 (by omega)) ?_
  refine wl_f (f_indexs rfl rfl Try.underlying9 rfl (Array.getElem?_eq_getElem (show k < 256 from hk))) ?_
  generalize hb : UInt8.toNat _ = b
  have hb' : b < 256 := hb ▸ UInt8.toNat_lt _
  clear hb
  refine wl_f (f_convi rfl Try.underlying5 Try.underlying3 (by omega)) ?_
  refine wl_f (f_addw rfl rfl) ?_
  refine wl_f (f_assign rfl) ?_
  refine wl_end [(2, _)] ⟨rfl, trivial⟩ ?_
  refine w_ret ?_
  refine ⟨_, _, fun a ha hh => results_tmps Try.results71 rfl a ha _, List.Sublist.refl _, ?_⟩
  exact ⟨_, rfl, rfl⟩
theorem len_spec (k : Nat) (w : World) (hk : k < 256) : Spec Try.prog 59 [.int .u64 k] w Nil fun r H => ∃ n : Int, r = .int .i64 n ∧ H = [] := by
  refine enter (n := 8) Try.func59 rfl rfl [(0, _)] rfl ⟨rfl, trivial⟩ (Holds.start _ _) ?_
  refine w_seq ?_
  refine w_reg ?_
  refine wl_f (f_assign rfl) ?_
  refine wl_end [(0, _)] ⟨rfl, trivial⟩ ?_
  refine w_seq ?_
  refine w_iff rfl ?_
  refine w_skip ?_
  refine w_seq ?_
  refine w_reg ?_
  refine wl_f (f_move rfl) ?_
  refine wl_e (e_call0 rfl Try.func71 (by kernel_rfl) (fun w hh => len64_spec k w hk)) ?_
  rintro _ _ w1 ⟨_, rfl, n, rfl, rfl⟩
  refine wl_f (f_assign rfl) ?_
  refine wl_end [(2, _)] ⟨rfl, trivial⟩ ?_
  refine w_ret ?_
  refine ⟨_, _, fun a ha hh => results_tmps Try.results59 rfl a ha _, List.Sublist.refl _, ?_⟩
  exact ⟨_, rfl, rfl⟩


theorem isnan_spec (a : ByteArray) (w : World) : Spec Try.prog 77 [.string a] w Nil fun r H => r = .bool false ∧ H = [] := by
  refine enter (n := 6) Try.func77 rfl rfl [(0, _)] rfl ⟨rfl, trivial⟩ (Holds.start _ _) ?_
  refine w_seq ?_
  refine w_reg ?_
  refine wl_f (f_assign rfl) ?_
  refine wl_end [(0, _)] ⟨rfl, trivial⟩ ?_
  refine w_seq ?_
  refine w_reg ?_
  refine wl_f (f_move rfl) ?_
  refine wl_f (f_move rfl) ?_
  refine wl_f (f_neqs rfl rfl) ?_
  refine wl_f (f_assign rfl) ?_
  refine wl_end [(2, _)] ⟨rfl, trivial⟩ ?_
  refine w_ret ?_
  refine ⟨_, _, fun a ha hh => results_tmps Try.results77 rfl a ha _, List.Sublist.refl _, ?_⟩
  exact ⟨by show Value.bool _ = _; simp, rfl⟩
theorem less_spec (a b : ByteArray) (w : World) : Spec Try.prog 67 [.string a, .string b] w Nil fun r H => r = .bool (nlt a b) ∧ H = [] := by
  refine enter (n := 17) Try.func67 rfl rfl [(0, _), (1, _)] rfl ⟨rfl, rfl, trivial⟩ (Holds.start _ _) ?_
  refine w_seq ?_
  refine w_reg ?_
  refine wl_f (f_assign rfl) ?_
  refine wl_end [(0, _), (1, _)] ⟨rfl, rfl, trivial⟩ ?_
  refine w_seq ?_
  refine w_reg ?_
  refine wl_f (f_move rfl) ?_
  refine wl_e (e_call0 rfl Try.func77 (by kernel_rfl) (fun w hh => isnan_spec a w)) ?_
  rintro _ _ w1 ⟨_, rfl, rfl, rfl⟩
  refine wl_f (f_move rfl) ?_
  refine wl_gs rfl rfl ?_
  refine wl_gs rfl rfl ?_
  skip
  refine wl_gs rfl rfl ?_
  refine wl_f (f_pick0 rfl rfl) ?_
  refine wl_f (f_move rfl) ?_
  refine wl_gf rfl rfl (f_move rfl) ?_
  refine wl_gf rfl rfl (f_move rfl) ?_
  refine wl_gf rfl rfl (f_lsss rfl rfl) ?_
  refine wl_f (f_pick0 rfl rfl) ?_
  refine wl_f (f_assign rfl) ?_
  refine wl_end [(4, _)] ⟨rfl, trivial⟩ ?_
  refine w_ret ?_
  refine ⟨_, _, fun a ha hh => results_tmps Try.results67 rfl a ha _, List.Sublist.refl _, ?_⟩
  exact ⟨rfl, rfl⟩
theorem sv_len (l : List ByteArray) : (sv l).length = l.length := by simp [sv]
theorem sv_app (a b : List ByteArray) : sv (a ++ b) = sv a ++ sv b := by simp [sv]
theorem sc_get (a b : List ByteArray) (x : ByteArray) {i : Nat} (h : a.length = i) : ((sv (a ++ x :: b)).drop (0 + i * 1)).take 1 = [.string x] := by
  rw [sv_app, List.drop_left' (by rw [sv_len]; omega)]
  rfl
theorem sc_set (a b : List ByteArray) (x y : ByteArray) {i : Nat} (h : a.length = i) : (sv (a ++ x :: b)).take (0 + i * 1) ++ [.string y] ++ (sv (a ++ x :: b)).drop (0 + i * 1 + 1) = sv (a ++ y :: b) := by
  rw [sv_app, List.take_left' (by rw [sv_len]; omega), ← List.drop_drop, List.drop_left' (by rw [sv_len]; omega), sv_app]
  simp [sv]
theorem take_snoc {α : Type} (l : List α) (i : Nat) (t : α) (h : l[i]? = some t) : l.take (i + 1) = l.take i ++ [t] := by rw [List.take_add_one, h]; rfl

set_option maxHeartbeats 1000000 in
theorem insertion_spec (g cap : Nat) (l : List ByteArray) (w : World) (h0 : 0 < l.length) (hn : l.length ≤ 1000000)
    (hs : Holds w (row (.slice (some ⟨g, 0, .none⟩) l.length cap) 9 1 l.length (sv l)).foot [row (.slice (some ⟨g, 0, .none⟩) l.length cap) 9 1 l.length (sv l)] w) :
    Spec Try.prog 61 [.slice (some ⟨g, 0, .none⟩) l.length cap, .int .i64 0, .int .i64 l.length] w (row (.slice (some ⟨g, 0, .none⟩) l.length cap) 9 1 l.length (sv l)).foot
      fun _ H => ∃ l', H = [row (.slice (some ⟨g, 0, .none⟩) l.length cap) 9 1 l.length (sv l')] ∧ l'.Perm l ∧ Wks l' := by
  refine enter (n := 49) Try.func61 rfl rfl [(0, _), (1, _), (2, _)] rfl ⟨rfl, rfl, rfl, trivial⟩ hs ?_
  refine w_seq ?_
  refine w_reg ?_
  refine wl_f (f_move rfl) ?_
  refine wl_f (f_add rfl rfl (by omega)) ?_
  refine wl_f (f_assign rfl) ?_
  refine wl_end [(0, _), (1, _), (2, _), (6, _)] ⟨rfl, rfl, rfl, rfl, trivial⟩ ?_
  refine w_block ?_
  refine w_loop (fun k m H w => ∃ (i : Nat) (p : List ByteArray), m = [(0, .slice (some ⟨g, 0, .none⟩) l.length cap), (1, .int .i64 0), (2, .int .i64 l.length), (6, .int .i64 i)] ∧
    H = [row (.slice (some ⟨g, 0, .none⟩) l.length cap) 9 1 l.length (sv (p ++ l.drop i))] ∧ p.length = i ∧ 1 ≤ i ∧ k + i = l.length ∧ p.Perm (l.take i) ∧ Wks p) (l.length - 1)
    ⟨1, l.take 1, rfl, by rw [List.take_append_drop], by rw [List.length_take]; omega, by omega, by omega, List.Perm.refl _, by
      obtain ⟨x, l', rfl⟩ := List.exists_cons_of_length_pos h0
      exact List.pairwise_singleton _ _⟩ ?_
  rintro k _ _ w1 ⟨i, p, rfl, rfl, hpl, hi1, hk, hperm, hwk⟩
  refine w_seq ?_
  refine w_seq ?_
  refine w_reg ?_
  refine wl_f (f_move rfl) ?_
  refine wl_f (f_move rfl) ?_
  refine wl_f (f_lss rfl rfl) ?_
  refine wl_end [(0, _), (1, _), (2, _), (6, _), (12, _)] ⟨rfl, rfl, rfl, rfl, rfl, trivial⟩ ?_
  refine w_ifd rfl (fun hc1 => ?_) (fun hc1 => ?_)
  · skip
    obtain ⟨t, ht⟩ : ∃ t, l[i]? = some t := ⟨l[i]'(by omega), List.getElem?_eq_getElem (by omega)⟩
    have hdrop : l.drop i = t :: l.drop (i + 1) := by
      obtain ⟨hlt, he⟩ := List.getElem?_eq_some_iff.1 ht
      rw [← he, List.drop_eq_getElem_cons hlt]
    refine w_skip ?_
    refine w_seq ?_
    refine w_block ?_
    refine w_seq ?_
    refine w_reg ?_
    refine wl_f (f_move rfl) ?_
    refine wl_f (f_assign rfl) ?_
    refine wl_end [(0, _), (1, _), (2, _), (6, _), (7, _)] ⟨rfl, rfl, rfl, rfl, rfl, trivial⟩ ?_
    refine w_block ?_
    refine w_loop (fun j m H w => ∃ (q r : List ByteArray), m = [(0, .slice (some ⟨g, 0, .none⟩) l.length cap), (1, .int .i64 0), (2, .int .i64 l.length), (6, .int .i64 i), (7, .int .i64 j)] ∧
      H = [row (.slice (some ⟨g, 0, .none⟩) l.length cap) 9 1 l.length (sv (q ++ t :: (r ++ l.drop (i + 1))))] ∧ q.length = j ∧ q ++ r = p ∧ ∀ x ∈ r, nlt t x = true) i
      ⟨p, [], rfl, by rw [hdrop]; simp, hpl, by simp, by simp⟩ ?_
    rintro j _ _ w2 ⟨q, r, rfl, rfl, hq, hqr, hr⟩
    refine w_seq ?_
    refine w_seq ?_
    refine w_post (fun m H w' => ∃ c : Bool, m = [(0, .slice (some ⟨g, 0, .none⟩) l.length cap), (1, .int .i64 0), (2, .int .i64 l.length), (6, .int .i64 i), (7, .int .i64 j), (30, .bool c)] ∧
      H = [row (.slice (some ⟨g, 0, .none⟩) l.length cap) 9 1 l.length (sv (q ++ t :: (r ++ l.drop (i + 1))))] ∧ (c = true → ∃ q' y, q = q' ++ [y] ∧ nlt t y = true) ∧ (c = false → ∀ y ∈ q, nlt t y = false)) ?_ ?_
    · by_cases hG4 : (0 : Int) < (j : Int)
      · skip
        obtain ⟨q', y, rfl⟩ : ∃ q' y, q = q' ++ [y] := ⟨q.dropLast, q.getLast (by rintro rfl; simp at hq; omega), (List.dropLast_concat_getLast _).symm⟩
        have hq' : q'.length + 1 = j := by simpa using hq
        have hlen : j < l.length := by
          have := congrArg List.length hqr
          simp at this
          omega
        refine w_draw [(0, true), (1, true), (2, true), (3, true), (4, true), (5, true), (6, true), (7, true), (8, true), (9, true), (10, true), (11, true), (12, true), (13, false), (14, true)] (_) ([]) mixed (by kernel_rfl) (by kernel_rfl) rfl (perm_all _) (fun w4_ => ?_)
        refine wd_f rfl (f_move rfl) ?_
        refine wd_f rfl (f_move rfl) ?_
        refine wd_f rfl (f_eqv (f_gtr rfl rfl) (congrArg Value.bool (decide_eq_true hG4))) ?_
        refine wd_f rfl (f_move rfl) ?_
        refine wd_gf rfl rfl rfl (f_move rfl) ?_
        refine wd_gf rfl rfl rfl (f_move rfl) ?_
        refine wd_gf rfl rfl rfl (f_indexAddr 1 (i := j) rfl rfl Try.underlying30 (by kernel_rfl) rfl hlen) ?_
        refine wd_gf rfl rfl rfl (f_loadr1 (v := .string t) 0 rfl Try.underlying9 rfl rfl (sc_get _ _ _ hq)) ?_
        refine wd_gf rfl rfl rfl (f_move rfl) ?_
        refine wd_gf rfl rfl rfl (f_move rfl) ?_
        refine wd_gf rfl rfl rfl (f_sub rfl rfl (by omega)) ?_
        refine wd_gf rfl rfl rfl (f_indexAddr 1 (i := q'.length) rfl rfl Try.underlying30 (by kernel_rfl) (by omega) (by omega)) ?_
        refine wd_gf rfl rfl rfl (f_loadr1 (v := .string y) 0 rfl Try.underlying9 rfl rfl (by rw [List.append_assoc, List.singleton_append]; exact sc_get q' _ y rfl)) ?_
        refine wd_ge rfl rfl rfl (e_call0 rfl Try.func67 (by kernel_rfl) (fun w hh => less_spec t y w)) ?_
        rintro _ _ w4 ⟨_, rfl, rfl, rfl⟩
        refine ⟨_, List.Perm.refl _, ?_⟩
        refine wd_f rfl (f_pick rfl rfl rfl) ?_
        refine wd_end [(0, _), (1, _), (2, _), (6, _), (7, _), (30, _)] ⟨rfl, rfl, rfl, rfl, rfl, rfl, trivial⟩ ?_
        refine ⟨nlt t y, rfl, rfl, fun h => ⟨q', y, rfl, h⟩, fun h z hz => ?_⟩
        rcases List.mem_append.1 hz with hz | hz
        · rw [← hqr] at hwk
          have := (List.pairwise_append.1 (List.pairwise_append.1 hwk).1).2.2 z hz y (List.mem_singleton.2 rfl)
          exact nle_trans this h
        · rw [List.mem_singleton] at hz; subst hz; exact h
      · skip
        refine w_draw [(0, true), (1, true), (2, true), (3, true), (4, true), (5, true), (6, true), (7, true), (8, true), (9, true), (10, true), (11, true), (12, true), (13, false), (14, true)] (_) ([]) mixed (by kernel_rfl) (by kernel_rfl) rfl (perm_all _) (fun w4_ => ?_)
        refine wd_f rfl (f_move rfl) ?_
        refine wd_f rfl (f_move rfl) ?_
        refine wd_f rfl (f_eqv (f_gtr rfl rfl) (congrArg Value.bool (decide_eq_false hG4))) ?_
        refine wd_f rfl (f_move rfl) ?_
        refine wd_gs rfl rfl rfl ?_
        refine wd_gs rfl rfl rfl ?_
        refine wd_gs rfl rfl rfl ?_
        refine wd_gs rfl rfl rfl ?_
        refine wd_gs rfl rfl rfl ?_
        refine wd_gs rfl rfl rfl ?_
        refine wd_gs rfl rfl rfl ?_
        refine wd_gs rfl rfl rfl ?_
        refine wd_gs rfl rfl rfl ?_
        refine wd_ges rfl rfl rfl ?_
        refine wd_f rfl (f_pick rfl rfl rfl) ?_
        refine wd_end [(0, _), (1, _), (2, _), (6, _), (7, _), (30, _)] ⟨rfl, rfl, rfl, rfl, rfl, rfl, trivial⟩ ?_
        refine ⟨false, rfl, rfl, fun h => (by cases h), fun _ y hy => ?_⟩
        have : q = [] := List.eq_nil_of_length_eq_zero (by omega)
        subst this; cases hy
    rintro _ _ w5 ⟨c, rfl, rfl, hct, hcf⟩
    refine w_ifb rfl (fun hc2 => ?_) (fun hc2 => ?_)
    · skip
      obtain ⟨q', y, rfl, hty⟩ := hct hc2
      have hq' : q'.length + 1 = j := by simpa using hq
      have hlen : j < l.length := by
        have := congrArg List.length hqr
        simp at this
        omega
      rw [List.append_assoc, List.singleton_append]
      refine w_skip ?_
      refine w_seq ?_
      refine w_block ?_
      refine w_drawk [(0, true), (1, true), (2, true), (3, true), (4, true), (5, true), (6, true), (7, true), (8, true), (9, true), (10, true), (11, true), (12, true), (13, true), (14, true), (15, false), (16, true), (17, false)] ([(_, some 15)]) ([]) mixed (by kernel_rfl) (by kernel_rfl) rfl rfl (List.Perm.refl _) (fun w6_ => ?_)
      refine wk_f rfl (f_move rfl) ?_
      refine wk_f rfl (f_move rfl) ?_
      refine wk_f rfl (f_move rfl) ?_
      refine wk_f rfl (f_move rfl) ?_
      refine wk_f rfl (f_sub rfl rfl (by omega)) ?_
      refine wk_f rfl (f_move rfl) ?_
      refine wk_f rfl (f_move rfl) ?_
      refine wk_f rfl (f_sub rfl rfl (by omega)) ?_
      refine wk_f rfl (f_indexAddr 1 (i := q'.length) rfl rfl Try.underlying30 (by kernel_rfl) (by omega) (by omega)) ?_
      refine wk_f rfl (f_loadr1 (v := .string y) 0 rfl Try.underlying9 rfl rfl (sc_get q' _ y rfl)) ?_
      refine wk_f rfl (f_move rfl) ?_
      refine wk_f rfl (f_move rfl) ?_
      refine wk_f rfl (f_indexAddr 1 (i := j) rfl rfl Try.underlying30 (by kernel_rfl) rfl (by omega)) ?_
      refine wk_f rfl (f_loadr1 (v := .string t) 0 rfl Try.underlying9 rfl rfl (by have := sc_get (q' ++ [y]) (r ++ l.drop (i + 1)) t hq; rwa [List.append_assoc, List.singleton_append] at this)) ?_
      refine wk_f rfl (f_indexAddr 1 (i := j) rfl rfl Try.underlying30 (by kernel_rfl) rfl (by omega)) ?_
      refine wk_e0 rfl (e_storer0 (us := [.string y]) (xs' := sv (q' ++ y :: y :: (r ++ l.drop (i + 1)))) rfl rfl rfl (by kernel_rfl) (by simp [Value.oneCell']) (by rw [sv_len]; simp; omega) (by have := sc_set (q' ++ [y]) (r ++ l.drop (i + 1)) t y hq; simpa using this)) ?_
      rintro _ _ w6_15 rfl
      refine ⟨_, List.Perm.refl _, ?_⟩
      refine wk_f rfl (f_indexAddr 1 (i := q'.length) rfl rfl Try.underlying30 (by kernel_rfl) (by omega) (by omega)) ?_
      refine wk_e0 rfl (e_storer0 (us := [.string t]) (xs' := sv (q' ++ t :: y :: (r ++ l.drop (i + 1)))) rfl rfl rfl (by kernel_rfl) (by simp [Value.oneCell']) (by rw [sv_len]; simp; try omega) (sc_set q' _ y t rfl)) ?_
      rintro _ _ w6_17 rfl
      refine ⟨_, List.Perm.refl _, ?_⟩
      refine wk_end [(0, _), (1, _), (2, _), (6, _), (7, _)] ⟨rfl, rfl, rfl, rfl, rfl, trivial⟩ ?_
      refine w_reg ?_
      refine wl_f (f_move rfl) ?_
      refine wl_f (f_sub rfl rfl (by omega)) ?_
      refine wl_f (f_assign rfl) ?_
      refine wl_end [(0, _), (1, _), (2, _), (6, _), (7, _)] ⟨rfl, rfl, rfl, rfl, rfl, trivial⟩ ?_
      refine ⟨j - 1, by omega, q', y :: r, ?_, rfl, by omega, by rw [← hqr]; simp, ?_⟩
      · rw [show ((j - 1 : Nat) : Int) = (j : Int) - 1 by omega]
      · intro x hx
        rcases List.mem_cons.1 hx with rfl | hx
        · exact hty
        · exact hr x hx
    · skip
      have hall := hcf (by simpa using hc2)
      refine w_exit0 ?_
      refine w_reg ?_
      refine wl_f (f_move rfl) ?_
      refine wl_f (f_add rfl rfl (by omega)) ?_
      refine wl_f (f_assign rfl) ?_
      refine wl_end [(0, _), (1, _), (2, _), (6, _)] ⟨rfl, rfl, rfl, rfl, trivial⟩ ?_
      refine ⟨k - 1, by omega, i + 1, q ++ t :: r, rfl, by simp, ?_, by omega, by omega, ?_, ?_⟩
      · have := congrArg List.length hqr
        simp at this ⊢
        omega
      · rw [take_snoc l i t ht]
        refine List.Perm.trans ?_ ((hperm.append_right [t]))
        rw [← hqr, List.append_assoc]
        exact List.Perm.append_left q (List.perm_append_singleton t r).symm
      · rw [← hqr] at hwk
        exact wks_insert hwk hall hr
  · skip
    rw [List.take_of_length_le (by omega)] at hperm
    rw [List.drop_eq_nil_of_le (by omega), List.append_nil]
    refine w_exit0 ?_
    refine ⟨_, _, fun a ha hh => results_tmps (l := []) Try.results61 rfl a ha _, List.Sublist.refl _, ?_⟩
    exact ⟨p, rfl, hperm, hwk⟩
theorem insertion0_spec (v : Value) (w : World) : Spec Try.prog 61 [v, .int .i64 0, .int .i64 0] w Nil fun _ H => H = [] := by
  refine enter (n := 49) Try.func61 rfl rfl [(0, _), (1, _), (2, _)] rfl ⟨rfl, rfl, rfl, trivial⟩ (Holds.start _ _) ?_
  refine w_seq ?_
  refine w_reg ?_
  refine wl_f (f_move rfl) ?_
  refine wl_f (f_add rfl rfl (by omega)) ?_
  refine wl_f (f_assign rfl) ?_
  refine wl_end [(0, _), (1, _), (2, _), (6, _)] ⟨rfl, rfl, rfl, rfl, trivial⟩ ?_
  refine w_block ?_
  refine w_loop (fun k m H w => m = [(0, v), (1, .int .i64 0), (2, .int .i64 0), (6, .int .i64 1)] ∧ H = []) 0 ⟨rfl, rfl⟩ ?_
  rintro k _ _ w1 ⟨rfl, rfl⟩
  refine w_seq ?_
  refine w_seq ?_
  refine w_reg ?_
  refine wl_f (f_move rfl) ?_
  refine wl_f (f_move rfl) ?_
  refine wl_f (f_lss rfl rfl) ?_
  refine wl_end [(0, _), (1, _), (2, _), (6, _), (12, _)] ⟨rfl, rfl, rfl, rfl, rfl, trivial⟩ ?_
  refine w_ifd rfl (fun h => absurd h (by omega)) (fun _ => ?_)
  refine w_exit0 ?_
  refine ⟨_, _, fun a ha hh => results_tmps (l := []) Try.results61 rfl a ha _, List.Sublist.refl _, ?_⟩
  rfl
set_option maxHeartbeats 1000000 in
theorem pdq_spec (g cap : Nat) (l : List ByteArray) (lim : Int) (w : World) (h0 : 0 < l.length) (hn : l.length ≤ 12)
    (hs : Holds w (row (.slice (some ⟨g, 0, .none⟩) l.length cap) 9 1 l.length (sv l)).foot [row (.slice (some ⟨g, 0, .none⟩) l.length cap) 9 1 l.length (sv l)] w) :
    Spec Try.prog 58 [.slice (some ⟨g, 0, .none⟩) l.length cap, .int .i64 0, .int .i64 l.length, .int .i64 lim] w (row (.slice (some ⟨g, 0, .none⟩) l.length cap) 9 1 l.length (sv l)).foot
      fun _ H => ∃ l', H = [row (.slice (some ⟨g, 0, .none⟩) l.length cap) 9 1 l.length (sv l')] ∧ l'.Perm l ∧ Wks l' := by
  refine enter (n := 134) Try.func58 rfl rfl [(0, _), (1, _), (2, _), (3, _)] rfl ⟨rfl, rfl, rfl, rfl, trivial⟩ hs ?_
  refine w_seq ?_
  refine w_reg ?_
  refine wl_f (f_assign rfl) ?_
  refine wl_end [(0, _), (1, _), (2, _), (3, _), (8, _)] ⟨rfl, rfl, rfl, rfl, rfl, trivial⟩ ?_
  refine w_seq ?_
  refine w_reg ?_
  refine wl_f (f_assign rfl) ?_
  refine wl_end [(0, _), (1, _), (2, _), (3, _), (8, _), (9, _)] ⟨rfl, rfl, rfl, rfl, rfl, rfl, trivial⟩ ?_
  refine w_block ?_
  refine w_loop (fun k m H w => m = [(0, .slice (some ⟨g, 0, .none⟩) l.length cap), (1, .int .i64 0), (2, .int .i64 l.length), (3, .int .i64 lim), (8, .bool true), (9, .bool true)] ∧
    H = [row (.slice (some ⟨g, 0, .none⟩) l.length cap) 9 1 l.length (sv l)]) 0 ⟨rfl, rfl⟩ ?_
  rintro k _ _ w1 ⟨rfl, rfl⟩
  refine w_block ?_
  refine w_seq ?_
  refine w_reg ?_
  refine wl_f (f_move rfl) ?_
  refine wl_f (f_move rfl) ?_
  refine wl_f (f_sub rfl rfl (by omega)) ?_
  refine wl_f (f_assign rfl) ?_
  refine wl_end [(0, _), (1, _), (2, _), (3, _), (8, _), (9, _), (10, _)] ⟨rfl, rfl, rfl, rfl, rfl, rfl, rfl, trivial⟩ ?_
  refine w_seq ?_
  refine w_seq ?_
  refine w_reg ?_
  refine wl_f (f_move rfl) ?_
  refine wl_f (f_leq rfl rfl) ?_
  refine wl_end [(0, _), (1, _), (2, _), (3, _), (8, _), (9, _), (10, _), (23, _)] ⟨rfl, rfl, rfl, rfl, rfl, rfl, rfl, rfl, trivial⟩ ?_
  refine w_ifd rfl (fun _ => ?_) (fun h => absurd h (by omega))
  refine w_seq ?_
  refine w_reg ?_
  refine wl_f (f_move rfl) ?_
  refine wl_f (f_move rfl) ?_
  refine wl_f (f_move rfl) ?_
  refine wl_e (e_call1 (row (.slice (some ⟨g, 0, .none⟩) l.length cap) 9 1 l.length (sv l)) [] rfl Try.func61 (by kernel_rfl) (List.Perm.refl _) (fun w hh hs' => insertion_spec g cap l w h0 (by omega) hs')) ?_
  rintro _ _ w2 ⟨_, rfl, l', rfl, hp, hw⟩
  refine wl_end [] trivial ?_
  refine w_ret ?_
  refine ⟨_, _, fun a ha hh => results_tmps Try.results58 rfl a ha _, List.Sublist.refl _, ?_⟩
  exact ⟨l', rfl, hp, hw⟩
theorem pdq0_spec (v : Value) (lim : Int) (w : World) : Spec Try.prog 58 [v, .int .i64 0, .int .i64 0, .int .i64 lim] w Nil fun _ H => H = [] := by
  refine enter (n := 134) Try.func58 rfl rfl [(0, _), (1, _), (2, _), (3, _)] rfl ⟨rfl, rfl, rfl, rfl, trivial⟩ (Holds.start _ _) ?_
  refine w_seq ?_
  refine w_reg ?_
  refine wl_f (f_assign rfl) ?_
  refine wl_end [(0, _), (1, _), (2, _), (3, _), (8, _)] ⟨rfl, rfl, rfl, rfl, rfl, trivial⟩ ?_
  refine w_seq ?_
  refine w_reg ?_
  refine wl_f (f_assign rfl) ?_
  refine wl_end [(0, _), (1, _), (2, _), (3, _), (8, _), (9, _)] ⟨rfl, rfl, rfl, rfl, rfl, rfl, trivial⟩ ?_
  refine w_block ?_
  refine w_loop (fun k m H w => m = [(0, v), (1, .int .i64 0), (2, .int .i64 0), (3, .int .i64 lim), (8, .bool true), (9, .bool true)] ∧ H = []) 0 ⟨rfl, rfl⟩ ?_
  rintro k _ _ w1 ⟨rfl, rfl⟩
  refine w_block ?_
  refine w_seq ?_
  refine w_reg ?_
  refine wl_f (f_move rfl) ?_
  refine wl_f (f_move rfl) ?_
  refine wl_f (f_sub rfl rfl (by omega)) ?_
  refine wl_f (f_assign rfl) ?_
  refine wl_end [(0, _), (1, _), (2, _), (3, _), (8, _), (9, _), (10, _)] ⟨rfl, rfl, rfl, rfl, rfl, rfl, rfl, trivial⟩ ?_
  refine w_seq ?_
  refine w_seq ?_
  refine w_reg ?_
  refine wl_f (f_move rfl) ?_
  refine wl_f (f_leq rfl rfl) ?_
  refine wl_end [(0, _), (1, _), (2, _), (3, _), (8, _), (9, _), (10, _), (23, _)] ⟨rfl, rfl, rfl, rfl, rfl, rfl, rfl, rfl, trivial⟩ ?_
  refine w_ifd rfl (fun _ => ?_) (fun h => absurd h (by omega))
  refine w_seq ?_
  refine w_reg ?_
  refine wl_f (f_move rfl) ?_
  refine wl_f (f_move rfl) ?_
  refine wl_f (f_move rfl) ?_
  refine wl_e (e_call0 rfl Try.func61 (by kernel_rfl) (fun w hh => insertion0_spec v w)) ?_
  rintro _ _ w2 ⟨_, rfl, rfl⟩
  refine wl_end [] trivial ?_
  refine w_ret ?_
  refine ⟨_, _, fun a ha hh => results_tmps Try.results58 rfl a ha _, List.Sublist.refl _, ?_⟩
  rfl
theorem sort_spec (g cap : Nat) (l : List ByteArray) (w : World) (h0 : 0 < l.length) (hn : l.length ≤ 12)
    (hs : Holds w (row (.slice (some ⟨g, 0, .none⟩) l.length cap) 9 1 l.length (sv l)).foot [row (.slice (some ⟨g, 0, .none⟩) l.length cap) 9 1 l.length (sv l)] w) :
    Spec Try.prog 55 [.slice (some ⟨g, 0, .none⟩) l.length cap] w (row (.slice (some ⟨g, 0, .none⟩) l.length cap) 9 1 l.length (sv l)).foot
      fun _ H => ∃ l', H = [row (.slice (some ⟨g, 0, .none⟩) l.length cap) 9 1 l.length (sv l')] ∧ l'.Perm l ∧ Wks l' := by
  refine enter (n := 11) Try.func55 rfl rfl [(0, _)] rfl ⟨rfl, trivial⟩ hs ?_
  refine w_seq ?_
  refine w_reg ?_
  refine wl_f (f_move rfl) ?_
  refine wl_f (f_len rfl Try.underlying30) ?_
  refine wl_f (f_assign rfl) ?_
  refine wl_end [(0, _), (2, _)] ⟨rfl, rfl, trivial⟩ ?_
  refine w_reg ?_
  refine wl_f (f_move rfl) ?_
  refine wl_f (f_move rfl) ?_
  refine wl_f (f_move rfl) ?_
  refine wl_f (f_convu rfl Try.underlying3 Try.underlying53 (by omega)) ?_
  refine wl_e (e_call0 rfl Try.func59 (by kernel_rfl) (fun w hh => len_spec l.length w (by omega))) ?_
  rintro _ _ w1 ⟨_, rfl, lim, rfl, rfl⟩
  refine wl_e (e_call1 (row (.slice (some ⟨g, 0, .none⟩) l.length cap) 9 1 l.length (sv l)) [] rfl Try.func58 (by kernel_rfl) (List.Perm.refl _) (fun w hh hs' => pdq_spec g cap l lim w h0 hn hs')) ?_
  rintro _ _ w2 ⟨_, rfl, l', rfl, hp, hw⟩
  refine wl_end [] trivial ?_
  refine ⟨_, _, fun a ha hh => results_tmps (l := []) Try.results55 rfl a ha _, List.Sublist.refl _, ?_⟩
  exact ⟨l', rfl, hp, hw⟩
theorem sort0_spec (A : Option Addr) (cap : Nat) (w : World) : Spec Try.prog 55 [.slice A 0 cap] w Nil fun _ H => H = [] := by
  refine enter (n := 11) Try.func55 rfl rfl [(0, _)] rfl ⟨rfl, trivial⟩ (Holds.start _ _) ?_
  refine w_seq ?_
  refine w_reg ?_
  refine wl_f (f_move rfl) ?_
  refine wl_f (f_len rfl Try.underlying30) ?_
  refine wl_f (f_assign rfl) ?_
  refine wl_end [(0, _), (2, _)] ⟨rfl, rfl, trivial⟩ ?_
  refine w_reg ?_
  refine wl_f (f_move rfl) ?_
  refine wl_f (f_move rfl) ?_
  refine wl_f (f_move rfl) ?_
  refine wl_f (f_convu rfl Try.underlying3 Try.underlying53 (by omega)) ?_
  refine wl_e (e_call0 rfl Try.func59 (by kernel_rfl) (fun w hh => len_spec 0 w (by omega))) ?_
  rintro _ _ w1 ⟨_, rfl, lim, rfl, rfl⟩
  refine wl_e (e_call0 rfl Try.func58 (by kernel_rfl) (fun w hh => pdq0_spec _ lim w)) ?_
  rintro _ _ w2 ⟨_, rfl, rfl⟩
  refine wl_end [] trivial ?_
  refine ⟨_, _, fun a ha hh => results_tmps (l := []) Try.results55 rfl a ha _, List.Sublist.refl _, ?_⟩
  rfl

def okey {α : Type} (o : Option (ByteArray × α)) : ByteArray := match o with
  | none => ByteArray.empty
  | some x => x.1
def oval (o : Option (ByteArray × Int)) : Int := match o with
  | none => 0
  | some x => x.2
def ovalU (o : Option (ByteArray × Nat)) : Nat := match o with
  | none => 0
  | some x => x.2
theorem ents_take_none {α : Type} {cs : Cells α} {i : Nat} (h : cs[i]? = some none) : ents (cs.take (i + 1)) = ents (cs.take i) := by rw [List.take_add_one, h, ents_app]; simp [ents]
theorem ents_take_some {α : Type} {cs : Cells α} {i : Nat} {x : ByteArray × α} (h : cs[i]? = some (some x)) : ents (cs.take (i + 1)) = ents (cs.take i) ++ [x] := by rw [List.take_add_one, h, ents_app]; simp [ents]
theorem ents_take_len {α : Type} (cs : Cells α) (i : Nat) : (ents (cs.take i)).length ≤ (ents cs).length := by
  conv => rhs; rw [← List.take_append_drop i cs, ents_app, List.length_append]
  exact Nat.le_add_right _ _

set_option maxHeartbeats 2000000 in
theorem ukeys_spec (b n : Nat) (T : List Nat) (seed : Int) (M : List (ByteArray × Nat)) (r : Res) (w : World) (hn12 : n ≤ 12) (hr : TbR xU64 b n T seed M r) (hs : Holds w r.foot [r] w) :
    Spec Try.prog 52 [.pointer (some ⟨b, 0, .none⟩)] w r.foot fun u H => ∃ l, H = [row u 9 1 l.length (sv l), r] ∧ l.Perm (keys M) ∧ Srts l := by
  obtain ⟨N, cs, hC, hI, hM, hle, hsm⟩ := hr
  obtain ⟨hn1, hn2, hN, hT, hcl, tV, cV, rfl⟩ := id hC
  refine enter (n := 28) Try.func52 rfl rfl [(0, _)] rfl ⟨rfl, trivial⟩ hs ?_
  refine w_seq ?_
  refine w_reg ?_
  refine wl_f (f_assign rfl) ?_
  refine wl_end [(0, _)] ⟨rfl, trivial⟩ ?_
  refine w_seq ?_
  refine w_seq ?_
  refine w_reg ?_
  refine wl_f (f_move rfl) ?_
  refine wl_f (f_eqlnil rfl rfl Try.underlying61) ?_
  refine wl_end [(0, _), (7, _)] ⟨rfl, rfl, trivial⟩ ?_
  refine w_iff rfl ?_
  refine w_skip ?_
  refine w_seq ?_
  refine w_reg ?_
  refine wl_f (f_assign rfl) ?_
  refine wl_end [(0, _), (3, _)] ⟨rfl, rfl, trivial⟩ ?_
  refine w_seq ?_
  refine w_seq ?_
  refine w_with fun hh => ?_
  obtain ⟨g, cc, e2⟩ := rowB_form hh (i := 0) (j := 2) rfl rfl (by omega)
  subst e2
  clear hh
  refine w_reg ?_
  refine wl_f (f_move rfl) ?_
  refine wl_f (f_nilCheck rfl) ?_
  refine wl_f (f_fieldAddr 4 rfl Try.underlying86 rfl rfl (by kernel_rfl)) ?_
  refine wl_f (f_loadB 0 0 rfl rfl rfl Try.underlying84 rfl rfl) ?_
  refine wl_f (f_len rfl Try.underlying84) ?_
  refine wl_f (f_move rfl) ?_
  refine wl_end [(3, _), (11, _), (12, _), (13, _)] ⟨rfl, rfl, rfl, rfl, trivial⟩ ?_
  refine w_block ?_
  refine w_nilrow 9 1 ?_
  refine w_loop (fun k m H w => ∃ (v : Value) (i : Nat), m = [(3, v), (11, .slice (some ⟨g, 0, .none⟩) N cc), (12, .int .i64 N), (13, .int .i64 i)] ∧
    H = [row v 9 1 (keys (ents (cs.take i))).length (sv (keys (ents (cs.take i)))), bun (ims xU64 b n N (ents cs).length T seed tV (.slice (some ⟨g, 0, .none⟩) N cc) cs)] ∧ k + i = N) N ⟨_, 0, rfl, rfl, rfl⟩ ?_
  rintro k _ _ w5 ⟨v, i, rfl, rfl, hk⟩
  refine w_seq ?_
  refine w_reg ?_
  refine wl_f (f_lss rfl rfl) ?_
  refine wl_end [(3, _), (11, _), (12, _), (13, _), (14, _)] ⟨rfl, rfl, rfl, rfl, rfl, trivial⟩ ?_
  refine w_seq ?_
  refine w_ifd rfl (fun hc2 => ?_) (fun hc2 => ?_)
  · skip
    have hi : i < N := by
      have : (i : Int) < (N : Int) := hc2
      omega
    obtain ⟨o, ho⟩ : ∃ o, cs[i]? = some o := ⟨_, List.getElem?_eq_getElem (by omega)⟩
    have hkl : (keys (ents (cs.take i))).length ≤ 12 := by
      have := ents_take_len cs i
      rw [keys, List.length_map]; omega
    refine w_skip ?_
    refine w_seq ?_
    refine w_post (fun m H w => ∃ v' : Value, m = [(3, v'), (11, .slice (some ⟨g, 0, .none⟩) N cc), (12, .int .i64 N), (13, .int .i64 i)] ∧
      H = [row v' 9 1 (keys (ents (cs.take (i + 1)))).length (sv (keys (ents (cs.take (i + 1))))), bun (ims xU64 b n N (ents cs).length T seed tV (.slice (some ⟨g, 0, .none⟩) N cc) cs)]) ?_ ?_
    · skip
      refine w_block ?_
      refine w_seq ?_
      refine w_reg ?_
      refine wl_f (f_indexAddr 3 (i := i) rfl rfl Try.underlying84 (by kernel_rfl) rfl hi) ?_
      refine wl_f (f_loadsBr (cs := [.bool o.isSome, .string (okey o), .int .u64 (ovalU o : Nat)]) 1 2 rfl rfl rfl Try.underlying92 rfl (by kernel_rfl) (by have := icells_get xU64 ho; cases o <;> exact this)) ?_
      refine wl_e (e_allocs [.bool false, .string ByteArray.empty, .int .u64 0] (by kernel_rfl)) ?_
      rintro _ _ w6_2 ⟨b6_2, rfl, rfl⟩
      (first | refine wl_e0 (e_store0 (us := [_, _, _]) rfl rfl rfl (by kernel_rfl) (by simp [Value.oneCell']) rfl rfl) ?_ | refine wl_e0 (e_store1 (us := [_, _, _]) rfl rfl rfl (by kernel_rfl) (by simp [Value.oneCell']) rfl rfl) ?_ | refine wl_e0 (e_store2 (us := [_, _, _]) rfl rfl rfl (by kernel_rfl) (by simp [Value.oneCell']) rfl rfl) ?_ | refine wl_e0 (e_store3 (us := [_, _, _]) rfl rfl rfl (by kernel_rfl) (by simp [Value.oneCell']) rfl rfl) ?_)
      rintro _ _ w6_3 rfl
      refine wl_end [(3, _), (5, _), (11, _), (12, _), (13, _)] ⟨rfl, rfl, rfl, rfl, rfl, trivial⟩ ?_
      refine w_seq ?_
      refine w_reg ?_
      refine wl_f (f_fieldAddr 0 rfl Try.underlying92 rfl rfl (by kernel_rfl)) ?_
      (first | refine wl_f (f_loadb 0 rfl Try.underlying4 rfl rfl rfl) ?_ | refine wl_f (f_loadb 1 rfl Try.underlying4 rfl rfl rfl) ?_ | refine wl_f (f_loadb 2 rfl Try.underlying4 rfl rfl rfl) ?_ | refine wl_f (f_loadb 3 rfl Try.underlying4 rfl rfl rfl) ?_ | refine wl_f (f_loadb 4 rfl Try.underlying4 rfl rfl rfl) ?_ | refine wl_f (f_loadb 5 rfl Try.underlying4 rfl rfl rfl) ?_ | refine wl_f (f_loadb 6 rfl Try.underlying4 rfl rfl rfl) ?_)
      refine wl_end [(3, _), (5, _), (11, _), (12, _), (13, _), (18, _)] ⟨rfl, rfl, rfl, rfl, rfl, rfl, trivial⟩ ?_
      refine w_ifb rfl (fun hc3 => ?_) (fun hc3 => ?_)
      · skip
        obtain ⟨x, rfl⟩ : ∃ x, o = some x := Option.isSome_iff_exists.1 hc3
        have hks : keys (ents (cs.take (i + 1))) = keys (ents (cs.take i)) ++ [x.1] := by rw [ents_take_some ho]; simp [keys]
        refine w_reg ?_
        refine wl_f (f_move rfl) ?_
        refine wl_f (f_fieldAddr 1 rfl Try.underlying92 rfl rfl (by kernel_rfl)) ?_
        (first | refine wl_f (f_loadb 0 rfl Try.underlying9 rfl rfl rfl) ?_ | refine wl_f (f_loadb 1 rfl Try.underlying9 rfl rfl rfl) ?_ | refine wl_f (f_loadb 2 rfl Try.underlying9 rfl rfl rfl) ?_ | refine wl_f (f_loadb 3 rfl Try.underlying9 rfl rfl rfl) ?_ | refine wl_f (f_loadb 4 rfl Try.underlying9 rfl rfl rfl) ?_ | refine wl_f (f_loadb 5 rfl Try.underlying9 rfl rfl rfl) ?_ | refine wl_f (f_loadb 6 rfl Try.underlying9 rfl rfl rfl) ?_)
        refine wl_e (e_lit1 (cs := [_]) t30 rfl rfl rfl (by omega)) ?_
        rintro _ _ w8_3 ⟨b8_3, rfl, rfl⟩
        refine wl_e (e_appN 2 t30 rfl rfl rfl (fun w hh => Rd.held0 hh (i := 0) rfl) (by simp [Value.oneCell']) (by omega) (by omega)) ?_
        rintro v2 _ w8 ⟨_, rfl⟩
        refine wl_f (f_assign rfl) ?_
        refine wl_pick [2, 2] rfl ?_
        refine wl_end [(3, _), (11, _), (12, _), (13, _)] ⟨rfl, rfl, rfl, rfl, trivial⟩ ?_
        exact ⟨v2, rfl, by rw [hks, List.length_append, sv_app]; rfl⟩
      · skip
        obtain rfl : o = none := by
          cases o with
          | none => rfl
          | some x => exact absurd rfl hc3
        refine w_rm0 ?_
        refine w_sub [(3, _), (11, _), (12, _), (13, _)] ⟨rfl, rfl, rfl, rfl, trivial⟩ (w_skip ?_)
        exact ⟨v, rfl, by rw [ents_take_none ho]⟩
    · rintro _ _ w9 ⟨v', rfl, rfl⟩
      refine w_reg ?_
      refine wl_f (f_add rfl rfl (by omega)) ?_
      refine wl_f (f_move rfl) ?_
      refine wl_end [(3, _), (11, _), (12, _), (13, _)] ⟨rfl, rfl, rfl, rfl, trivial⟩ ?_
      exact ⟨k - 1, by omega, v', i + 1, rfl, rfl, by omega⟩
  · skip
    have hi : i = N := by
      have : ¬ (i : Int) < (N : Int) := hc2
      omega
    subst hi
    rw [List.take_of_length_le (by omega)]
    have hkl : (keys (ents cs)).length ≤ 12 := by rw [keys, List.length_map]; omega
    have hknd : (keys (ents cs)).Nodup := hI.nd
    have hkp : (keys (ents cs)).Perm (keys M) := keys_perm hM
    generalize hL : keys (ents cs) = L at hkl hknd hkp
    refine w_exit0 ?_
    refine w_seq ?_
    refine w_post (fun m H w => ∃ l, m = [(3, v)] ∧ H = [row v 9 1 l.length (sv l), bun (ims xU64 b n i (ents cs).length T seed tV (.slice (some ⟨g, 0, .none⟩) i cc) cs)] ∧ l.Perm L ∧ Wks l) ?_ ?_
    · by_cases h0 : 0 < L.length
      · refine w_with fun hh => ?_
        obtain ⟨g2, cp2, e2⟩ := row_form hh (i := 0) rfl h0
        subst e2
        clear hh
        refine w_reg ?_
        refine wl_f (f_move rfl) ?_
        refine wl_e (e_call1 (row (.slice (some ⟨g2, 0, .none⟩) L.length cp2) 9 1 L.length (sv L)) [_] rfl Try.func55 (by kernel_rfl) (List.Perm.refl _) (fun w hh hs' => sort_spec g2 cp2 L w h0 hkl hs')) ?_
        rintro _ _ w10 ⟨_, rfl, l', rfl, hp, hw⟩
        refine wl_end [(3, _)] ⟨rfl, trivial⟩ ?_
        exact ⟨l', rfl, by rw [hp.length_eq]; rfl, hp, hw⟩
      · obtain rfl : L = [] := List.length_eq_zero_iff.1 (by omega)
        refine w_with fun hh => ?_
        obtain ⟨A2, cp2, e2⟩ := row_slice hh (i := 0) rfl
        subst e2
        clear hh
        refine w_reg ?_
        refine wl_f (f_move rfl) ?_
        refine wl_e (e_call0 rfl Try.func55 (by kernel_rfl) (fun w hh => sort0_spec A2 cp2 w)) ?_
        rintro _ _ w10 ⟨_, rfl, rfl⟩
        refine wl_end [(3, _)] ⟨rfl, trivial⟩ ?_
        exact ⟨[], rfl, rfl, List.Perm.refl _, List.Pairwise.nil⟩
    rintro _ _ w11 ⟨l, rfl, rfl, hpl, hwl⟩
    refine w_seq ?_
    refine w_reg ?_
    refine wl_f (f_move rfl) ?_
    refine wl_f (f_assign rfl) ?_
    refine wl_end [(2, _)] ⟨rfl, trivial⟩ ?_
    refine w_ret ?_
    refine ⟨_, _, fun a ha hh => results_tmps Try.results52 rfl a ha _, List.Sublist.refl _, ?_⟩
    exact ⟨l, rfl, hpl.trans hkp, wks_srts hwl (hpl.nodup_iff.2 hknd)⟩

end Go.Proofs.Ytkoklfagmbaapaa
