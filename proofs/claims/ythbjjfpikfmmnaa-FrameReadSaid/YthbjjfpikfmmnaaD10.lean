/- The walks of the sort of the library, for at most twelve tags: an insertion sort. -/
import Derived.Test.YthbjjfpikfmmnaaD9
import Derived.Test.YthbjjfpikfmmnaaK5
import Derived.Lib.Bytealg
namespace Go.Proofs.Ythbjjfpikfmmnaa
open Go.RowKit

def cmpv (a b : ByteArray) : Int := Lib.compareBytes a.data.toList b.data.toList
theorem cmpv_lt (a b : ByteArray) : decide (cmpv a b < 0) = nlt a b := cmp_less _ _

theorem compareString_spec (a b : ByteArray) (w : World) : Spec Try.prog 57 [.string a, .string b] w Nil fun r H => r = .int .i64 (cmpv a b) ∧ H = [] := by
  refine enter (n := 8) Try.func57 rfl rfl [(0, _), (1, _)] rfl ⟨rfl, rfl, trivial⟩ (Holds.start _ _) ?_
  refine w_seq ?_
  refine w_reg ?_
  refine wl_f (f_assign rfl) ?_
  refine wl_end [(0, _), (1, _)] ⟨rfl, rfl, trivial⟩ ?_
  refine w_seq ?_
  refine w_reg ?_
  refine wl_f (f_move rfl) ?_
  refine wl_f (f_move rfl) ?_
  refine wl_f (f_extern rfl Try.func69 (by kernel_rfl) rfl (by kernel_rfl) (by kernel_rfl) (fun w => Lib.run_compareString a b w)) ?_
  skip
  refine wl_f (f_assign rfl) ?_
  refine wl_end [(4, _)] ⟨rfl, trivial⟩ ?_
  refine w_ret ?_
  refine ⟨_, _, fun a ha hh => results_tmps Try.results57 rfl a ha _, List.Sublist.refl _, ?_⟩
  exact ⟨rfl, rfl⟩
theorem compare_spec (a b : ByteArray) (w : World) : Spec Try.prog 52 [.string a, .string b] w Nil fun r H => r = .int .i64 (cmpv a b) ∧ H = [] := by
  refine enter (n := 8) Try.func52 rfl rfl [(0, _), (1, _)] rfl ⟨rfl, rfl, trivial⟩ (Holds.start _ _) ?_
  refine w_seq ?_
  refine w_reg ?_
  refine wl_f (f_assign rfl) ?_
  refine wl_end [(0, _), (1, _)] ⟨rfl, rfl, trivial⟩ ?_
  refine w_seq ?_
  refine w_reg ?_
  refine wl_f (f_move rfl) ?_
  refine wl_f (f_move rfl) ?_
  refine wl_e (e_call0 rfl Try.func57 (by kernel_rfl) (fun w hh => compareString_spec a b w)) ?_
  rintro _ _ w1 ⟨_, rfl, rfl, rfl⟩
  refine wl_f (f_assign rfl) ?_
  refine wl_end [(4, _)] ⟨rfl, trivial⟩ ?_
  refine w_ret ?_
  refine ⟨_, _, fun a ha hh => results_tmps Try.results52 rfl a ha _, List.Sublist.refl _, ?_⟩
  exact ⟨rfl, rfl⟩
theorem less_spec (a b : Tg) (w : World) : Spec Try.prog 51 [.agg #[.string a.1, .string a.2], .agg #[.string b.1, .string b.2]] w Nil fun r H => r = .int .i64 (cmpv a.1 b.1) ∧ H = [] := by
  refine enter (n := 10) Try.func51 rfl rfl [(0, _), (1, _)] rfl ⟨rfl, rfl, trivial⟩ (Holds.start _ _) ?_
  refine w_seq ?_
  refine w_reg ?_
  refine wl_e (e_box (cs := [_, _]) rfl rfl) ?_
  rintro _ _ w0_0 ⟨b0_0, rfl, rfl⟩
  refine wl_e (e_box (cs := [_, _]) rfl rfl) ?_
  rintro _ _ w0_1 ⟨b0_1, rfl, rfl⟩
  refine wl_f (f_assign rfl) ?_
  refine wl_end [(2, _), (3, _)] ⟨rfl, rfl, trivial⟩ ?_
  refine w_seq ?_
  refine w_reg ?_
  refine wl_f (f_fieldAddr 0 rfl Try.underlying52 rfl rfl (by kernel_rfl)) ?_
  (first | refine wl_f (f_loadb 0 rfl Try.underlying9 rfl rfl rfl) ?_ | refine wl_f (f_loadb 1 rfl Try.underlying9 rfl rfl rfl) ?_ | refine wl_f (f_loadb 2 rfl Try.underlying9 rfl rfl rfl) ?_ | refine wl_f (f_loadb 3 rfl Try.underlying9 rfl rfl rfl) ?_ | refine wl_f (f_loadb 4 rfl Try.underlying9 rfl rfl rfl) ?_ | refine wl_f (f_loadb 5 rfl Try.underlying9 rfl rfl rfl) ?_ | refine wl_f (f_loadb 6 rfl Try.underlying9 rfl rfl rfl) ?_)
  refine wl_f (f_fieldAddr 0 rfl Try.underlying52 rfl rfl (by kernel_rfl)) ?_
  (first | refine wl_f (f_loadb 0 rfl Try.underlying9 rfl rfl rfl) ?_ | refine wl_f (f_loadb 1 rfl Try.underlying9 rfl rfl rfl) ?_ | refine wl_f (f_loadb 2 rfl Try.underlying9 rfl rfl rfl) ?_ | refine wl_f (f_loadb 3 rfl Try.underlying9 rfl rfl rfl) ?_ | refine wl_f (f_loadb 4 rfl Try.underlying9 rfl rfl rfl) ?_ | refine wl_f (f_loadb 5 rfl Try.underlying9 rfl rfl rfl) ?_ | refine wl_f (f_loadb 6 rfl Try.underlying9 rfl rfl rfl) ?_)
  refine wl_e (e_call0 rfl Try.func52 (by kernel_rfl) (fun w hh => compare_spec a.1 b.1 w)) ?_
  rintro _ _ w1 ⟨_, rfl, rfl, rfl⟩
  refine wl_f (f_assign rfl) ?_
  refine wl_end [(4, _)] ⟨rfl, trivial⟩ ?_
  refine w_drop [] (List.nil_sublist _) ?_
  refine w_ret ?_
  refine ⟨_, _, fun a ha hh => results_tmps Try.results51 rfl a ha _, List.Sublist.refl _, ?_⟩
  exact ⟨rfl, rfl⟩
theorem clone_spec (v : Value) (l : List Tg) (w : World) (hr : Rd w Nil 2 v l.length (tcells l)) (hn : l.length ≤ 1000000) (h0 : 0 < l.length) :
    Spec Try.prog 49 [v] w Nil fun r H => H = [row r 52 2 l.length (tcells l)] := by
  obtain ⟨A, c, rfl, hlen, hcap, hA⟩ := id hr
  obtain ⟨b, off, rfl, hb, hlt, hcell⟩ := hA.resolve_left (by omega)
  refine enter (n := 8) Try.func49 rfl rfl [(0, _)] rfl ⟨rfl, trivial⟩ (Holds.start _ _) ?_
  refine w_seq ?_
  refine w_reg ?_
  refine wl_f (f_assign rfl) ?_
  refine wl_end [(0, _)] ⟨rfl, trivial⟩ ?_
  refine w_seq ?_
  refine w_seq ?_
  refine w_reg ?_
  refine wl_f (f_move rfl) ?_
  refine wl_f (f_eqlslnil rfl rfl Try.underlying37) ?_
  refine wl_end [(0, _), (4, _)] ⟨rfl, rfl, trivial⟩ ?_
  refine w_iff rfl ?_
  refine w_skip ?_
  refine w_seq ?_
  refine w_reg ?_
  refine wl_e (e_lit0 t37) ?_
  rintro _ _ w3_0 ⟨b3_0, rfl, rfl⟩
  refine wl_f (f_move rfl) ?_
  refine wl_e (e_app0 t37 rfl rfl (fun w hh => hr.old0 hh) (tcells_one l) (by omega) (by omega)) ?_
  rintro v3_2 _ w3_2 rfl
  refine wl_f (f_assign rfl) ?_
  refine wl_end [(2, _)] ⟨rfl, trivial⟩ ?_
  refine w_ret ?_
  refine ⟨_, _, fun a ha hh => results_tmps Try.results49 rfl a ha _, List.Sublist.refl _, ?_⟩
  simp [tup]
set_option maxRecDepth 100000 in
theorem len64_spec (k : Nat) (w : World) (hk : k < 256) : Spec Try.prog 68 [.int .u64 k] w Nil fun r H => ∃ n : Int, r = .int .i64 n ∧ H = [] := by
  refine enter (n := 25) Try.func68 rfl rfl [(0, _)] rfl ⟨rfl, trivial⟩ (Holds.start _ _) ?_
  refine w_seq ?_
  refine w_reg ?_
  refine wl_f (f_assign rfl) ?_
  refine wl_end [(0, _), (2, _)] ⟨rfl, rfl, trivial⟩ ?_
  refine w_seq ?_
  refine w_seq ?_
  refine w_reg ?_
  refine wl_f (f_move rfl) ?_
  refine wl_f (f_geq rfl rfl) ?_
  refine wl_end [(0, _), (2, _), (4, _)] ⟨rfl, rfl, rfl, trivial⟩ ?_
  refine w_ifd rfl (fun h => absurd h (by omega)) (fun _ => ?_)
  refine w_skip ?_
  refine w_seq ?_
  refine w_seq ?_
  refine w_reg ?_
  refine wl_f (f_move rfl) ?_
  refine wl_f (f_geq rfl rfl) ?_
  refine wl_end [(0, _), (2, _), (8, _)] ⟨rfl, rfl, rfl, trivial⟩ ?_
  refine w_ifd rfl (fun h => absurd h (by omega)) (fun _ => ?_)
  refine w_skip ?_
  refine w_seq ?_
  refine w_seq ?_
  refine w_reg ?_
  refine wl_f (f_move rfl) ?_
  refine wl_f (f_geq rfl rfl) ?_
  refine wl_end [(0, _), (2, _), (14, _)] ⟨rfl, rfl, rfl, trivial⟩ ?_
  refine w_ifd rfl (fun h => absurd h (by omega)) (fun _ => ?_)
  refine w_skip ?_
  refine w_seq ?_
  refine w_reg ?_
  refine wl_f (f_move rfl) ?_
  refine wl_f (f_move rfl) ?_
  refine wl_f (f_convb rfl Try.underlying38 Try.underlying5 (by omega)) ?_
  refine wl_f (f_indexs rfl rfl Try.underlying9 rfl (Array.getElem?_eq_getElem (show k < 256 from hk))) ?_
  generalize hb : UInt8.toNat _ = b
  have hb' : b < 256 := hb ▸ UInt8.toNat_lt _
  clear hb
  refine wl_f (f_convi rfl Try.underlying5 Try.underlying3 (by omega)) ?_
  refine wl_f (f_addw rfl rfl) ?_
  refine wl_f (f_assign rfl) ?_
  refine wl_end [(2, _)] ⟨rfl, trivial⟩ ?_
  refine w_ret ?_
  refine ⟨_, _, fun a ha hh => results_tmps Try.results68 rfl a ha _, List.Sublist.refl _, ?_⟩
  exact ⟨_, rfl, rfl⟩
theorem len_spec (k : Nat) (w : World) (hk : k < 256) : Spec Try.prog 56 [.int .u64 k] w Nil fun r H => ∃ n : Int, r = .int .i64 n ∧ H = [] := by
  refine enter (n := 8) Try.func56 rfl rfl [(0, _)] rfl ⟨rfl, trivial⟩ (Holds.start _ _) ?_
  refine w_seq ?_
  refine w_reg ?_
  refine wl_f (f_assign rfl) ?_
  refine wl_end [(0, _)] ⟨rfl, trivial⟩ ?_
  refine w_seq ?_
  refine w_iff rfl ?_
  refine w_skip ?_
  refine w_seq ?_
  refine w_reg ?_
  refine wl_f (f_move rfl) ?_
  refine wl_e (e_call0 rfl Try.func68 (by kernel_rfl) (fun w hh => len64_spec k w hk)) ?_
  rintro _ _ w1 ⟨_, rfl, n, rfl, rfl⟩
  refine wl_f (f_assign rfl) ?_
  refine wl_end [(2, _)] ⟨rfl, trivial⟩ ?_
  refine w_ret ?_
  refine ⟨_, _, fun a ha hh => results_tmps Try.results56 rfl a ha _, List.Sublist.refl _, ?_⟩
  exact ⟨_, rfl, rfl⟩

/-! ### The insertion sort -/
def cmpf : Value := .func (.func 51) #[] #[]
theorem tcells_cons (x : Tg) (b : List Tg) : tcells (x :: b) = .string x.1 :: .string x.2 :: tcells b := rfl
theorem tc_take (a b : List Tg) (x : Tg) {i : Nat} (h : a.length = i) : (tcells (a ++ x :: b)).take (0 + i * 2) = tcells a := by
  rw [tcells_app, List.take_left' (by rw [tcells_len]; omega)]
theorem tc_drop (a b : List Tg) (x : Tg) {i : Nat} (h : a.length = i) : (tcells (a ++ x :: b)).drop (0 + i * 2 + 2) = tcells b := by
  rw [tcells_app, ← List.drop_drop, List.drop_left' (by rw [tcells_len]; omega)]
  rfl
theorem tc_get (a b : List Tg) (x : Tg) {i : Nat} (h : a.length = i) : ((tcells (a ++ x :: b)).drop (0 + i * 2)).take 2 = [.string x.1, .string x.2] := by
  rw [tcells_app, List.drop_left' (by rw [tcells_len]; omega)]
  rfl
theorem tc_set (a b : List Tg) (x y : Tg) {i : Nat} (h : a.length = i) : (tcells (a ++ x :: b)).take (0 + i * 2) ++ [.string y.1, .string y.2] ++ (tcells (a ++ x :: b)).drop (0 + i * 2 + 2) = tcells (a ++ y :: b) := by
  rw [tc_take a b x h, tc_drop a b x h, tcells_app, tcells_cons]
  simp
theorem wk_insert {q r : List Tg} {t : Tg} (h : Wk (q ++ r)) (hq : ∀ y ∈ q, nlt t.1 y.1 = false) (hr : ∀ y ∈ r, nlt t.1 y.1 = true) : Wk (q ++ t :: r) := by
  unfold Wk at *
  rw [List.pairwise_append] at h ⊢
  refine ⟨h.1, List.pairwise_cons.2 ⟨fun y hy => nlt_asymm (hr y hy), h.2.1⟩, fun a ha b hb => ?_⟩
  rcases List.mem_cons.1 hb with rfl | hb
  · exact hq a ha
  · exact h.2.2 a ha b hb

set_option maxHeartbeats 1000000 in
theorem insertion_spec (g cap : Nat) (l : List Tg) (w : World) (h0 : 0 < l.length) (hn : l.length ≤ 1000000)
    (hs : Holds w (row (.slice (some ⟨g, 0, .none⟩) l.length cap) 52 2 l.length (tcells l)).foot [row (.slice (some ⟨g, 0, .none⟩) l.length cap) 52 2 l.length (tcells l)] w) :
    Spec Try.prog 59 [.slice (some ⟨g, 0, .none⟩) l.length cap, .int .i64 0, .int .i64 l.length, cmpf] w (row (.slice (some ⟨g, 0, .none⟩) l.length cap) 52 2 l.length (tcells l)).foot
      fun _ H => ∃ l', H = [row (.slice (some ⟨g, 0, .none⟩) l.length cap) 52 2 l.length (tcells l')] ∧ l'.Perm l ∧ Wk l' := by
  refine enter (n := 53) Try.func59 rfl rfl [(0, _), (1, _), (2, _), (3, _)] rfl ⟨rfl, rfl, rfl, rfl, trivial⟩ hs ?_
  refine w_seq ?_
  refine w_reg ?_
  refine wl_f (f_move rfl) ?_
  refine wl_f (f_add rfl rfl (by omega)) ?_
  refine wl_f (f_assign rfl) ?_
  refine wl_end [(0, _), (1, _), (2, _), (3, _), (8, _)] ⟨rfl, rfl, rfl, rfl, rfl, trivial⟩ ?_
  refine w_block ?_
  refine w_loop (fun k m H w => ∃ (i : Nat) (p : List Tg), m = [(0, .slice (some ⟨g, 0, .none⟩) l.length cap), (1, .int .i64 0), (2, .int .i64 l.length), (3, cmpf), (8, .int .i64 i)] ∧
    H = [row (.slice (some ⟨g, 0, .none⟩) l.length cap) 52 2 l.length (tcells (p ++ l.drop i))] ∧ p.length = i ∧ 1 ≤ i ∧ k + i = l.length ∧ p.Perm (l.take i) ∧ Wk p) (l.length - 1)
    ⟨1, l.take 1, rfl, by rw [List.take_append_drop], by rw [List.length_take]; omega, by omega, by omega, List.Perm.refl _, by
      obtain ⟨x, l', rfl⟩ := List.exists_cons_of_length_pos h0
      exact List.pairwise_singleton _ _⟩ ?_
  rintro k _ _ w1 ⟨i, p, rfl, rfl, hpl, hi1, hk, hperm, hwk⟩
  refine w_seq ?_
  refine w_seq ?_
  refine w_reg ?_
  refine wl_f (f_move rfl) ?_
  refine wl_f (f_move rfl) ?_
  refine wl_f (f_lss rfl rfl) ?_
  refine wl_end [(0, _), (1, _), (2, _), (3, _), (8, _), (14, _)] ⟨rfl, rfl, rfl, rfl, rfl, rfl, trivial⟩ ?_
  refine w_ifd rfl (fun hc1 => ?_) (fun hc1 => ?_)
  · skip
    obtain ⟨t, ht⟩ : ∃ t, l[i]? = some t := ⟨l[i]'(by omega), List.getElem?_eq_getElem (by omega)⟩
    have hdrop : l.drop i = t :: l.drop (i + 1) := by
      obtain ⟨hlt, he⟩ := List.getElem?_eq_some_iff.1 ht
      rw [← he, List.drop_eq_getElem_cons hlt]
    refine w_skip ?_
    refine w_seq ?_
    refine w_block ?_
    refine w_seq ?_
    refine w_reg ?_
    refine wl_f (f_move rfl) ?_
    refine wl_f (f_assign rfl) ?_
    refine wl_end [(0, _), (1, _), (2, _), (3, _), (8, _), (9, _)] ⟨rfl, rfl, rfl, rfl, rfl, rfl, trivial⟩ ?_
    refine w_block ?_
    refine w_loop (fun j m H w => ∃ (q r : List Tg), m = [(0, .slice (some ⟨g, 0, .none⟩) l.length cap), (1, .int .i64 0), (2, .int .i64 l.length), (3, cmpf), (8, .int .i64 i), (9, .int .i64 j)] ∧
      H = [row (.slice (some ⟨g, 0, .none⟩) l.length cap) 52 2 l.length (tcells (q ++ t :: (r ++ l.drop (i + 1))))] ∧ q.length = j ∧ q ++ r = p ∧ ∀ x ∈ r, nlt t.1 x.1 = true) i
      ⟨p, [], rfl, by rw [hdrop]; simp, hpl, by simp, by simp⟩ ?_
    rintro j _ _ w2 ⟨q, r, rfl, rfl, hq, hqr, hr⟩
    refine w_seq ?_
    refine w_seq ?_
    refine w_post (fun m H w' => ∃ c : Bool, m = [(0, .slice (some ⟨g, 0, .none⟩) l.length cap), (1, .int .i64 0), (2, .int .i64 l.length), (3, cmpf), (8, .int .i64 i), (9, .int .i64 j), (34, .bool c)] ∧
      H = [row (.slice (some ⟨g, 0, .none⟩) l.length cap) 52 2 l.length (tcells (q ++ t :: (r ++ l.drop (i + 1))))] ∧ (c = true → ∃ q' y, q = q' ++ [y] ∧ nlt t.1 y.1 = true) ∧ (c = false → ∀ y ∈ q, nlt t.1 y.1 = false)) ?_ ?_
    · by_cases hG4 : (0 : Int) < (j : Int)
      · skip
        obtain ⟨q', y, rfl⟩ : ∃ q' y, q = q' ++ [y] := ⟨q.dropLast, q.getLast (by rintro rfl; simp at hq; omega), (List.dropLast_concat_getLast _).symm⟩
        have hq' : q'.length + 1 = j := by simpa using hq
        have hlen : j < l.length := by
          have := congrArg List.length hqr
          simp at this
          omega
        refine w_draw [(0, true), (1, true), (2, true), (3, true), (4, true), (5, true), (6, true), (7, true), (8, true), (9, true), (10, true), (11, true), (12, true), (13, true), (14, false), (15, true), (16, true)] (_) ([]) mixed (by kernel_rfl) (by kernel_rfl) rfl (perm_all _) (fun w4_ => ?_)
        refine wd_f rfl (f_move rfl) ?_
        refine wd_f rfl (f_move rfl) ?_
        refine wd_f rfl (f_eqv (f_gtr rfl rfl) (congrArg Value.bool (decide_eq_true hG4))) ?_
        refine wd_f rfl (f_move rfl) ?_
        refine wd_gf rfl rfl rfl (f_move rfl) ?_
        refine wd_gf rfl rfl rfl (f_move rfl) ?_
        refine wd_gf rfl rfl rfl (f_move rfl) ?_
        refine wd_gf rfl rfl rfl (f_indexAddr 2 (i := j) rfl rfl Try.underlying37 (by kernel_rfl) rfl hlen) ?_
        refine wd_gf rfl rfl rfl (f_loadsr (cs := [.string t.1, .string t.2]) 0 rfl Try.underlying52 rfl (by kernel_rfl) rfl (tc_get _ _ _ hq)) ?_
        refine wd_gf rfl rfl rfl (f_move rfl) ?_
        refine wd_gf rfl rfl rfl (f_move rfl) ?_
        refine wd_gf rfl rfl rfl (f_sub rfl rfl (by omega)) ?_
        refine wd_gf rfl rfl rfl (f_indexAddr 2 (i := q'.length) rfl rfl Try.underlying37 (by kernel_rfl) (by omega) (by omega)) ?_
        refine wd_gf rfl rfl rfl (f_loadsr (cs := [.string y.1, .string y.2]) 0 rfl Try.underlying52 rfl (by kernel_rfl) rfl (by rw [List.append_assoc, List.singleton_append]; exact tc_get q' _ y rfl)) ?_
        refine wd_ge rfl rfl rfl (e_callv [] _ rfl rfl Try.func51 (by kernel_rfl) (List.Perm.refl _) (fun w hh _ => by rw [feet_nil]; exact less_spec t y w)) ?_
        rintro _ _ w4 ⟨_, rfl, rfl, rfl⟩
        refine ⟨_, List.Perm.refl _, ?_⟩
        refine wd_gf rfl rfl rfl (f_lss rfl rfl) ?_
        refine wd_f rfl (f_pick rfl rfl rfl) ?_
        refine wd_end [(0, _), (1, _), (2, _), (3, _), (8, _), (9, _), (34, _)] ⟨rfl, rfl, rfl, rfl, rfl, rfl, rfl, trivial⟩ ?_
        rw [cmpv_lt]
        refine ⟨nlt t.1 y.1, rfl, rfl, fun h => ⟨q', y, rfl, h⟩, fun h z hz => ?_⟩
        rcases List.mem_append.1 hz with hz | hz
        · rw [← hqr] at hwk
          have := (List.pairwise_append.1 (List.pairwise_append.1 hwk).1).2.2 z hz y (List.mem_singleton.2 rfl)
          exact nle_trans this h
        · rw [List.mem_singleton] at hz; subst hz; exact h
      · skip
        refine w_draw [(0, true), (1, true), (2, true), (3, true), (4, true), (5, true), (6, true), (7, true), (8, true), (9, true), (10, true), (11, true), (12, true), (13, true), (14, false), (15, true), (16, true)] (_) ([]) mixed (by kernel_rfl) (by kernel_rfl) rfl (perm_all _) (fun w4_ => ?_)
        refine wd_f rfl (f_move rfl) ?_
        refine wd_f rfl (f_move rfl) ?_
        refine wd_f rfl (f_eqv (f_gtr rfl rfl) (congrArg Value.bool (decide_eq_false hG4))) ?_
        refine wd_f rfl (f_move rfl) ?_
        refine wd_gs rfl rfl rfl ?_
        refine wd_gs rfl rfl rfl ?_
        refine wd_gs rfl rfl rfl ?_
        refine wd_gs rfl rfl rfl ?_
        refine wd_gs rfl rfl rfl ?_
        refine wd_gs rfl rfl rfl ?_
        refine wd_gs rfl rfl rfl ?_
        refine wd_gs rfl rfl rfl ?_
        refine wd_gs rfl rfl rfl ?_
        refine wd_gs rfl rfl rfl ?_
        refine wd_ges rfl rfl rfl ?_
        refine wd_gs rfl rfl rfl ?_
        refine wd_f rfl (f_pick rfl rfl rfl) ?_
        refine wd_end [(0, _), (1, _), (2, _), (3, _), (8, _), (9, _), (34, _)] ⟨rfl, rfl, rfl, rfl, rfl, rfl, rfl, trivial⟩ ?_
        refine ⟨false, rfl, rfl, fun h => (by cases h), fun _ y hy => ?_⟩
        have : q = [] := List.eq_nil_of_length_eq_zero (by omega)
        subst this; cases hy
    rintro _ _ w5 ⟨c, rfl, rfl, hct, hcf⟩
    refine w_ifb rfl (fun hc2 => ?_) (fun hc2 => ?_)
    · skip
      obtain ⟨q', y, rfl, hty⟩ := hct hc2
      have hq' : q'.length + 1 = j := by simpa using hq
      have hlen : j < l.length := by
        have := congrArg List.length hqr
        simp at this
        omega
      rw [List.append_assoc, List.singleton_append]
      refine w_skip ?_
      refine w_seq ?_
      refine w_block ?_
      refine w_drawk [(0, true), (1, true), (2, true), (3, true), (4, true), (5, true), (6, true), (7, true), (8, true), (9, true), (10, true), (11, true), (12, true), (13, true), (14, true), (15, false), (16, true), (17, false)] ([(_, some 15)]) ([]) mixed (by kernel_rfl) (by kernel_rfl) rfl rfl (List.Perm.refl _) (fun w6_ => ?_)
      refine wk_f rfl (f_move rfl) ?_
      refine wk_f rfl (f_move rfl) ?_
      refine wk_f rfl (f_move rfl) ?_
      refine wk_f rfl (f_move rfl) ?_
      refine wk_f rfl (f_sub rfl rfl (by omega)) ?_
      refine wk_f rfl (f_move rfl) ?_
      refine wk_f rfl (f_move rfl) ?_
      refine wk_f rfl (f_sub rfl rfl (by omega)) ?_
      refine wk_f rfl (f_indexAddr 2 (i := q'.length) rfl rfl Try.underlying37 (by kernel_rfl) (by omega) (by omega)) ?_
      refine wk_f rfl (f_loadsr (cs := [.string y.1, .string y.2]) 0 rfl Try.underlying52 rfl (by kernel_rfl) rfl (tc_get q' _ y rfl)) ?_
      refine wk_f rfl (f_move rfl) ?_
      refine wk_f rfl (f_move rfl) ?_
      refine wk_f rfl (f_indexAddr 2 (i := j) rfl rfl Try.underlying37 (by kernel_rfl) rfl (by omega)) ?_
      refine wk_f rfl (f_loadsr (cs := [.string t.1, .string t.2]) 0 rfl Try.underlying52 rfl (by kernel_rfl) rfl (by have := tc_get (q' ++ [y]) (r ++ l.drop (i + 1)) t hq; simpa using this)) ?_
      refine wk_f rfl (f_indexAddr 2 (i := j) rfl rfl Try.underlying37 (by kernel_rfl) rfl (by omega)) ?_
      refine wk_e0 rfl (e_storer0 (us := [.string y.1, .string y.2]) (xs' := tcells (q' ++ y :: y :: (r ++ l.drop (i + 1)))) rfl rfl rfl (by kernel_rfl) (by simp [Value.oneCell']) (by rw [tcells_len]; simp; omega) (by have := tc_set (q' ++ [y]) (r ++ l.drop (i + 1)) t y hq; simpa using this)) ?_
      rintro _ _ w6_15 rfl
      refine ⟨_, List.Perm.refl _, ?_⟩
      refine wk_f rfl (f_indexAddr 2 (i := q'.length) rfl rfl Try.underlying37 (by kernel_rfl) (by omega) (by omega)) ?_
      refine wk_e0 rfl (e_storer0 (us := [.string t.1, .string t.2]) (xs' := tcells (q' ++ t :: y :: (r ++ l.drop (i + 1)))) rfl rfl rfl (by kernel_rfl) (by simp [Value.oneCell']) (by rw [tcells_len]; simp; omega) (tc_set q' _ y t rfl)) ?_
      rintro _ _ w6_17 rfl
      refine ⟨_, List.Perm.refl _, ?_⟩
      refine wk_end [(0, _), (1, _), (2, _), (3, _), (8, _), (9, _)] ⟨rfl, rfl, rfl, rfl, rfl, rfl, trivial⟩ ?_
      refine w_reg ?_
      refine wl_f (f_move rfl) ?_
      refine wl_f (f_sub rfl rfl (by omega)) ?_
      refine wl_f (f_assign rfl) ?_
      refine wl_end [(0, _), (1, _), (2, _), (3, _), (8, _), (9, _)] ⟨rfl, rfl, rfl, rfl, rfl, rfl, trivial⟩ ?_
      refine ⟨j - 1, by omega, q', y :: r, ?_, rfl, by omega, by rw [← hqr]; simp, ?_⟩
      · rw [show ((j - 1 : Nat) : Int) = (j : Int) - 1 by omega]
      · intro x hx
        rcases List.mem_cons.1 hx with rfl | hx
        · exact hty
        · exact hr x hx
    · skip
      have hall := hcf (by simpa using hc2)
      refine w_exit0 ?_
      refine w_reg ?_
      refine wl_f (f_move rfl) ?_
      refine wl_f (f_add rfl rfl (by omega)) ?_
      refine wl_f (f_assign rfl) ?_
      refine wl_end [(0, _), (1, _), (2, _), (3, _), (8, _)] ⟨rfl, rfl, rfl, rfl, rfl, trivial⟩ ?_
      refine ⟨k - 1, by omega, i + 1, q ++ t :: r, rfl, by simp, ?_, by omega, by omega, ?_, ?_⟩
      · have := congrArg List.length hqr
        simp at this ⊢
        omega
      · rw [take_snoc l i t ht]
        refine List.Perm.trans ?_ ((hperm.append_right [t]))
        rw [← hqr, List.append_assoc]
        exact List.Perm.append_left q (List.perm_append_singleton t r).symm
      · rw [← hqr] at hwk
        exact wk_insert hwk hall hr
  · skip
    rw [List.take_of_length_le (by omega)] at hperm
    rw [List.drop_eq_nil_of_le (by omega), List.append_nil]
    refine w_exit0 ?_
    refine ⟨_, _, fun a ha hh => results_tmps (l := []) Try.results59 rfl a ha _, List.Sublist.refl _, ?_⟩
    exact ⟨p, rfl, hperm, hwk⟩
end Go.Proofs.Ythbjjfpikfmmnaa
