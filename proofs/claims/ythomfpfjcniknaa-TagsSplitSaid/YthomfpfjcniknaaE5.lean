/- The law TagsOrder: the call returns true. -/
import Derived.Test.YthomfpfjcniknaaE4
namespace Go.Proofs.Ythomfpfjcniknaa
open Go.RowKit

theorem validE_good {t : Tg} (h : good t) : validE t = 0 ∨ validE t = 4 := by
  obtain ⟨h1, h2, _, _⟩ := h
  unfold validE
  rw [if_neg (by omega), if_pos h2]
  split <;> simp
theorem sortErr_good {l : List Tg} (h : ∀ t ∈ l, good t) : sortErr l = if l.length = 0 ∨ 8 < l.length then 5 else if ∀ t ∈ l, validE t = 0 then (if (names l).Nodup then 0 else 5) else 4 := by
  unfold sortErr
  by_cases h0 : l.length = 0 ∨ 8 < l.length
  · rw [if_pos h0, if_pos h0]
  · rw [if_neg h0, if_neg h0]
    split
    · rename_i t ht
      have h1 := List.find?_some ht
      have hm := List.mem_of_find?_eq_some ht
      simp only [ne_eq, decide_eq_true_eq] at h1
      rw [if_neg (fun hall => h1 (hall t hm))]
      exact (validE_good (h t hm)).resolve_left h1
    · rename_i hn
      rw [List.find?_eq_none] at hn
      rw [if_pos (fun t ht => by simpa using hn t ht)]
theorem keyOut_perm {l m : List Tg} (hp : l.Perm m) (h : ∀ t ∈ l, good t) : keyOut l = keyOut m := by
  have hm : ∀ t ∈ m, good t := fun t ht => h t (hp.mem_iff.2 ht)
  have hn : (names l).Nodup ↔ (names m).Nodup := (hp.map Prod.fst).nodup_iff
  have hv : (∀ t ∈ l, validE t = 0) ↔ (∀ t ∈ m, validE t = 0) := ⟨fun h t ht => h t (hp.mem_iff.2 ht), fun h t ht => h t (hp.mem_iff.1 ht)⟩
  have he : sortErr l = sortErr m := by
    rw [sortErr_good h, sortErr_good hm, hp.length_eq]
    simp only [hn, hv]
  unfold keyOut
  rw [he]
  by_cases h0 : sortErr m ≠ 0
  · rw [if_pos h0, if_pos h0]
  · have h0' : sortErr m = 0 := by simpa using h0
    obtain ⟨_, _, _, hnd⟩ := sortErr_zero h0'
    have : isort l = isort m := srt_unique (isort_srt l (hn.2 hnd)) (isort_srt m hnd) ((isort_perm l).trans (hp.trans (isort_perm m).symm))
    rw [this]

theorem swap_cells (l : List Tg) (i j : Nat) (x y : Tg) (hi : l[i]? = some x) (hj : l[j]? = some y) : ((l.set i y).set j x).Perm l := by
  obtain ⟨h1, e1⟩ := List.getElem?_eq_some_iff.1 hi
  obtain ⟨h2, e2⟩ := List.getElem?_eq_some_iff.1 hj
  subst e1; subst e2
  exact List.set_set_perm h1 h2
theorem tc_at_set {l : List Tg} {i : Nat} (h : i < l.length) (t : Tg) : (tcells l).take (0 + i * 2) ++ [.string t.1, .string t.2] ++ (tcells l).drop (0 + i * 2 + 2) = tcells (l.set i t) := by
  have hs : l = l.take i ++ l[i] :: l.drop (i + 1) := by rw [← List.drop_eq_getElem_cons h, List.take_append_drop]
  have := tc_set (l.take i) (l.drop (i + 1)) l[i] t (i := i) (by rw [List.length_take]; omega)
  rw [← hs] at this
  rw [this, List.set_eq_take_append_cons_drop, if_pos h]

set_option maxHeartbeats 2000000 in
theorem tagsOrder_spec (D : Option Addr) (dc : Nat) (L : List Int) (O : Option Addr) (oc : Nat) (K : List Int) (w : World)
    (hd : Rd w Nil 1 (.slice D L.length dc) L.length (iv L)) (hL : L.length ≤ 140737488355328) (ho : Rd w Nil 1 (.slice O K.length oc) K.length (iv K)) (hK : K.length ≤ 140737488355328) :
    Spec Try.prog 9 [.slice D L.length dc, .slice O K.length oc] w Nil fun r _ => r = .bool true := by
  refine enter (n := 67) Try.func9 rfl rfl [(0, _), (1, _)] rfl ⟨rfl, rfl, trivial⟩ (Holds.start _ _) ?_
  refine w_seq ?_
  refine w_reg ?_
  refine wl_f (f_assign rfl) ?_
  refine wl_end [(0, _), (1, _)] ⟨rfl, rfl, trivial⟩ ?_
  refine w_seq ?_
  refine w_reg ?_
  refine wl_f (f_move rfl) ?_
  refine wl_e (e_call0 rfl Try.func31 (by kernel_rfl) (fun w hh => list_spec D _ dc L 0 ⟨#[]⟩ ⟨#[]⟩ w (hd.old0 hh) hL)) ?_
  rintro v1 _ w1 ⟨_, rfl, T, rfl, hT, hg, _⟩
  have hg := hg rfl
  refine wl_f (f_assign rfl) ?_
  refine wl_end [(1, _), (5, _)] ⟨rfl, rfl, trivial⟩ ?_
  refine w_seq ?_
  refine w_reg ?_
  refine wl_f (f_move rfl) ?_
  refine wl_e (e_call0 rfl Try.func17 (by kernel_rfl) (fun w hh => new_spec O _ oc w)) ?_
  rintro _ _ w2 ⟨_, rfl, b, rfl, rfl⟩
  refine wl_f (f_assign rfl) ?_
  refine wl_end [(5, _), (6, _)] ⟨rfl, rfl, trivial⟩ ?_
  refine w_seq ?_
  refine w_reg ?_
  refine wl_e (e_lit0 t22) ?_
  rintro _ _ w3_0 ⟨b3_0, rfl, rfl⟩
  refine wl_f (f_move rfl) ?_
  refine wl_e (e_appS0 t22 rfl rfl (fun w hh => Rd.held0 hh (i := 2) rfl) (tcells_one T) (by omega) (by omega)) ?_
  rintro _ _ w3 ⟨⟨U, cu, rfl⟩, rfl⟩
  refine wl_f (f_assign rfl) ?_
  refine wl_end [(5, _), (6, _), (7, _)] ⟨rfl, rfl, rfl, trivial⟩ ?_
  refine w_seq ?_
  refine w_seq ?_
  refine w_reg ?_
  refine wl_f (f_move rfl) ?_
  refine wl_f (f_len rfl Try.underlying22) ?_
  refine wl_f (f_sub rfl rfl (by omega)) ?_
  refine wl_f (f_assign rfl) ?_
  refine wl_end [(5, _), (6, _), (7, _), (8, _)] ⟨rfl, rfl, rfl, rfl, trivial⟩ ?_
  refine w_block ?_
  refine w_loop (fun k m H w' => ∃ (i : Int) (M : List Tg) (p : Nat), m = [(5, v1), (6, .pointer (some ⟨b, 0, .none⟩)), (7, .slice U (0 + T.length) cu), (8, .int .i64 i)] ∧
    H = [row (.slice U (0 + T.length) cu) 35 2 (0 + T.length) (tcells M), deck b (.slice O K.length oc) p, row v1 35 2 T.length (tcells T)] ∧ M.Perm T ∧ i < T.length ∧ -1 ≤ i ∧ k = i.toNat ∧ p ≤ K.length)
    (((0 + T.length : Nat) : Int) - 1).toNat ⟨((0 + T.length : Nat) : Int) - 1, T, 0, rfl, rfl, List.Perm.refl _, by omega, by omega, rfl, Nat.zero_le _⟩ ?_
  rintro k _ _ w4 ⟨i, M, p, rfl, rfl, hM, hi1, hi2, hk, hp⟩
  have hMl := hM.length_eq
  refine w_seq ?_
  refine w_seq ?_
  refine w_reg ?_
  refine wl_f (f_move rfl) ?_
  refine wl_f (f_gtr rfl rfl) ?_
  refine wl_end [(5, _), (6, _), (7, _), (8, _), (25, _)] ⟨rfl, rfl, rfl, rfl, rfl, trivial⟩ ?_
  refine w_ifd rfl (fun hc1 => ?_) (fun hc1 => ?_)
  · skip
    obtain ⟨j, rfl⟩ : ∃ j : Nat, i = j := ⟨i.toNat, by omega⟩
    refine w_with fun hh => ?_
    obtain ⟨g, cap, e⟩ := row_form hh (i := 0) rfl (by omega)
    injection e with e1 _ e3
    subst e1; subst e3
    clear hh
    refine w_skip ?_
    refine w_seq ?_
    refine w_block ?_
    refine w_seq ?_
    refine w_reg ?_
    refine wl_f (f_move rfl) ?_
    refine wl_f (f_move rfl) ?_
    refine wl_f (f_addr (r := ((j + 1 : Nat) : Int)) rfl rfl (by rw [IntKind.wrap_i64]; omega)) ?_
    refine wl_e (e_call1 (deck b (.slice O K.length oc) p) [_, _] rfl Try.func37 (by kernel_rfl) (List.Perm.swap ..) (fun w hh hs' => next_spec b _ K p (j + 1) w ⟨ho.old1 hh (List.Perm.swap ..), hK, hp⟩ hs' (by omega))) ?_
    rintro _ _ w5 ⟨_, rfl, y, p1, rfl, hy, rfl, hp1⟩
    refine wl_f (f_assign rfl) ?_
    refine wl_end [(5, _), (6, _), (7, _), (8, _), (9, _)] ⟨rfl, rfl, rfl, rfl, rfl, trivial⟩ ?_
    obtain ⟨x, hx⟩ : ∃ t, M[y]? = some t := ⟨M[y]'(by omega), List.getElem?_eq_getElem (by omega)⟩
    obtain ⟨z, hz⟩ : ∃ t, M[j]? = some t := ⟨M[j]'(by omega), List.getElem?_eq_getElem (by omega)⟩
    refine w_drawk [(0, true), (1, true), (2, true), (3, true), (4, true), (5, true), (6, true), (7, true), (8, true), (9, true), (10, true), (11, true), (12, true), (13, false), (14, true), (15, false)] ([(_, .none), (_, some 13), (_, .none)]) ([]) mixed (by kernel_rfl) (by kernel_rfl) rfl rfl (List.Perm.refl _) (fun w8_ => ?_)
    refine wk_f rfl (f_move rfl) ?_
    refine wk_f rfl (f_move rfl) ?_
    refine wk_f rfl (f_move rfl) ?_
    refine wk_f rfl (f_move rfl) ?_
    refine wk_f rfl (f_move rfl) ?_
    refine wk_f rfl (f_move rfl) ?_
    refine wk_f rfl (f_indexAddr 2 (i := y) rfl rfl Try.underlying22 (by kernel_rfl) rfl (by omega)) ?_
    refine wk_f rfl (f_loadsr (cs := [.string x.1, .string x.2]) 1 rfl Try.underlying35 rfl (by kernel_rfl) rfl (tc_at hx)) ?_
    refine wk_f rfl (f_move rfl) ?_
    refine wk_f rfl (f_move rfl) ?_
    refine wk_f rfl (f_indexAddr 2 (i := j) rfl rfl Try.underlying22 (by kernel_rfl) rfl (by omega)) ?_
    refine wk_f rfl (f_loadsr (cs := [.string z.1, .string z.2]) 1 rfl Try.underlying35 rfl (by kernel_rfl) rfl (tc_at hz)) ?_
    refine wk_f rfl (f_indexAddr 2 (i := j) rfl rfl Try.underlying22 (by kernel_rfl) rfl (by omega)) ?_
    refine wk_e0 rfl (e_storer1 (us := [.string x.1, .string x.2]) (xs' := tcells (M.set j x)) rfl rfl rfl (by kernel_rfl) (by simp [Value.oneCell']) (by rw [tcells_len]; show 0 + j * 2 + 2 ≤ _; omega) (tc_at_set (by omega) x)) ?_
    rintro _ _ w6 rfl
    refine ⟨[_], List.Perm.cons _ (List.Perm.swap ..), ?_⟩
    refine wk_f rfl (f_indexAddr 2 (i := y) rfl rfl Try.underlying22 (by kernel_rfl) rfl (by omega)) ?_
    refine wk_e0 rfl (e_storer2 (us := [.string z.1, .string z.2]) (xs' := tcells ((M.set j x).set y z)) rfl rfl rfl (by kernel_rfl) (by simp [Value.oneCell']) (by rw [tcells_len, List.length_set]; show 0 + y * 2 + 2 ≤ _; omega) (tc_at_set (by rw [List.length_set]; omega) z)) ?_
    rintro _ _ w8_15 rfl
    refine ⟨_, List.Perm.refl _, ?_⟩
    refine wk_endp [(5, _), (6, _), (7, _), (8, _)] [2, 0, 0] ⟨rfl, rfl, rfl, rfl, trivial⟩ rfl ?_
    refine w_reg ?_
    refine wl_f (f_move rfl) ?_
    refine wl_f (f_sub rfl rfl (by omega)) ?_
    refine wl_f (f_assign rfl) ?_
    refine wl_end [(5, _), (6, _), (7, _), (8, _)] ⟨rfl, rfl, rfl, rfl, trivial⟩ ?_
    exact ⟨((j : Int) - 1).toNat, by omega, (j : Int) - 1, _, p1, rfl, rfl, (swap_cells M j y z x hz hx).trans hM, by omega, by omega, rfl, hp1⟩
  · skip
    have hsz : ∀ l : List Tg, (∀ t ∈ l, good t) → ∀ t ∈ l, t.1.size ≤ 140737488355328 := fun l h t ht => by have := (h t ht).2.2.1; omega
    have hgM : ∀ t ∈ M, good t := fun t ht => hg t (hM.mem_iff.1 ht)
    refine w_exit0 ?_
    refine w_seq ?_
    refine w_reg ?_
    refine wl_f (f_move rfl) ?_
    refine wl_e (e_call0 rfl Try.func34 (by kernel_rfl) (fun w hh => key_spec v1 T w (Rd.held0 hh (i := 2) rfl) (by omega) (hsz T hg))) ?_
    rintro _ _ w7 ⟨_, rfl, rfl, rfl⟩
    refine wl_f (f_move rfl) ?_
    refine wl_f (f_extract rfl rfl) ?_
    refine wl_f (f_extract rfl rfl) ?_
    refine wl_f (f_assign rfl) ?_
    refine wl_f (f_assign rfl) ?_
    refine wl_end [(7, _), (10, _), (11, _)] ⟨rfl, rfl, rfl, trivial⟩ ?_
    refine w_seq ?_
    refine w_reg ?_
    refine wl_f (f_move rfl) ?_
    refine wl_e (e_call0 rfl Try.func34 (by kernel_rfl) (fun w hh => key_spec _ M w (by rw [show M.length = 0 + T.length by omega]; exact Rd.held0 hh (i := 0) rfl) (by omega) (hsz M hgM))) ?_
    rintro _ _ w8 ⟨_, rfl, rfl, rfl⟩
    refine wl_f (f_move rfl) ?_
    refine wl_f (f_extract rfl rfl) ?_
    refine wl_f (f_extract rfl rfl) ?_
    refine wl_f (f_assign rfl) ?_
    refine wl_f (f_assign rfl) ?_
    refine wl_end [(10, _), (11, _), (12, _), (13, _)] ⟨rfl, rfl, rfl, rfl, trivial⟩ ?_
    refine w_seq ?_
    refine w_reg ?_
    refine wl_f (f_move rfl) ?_
    refine wl_f (f_move rfl) ?_
    refine wl_f (f_eqls rfl rfl) ?_
    refine wl_f (f_move rfl) ?_
    refine wl_and (j := 3) (c := decide ((keyOut T).2 = (keyOut M).2)) 3 [] trivial rfl rfl rfl rfl rfl (fun hg11_7 => ?_) (fun w11_7 => ?_)
    · skip
      refine wl_gf rfl rfl (f_move rfl) ?_
      refine wl_gf rfl rfl (f_move rfl) ?_
      refine wl_gf rfl rfl (f_eql rfl rfl) ?_
      exact wl_pend rfl rfl trivial (List.Sublist.refl _)
    refine wl_f (f_move rfl) ?_
    refine wl_and (j := 8) (c := true) 1 [] trivial rfl rfl rfl rfl rfl (fun hg11_10 => ?_) (fun w11_10 => ?_)
    · skip
      refine wl_ge rfl rfl (e_call0 rfl Try.func30 (by kernel_rfl) (fun w hh => awake3_spec w)) ?_
      rintro _ _ w9 ⟨_, rfl, rfl, rfl⟩
      exact wl_pend rfl rfl trivial (List.Sublist.refl _)
    refine wl_f (f_assign rfl) ?_
    refine wl_end [(4, _)] ⟨rfl, trivial⟩ ?_
    refine w_ret ?_
    refine ⟨_, _, fun a ha hh => results_tmps Try.results9 rfl a ha _, List.Sublist.refl _, ?_⟩
    rw [keyOut_perm hM hgM]
    simp [tup]
end Go.Proofs.Ythomfpfjcniknaa
