/- The walks of the two functions that sort tags. -/
import Derived.Test.YthbjjfpikfmmnaaD10
namespace Go.Proofs.Ythbjjfpikfmmnaa
open Go.RowKit

theorem pdq_spec (g cap : Nat) (l : List Tg) (lim : Int) (w : World) (h0 : 0 < l.length) (hn : l.length ≤ 12)
    (hs : Holds w (row (.slice (some ⟨g, 0, .none⟩) l.length cap) 52 2 l.length (tcells l)).foot [row (.slice (some ⟨g, 0, .none⟩) l.length cap) 52 2 l.length (tcells l)] w) :
    Spec Try.prog 55 [.slice (some ⟨g, 0, .none⟩) l.length cap, .int .i64 0, .int .i64 l.length, .int .i64 lim, cmpf] w (row (.slice (some ⟨g, 0, .none⟩) l.length cap) 52 2 l.length (tcells l)).foot
      fun _ H => ∃ l', H = [row (.slice (some ⟨g, 0, .none⟩) l.length cap) 52 2 l.length (tcells l')] ∧ l'.Perm l ∧ Wk l' := by
  refine enter (n := 148) Try.func55 rfl rfl [(0, _), (1, _), (2, _), (3, _), (4, _)] rfl ⟨rfl, rfl, rfl, rfl, rfl, trivial⟩ hs ?_
  refine w_seq ?_
  refine w_reg ?_
  refine wl_f (f_assign rfl) ?_
  refine wl_end [(0, _), (1, _), (2, _), (3, _), (4, _), (10, _)] ⟨rfl, rfl, rfl, rfl, rfl, rfl, trivial⟩ ?_
  refine w_seq ?_
  refine w_reg ?_
  refine wl_f (f_assign rfl) ?_
  refine wl_end [(0, _), (1, _), (2, _), (3, _), (4, _), (10, _), (11, _)] ⟨rfl, rfl, rfl, rfl, rfl, rfl, rfl, trivial⟩ ?_
  refine w_block ?_
  refine w_loop (fun k m H w => m = [(0, .slice (some ⟨g, 0, .none⟩) l.length cap), (1, .int .i64 0), (2, .int .i64 l.length), (3, .int .i64 lim), (4, cmpf), (10, .bool true), (11, .bool true)] ∧
    H = [row (.slice (some ⟨g, 0, .none⟩) l.length cap) 52 2 l.length (tcells l)]) 0 ⟨rfl, rfl⟩ ?_
  rintro k _ _ w1 ⟨rfl, rfl⟩
  refine w_block ?_
  refine w_seq ?_
  refine w_reg ?_
  refine wl_f (f_move rfl) ?_
  refine wl_f (f_move rfl) ?_
  refine wl_f (f_sub rfl rfl (by omega)) ?_
  refine wl_f (f_assign rfl) ?_
  refine wl_end [(0, _), (1, _), (2, _), (3, _), (4, _), (10, _), (11, _), (12, _)] ⟨rfl, rfl, rfl, rfl, rfl, rfl, rfl, rfl, trivial⟩ ?_
  refine w_seq ?_
  refine w_seq ?_
  refine w_reg ?_
  refine wl_f (f_move rfl) ?_
  refine wl_f (f_leq rfl rfl) ?_
  refine wl_end [(0, _), (1, _), (2, _), (3, _), (4, _), (10, _), (11, _), (12, _), (25, _)] ⟨rfl, rfl, rfl, rfl, rfl, rfl, rfl, rfl, rfl, trivial⟩ ?_
  refine w_ifd rfl (fun _ => ?_) (fun h => absurd h (by omega))
  refine w_seq ?_
  refine w_reg ?_
  refine wl_f (f_move rfl) ?_
  refine wl_f (f_move rfl) ?_
  refine wl_f (f_move rfl) ?_
  refine wl_f (f_move rfl) ?_
  refine wl_e (e_call1 (row (.slice (some ⟨g, 0, .none⟩) l.length cap) 52 2 l.length (tcells l)) [] rfl Try.func59 (by kernel_rfl) (List.Perm.refl _) (fun w hh hs' => insertion_spec g cap l w h0 (by omega) hs')) ?_
  rintro _ _ w2 ⟨_, rfl, l', rfl, hp, hw⟩
  refine wl_end [] trivial ?_
  refine w_ret ?_
  refine ⟨_, _, fun a ha hh => results_tmps Try.results55 rfl a ha _, List.Sublist.refl _, ?_⟩
  exact ⟨l', rfl, hp, hw⟩
theorem sortFunc_spec (g cap : Nat) (l : List Tg) (w : World) (h0 : 0 < l.length) (hn : l.length ≤ 12)
    (hs : Holds w (row (.slice (some ⟨g, 0, .none⟩) l.length cap) 52 2 l.length (tcells l)).foot [row (.slice (some ⟨g, 0, .none⟩) l.length cap) 52 2 l.length (tcells l)] w) :
    Spec Try.prog 50 [.slice (some ⟨g, 0, .none⟩) l.length cap, cmpf] w (row (.slice (some ⟨g, 0, .none⟩) l.length cap) 52 2 l.length (tcells l)).foot
      fun _ H => ∃ l', H = [row (.slice (some ⟨g, 0, .none⟩) l.length cap) 52 2 l.length (tcells l')] ∧ l'.Perm l ∧ Wk l' := by
  refine enter (n := 14) Try.func50 rfl rfl [(0, _), (1, _)] rfl ⟨rfl, rfl, trivial⟩ hs ?_
  refine w_seq ?_
  refine w_reg ?_
  refine wl_f (f_move rfl) ?_
  refine wl_f (f_len rfl Try.underlying37) ?_
  refine wl_f (f_assign rfl) ?_
  refine wl_end [(0, _), (1, _), (4, _)] ⟨rfl, rfl, rfl, trivial⟩ ?_
  refine w_reg ?_
  refine wl_f (f_move rfl) ?_
  refine wl_f (f_move rfl) ?_
  refine wl_f (f_move rfl) ?_
  refine wl_f (f_convu rfl Try.underlying3 Try.underlying83 (by omega)) ?_
  refine wl_e (e_call0 rfl Try.func56 (by kernel_rfl) (fun w hh => len_spec l.length w (by omega))) ?_
  rintro _ _ w1 ⟨_, rfl, lim, rfl, rfl⟩
  refine wl_f (f_move rfl) ?_
  refine wl_e (e_call1 (row (.slice (some ⟨g, 0, .none⟩) l.length cap) 52 2 l.length (tcells l)) [] rfl Try.func55 (by kernel_rfl) (List.Perm.refl _) (fun w hh hs' => pdq_spec g cap l lim w h0 hn hs')) ?_
  rintro _ _ w2 ⟨_, rfl, l', rfl, hp, hw⟩
  refine wl_end [] trivial ?_
  refine ⟨_, _, fun a ha hh => results_tmps (l := []) Try.results50 rfl a ha _, List.Sublist.refl _, ?_⟩
  exact ⟨l', rfl, hp, hw⟩

def SortSpec (f : FuncId) : Prop := ∀ (v : Value) (l : List Tg) (w : World), Rd w Nil 2 v l.length (tcells l) → l.length ≤ 140737488355328 → (∀ t ∈ l, t.1.size ≤ 140737488355328) →
  Spec Try.prog f [v] w Nil fun r H => ∃ u, r = .tuple #[u, .int .i64 (sortErr l)] ∧ H = [row u 52 2 (sortOut l).length (tcells (sortOut l))]
theorem sortOut_bad {l : List Tg} (h : sortErr l ≠ 0) : sortOut l = [] := by rw [sortOut, if_neg h]
theorem sort_bad {l : List Tg} {e : Int} (he : sortErr l = e) (h0 : e ≠ 0) : ∃ u : Value, (Value.tuple #[.slice .none 0 0, .int .i64 e]) = .tuple #[u, .int .i64 (sortErr l)] ∧
    [row (.slice .none 0 0) 52 2 0 []] = [row u 52 2 (sortOut l).length (tcells (sortOut l))] := by
  rw [sortOut_bad (by rw [he]; exact h0), he]
  exact ⟨_, rfl, rfl⟩
theorem take_all_valid {l : List Tg} {i : Nat} {t : Tg} (ht : l[i]? = some t) (hv : ∀ x ∈ l.take i, validE x = 0) (h : validE t = 0) : ∀ x ∈ l.take (i + 1), validE x = 0 := by
  rw [take_snoc l i t ht]
  intro x hx
  rcases List.mem_append.1 hx with hx | hx
  · exact hv x hx
  · rw [List.mem_singleton] at hx; subst hx; exact h

set_option maxHeartbeats 1000000 in
theorem sort_spec : SortSpec 46 := by
  intro v l w hr hn hsz
  obtain ⟨A, c, rfl, hlen, hcap, hA⟩ := id hr
  refine enter (n := 52) Try.func46 rfl rfl [(0, _)] rfl ⟨rfl, trivial⟩ (Holds.start _ _) ?_
  refine w_seq ?_
  refine w_reg ?_
  refine wl_f (f_assign rfl) ?_
  refine wl_f (f_assign rfl) ?_
  refine wl_end [(0, _)] ⟨rfl, trivial⟩ ?_
  refine w_seq ?_
  refine w_seq ?_
  refine w_reg ?_
  refine wl_f (f_move rfl) ?_
  refine wl_f (f_len rfl Try.underlying37) ?_
  refine wl_f (f_eql rfl rfl) ?_
  refine wl_f (f_move rfl) ?_
  refine wl_or (j := 3) (c := decide (8 < (l.length : Int))) 3 [(0, _)] ⟨rfl, trivial⟩ rfl rfl rfl rfl rfl (fun hg1_7 => ?_) (fun w1_7 => ?_)
  · skip
    refine wl_gf rfl rfl (f_move rfl) ?_
    refine wl_gf rfl rfl (f_len rfl Try.underlying37) ?_
    refine wl_gf rfl rfl (f_gtr rfl rfl) ?_
    exact wl_pend rfl rfl ⟨rfl, trivial⟩ (List.Sublist.refl _)
  refine wl_end [(0, _), (16, _)] ⟨rfl, rfl, trivial⟩ ?_
  refine w_ifb rfl (fun hc1 => ?_) (fun hc1 => ?_)
  · skip
    simp only [Bool.or_eq_true, decide_eq_true_eq] at hc1
    refine w_nilrow 52 2 ?_
    refine w_seq ?_
    refine w_reg ?_
    refine wl_f (f_assign rfl) ?_
    refine wl_f (f_assign rfl) ?_
    refine wl_end [(2, _), (3, _)] ⟨rfl, rfl, trivial⟩ ?_
    refine w_ret ?_
    refine ⟨_, _, fun a ha hh => results_tmps Try.results46 rfl a ha _, List.Sublist.refl _, ?_⟩
    exact sort_bad (by rw [sortErr, if_pos (by omega)]) (by omega)
  · skip
    simp only [Bool.or_eq_true, decide_eq_true_eq] at hc1
    have hne : ¬ (l.length = 0 ∨ 8 < l.length) := by omega
    refine w_skip ?_
    refine w_seq ?_
    refine w_seq ?_
    refine w_reg ?_
    refine wl_f (f_move rfl) ?_
    refine wl_f (f_len rfl Try.underlying37) ?_
    refine wl_f (f_move rfl) ?_
    refine wl_end [(0, _), (17, _), (18, _), (19, _)] ⟨rfl, rfl, rfl, rfl, trivial⟩ ?_
    refine w_block ?_
    refine w_loop (fun k m H w => ∃ i : Nat, m = [(0, .slice A l.length c), (17, .slice A l.length c), (18, .int .i64 l.length), (19, .int .i64 i)] ∧ H = [] ∧ k + i = l.length ∧ ∀ x ∈ l.take i, validE x = 0) l.length ⟨0, rfl, rfl, rfl, by simp⟩ ?_
    rintro k _ _ w1 ⟨i, rfl, rfl, hk, hv⟩
    refine w_seq ?_
    refine w_reg ?_
    refine wl_f (f_lss rfl rfl) ?_
    refine wl_end [(0, _), (17, _), (18, _), (19, _), (20, _)] ⟨rfl, rfl, rfl, rfl, rfl, trivial⟩ ?_
    refine w_seq ?_
    refine w_ifd rfl (fun hc2 => ?_) (fun hc2 => ?_)
    · skip
      obtain ⟨t, ht⟩ : ∃ t, l[i]? = some t := ⟨l[i]'(by omega), List.getElem?_eq_getElem (by omega)⟩
      obtain ⟨b, off, rfl, _, _, hcell⟩ := hA.resolve_left (by omega)
      refine w_skip ?_
      refine w_seq ?_
      refine w_block ?_
      refine w_seq ?_
      refine w_reg ?_
      refine wl_f (f_indexAddr 2 rfl rfl Try.underlying37 (by kernel_rfl) rfl (by omega)) ?_
      refine wl_f (f_loadso (cs := [.string t.1, .string t.2]) rfl Try.underlying52 rfl (by kernel_rfl) (tcells_at hcell ht) id) ?_
      refine wl_e (e_allocs [.string ByteArray.empty, .string ByteArray.empty] (by kernel_rfl)) ?_
      rintro _ _ w5_2 ⟨b5_2, rfl, rfl⟩
      (first | refine wl_e0 (e_store0 (us := [_, _]) rfl rfl rfl (by kernel_rfl) (by simp [Value.oneCell']) rfl rfl) ?_ | refine wl_e0 (e_store1 (us := [_, _]) rfl rfl rfl (by kernel_rfl) (by simp [Value.oneCell']) rfl rfl) ?_ | refine wl_e0 (e_store2 (us := [_, _]) rfl rfl rfl (by kernel_rfl) (by simp [Value.oneCell']) rfl rfl) ?_ | refine wl_e0 (e_store3 (us := [_, _]) rfl rfl rfl (by kernel_rfl) (by simp [Value.oneCell']) rfl rfl) ?_)
      rintro _ _ w5_3 rfl
      refine wl_end [(0, _), (5, _), (17, _), (18, _), (19, _)] ⟨rfl, rfl, rfl, rfl, rfl, trivial⟩ ?_
      refine w_seq ?_
      refine w_reg ?_
      (first | refine wl_f (f_loadsb (cs := [_, _]) 0 rfl Try.underlying52 rfl (by kernel_rfl) rfl rfl) ?_ | refine wl_f (f_loadsb (cs := [_, _]) 1 rfl Try.underlying52 rfl (by kernel_rfl) rfl rfl) ?_ | refine wl_f (f_loadsb (cs := [_, _]) 2 rfl Try.underlying52 rfl (by kernel_rfl) rfl rfl) ?_ | refine wl_f (f_loadsb (cs := [_, _]) 3 rfl Try.underlying52 rfl (by kernel_rfl) rfl rfl) ?_ | refine wl_f (f_loadsb (cs := [_, _]) 4 rfl Try.underlying52 rfl (by kernel_rfl) rfl rfl) ?_ | refine wl_f (f_loadsb (cs := [_, _]) 5 rfl Try.underlying52 rfl (by kernel_rfl) rfl rfl) ?_ | refine wl_f (f_loadsb (cs := [_, _]) 6 rfl Try.underlying52 rfl (by kernel_rfl) rfl rfl) ?_)
      refine wl_e (e_call0 rfl Try.func48 (by kernel_rfl) (fun w hh => valid_spec t w (hsz t (List.mem_of_getElem? ht)))) ?_
      rintro _ _ w2 ⟨_, rfl, rfl, rfl⟩
      refine wl_f (f_assign rfl) ?_
      refine wl_end [(0, _), (6, _), (17, _), (18, _), (19, _)] ⟨rfl, rfl, rfl, rfl, rfl, trivial⟩ ?_
      refine w_seq ?_
      refine w_reg ?_
      refine wl_f (f_move rfl) ?_
      refine wl_f (f_neq rfl rfl) ?_
      refine wl_end [(0, _), (6, _), (17, _), (18, _), (19, _), (26, _)] ⟨rfl, rfl, rfl, rfl, rfl, rfl, trivial⟩ ?_
      refine w_ifd rfl (fun hc3 => ?_) (fun hc3 => ?_)
      · skip
        refine w_drop [] (List.nil_sublist _) ?_
        refine w_nilrow 52 2 ?_
        refine w_seq ?_
        refine w_reg ?_
        refine wl_f (f_move rfl) ?_
        refine wl_f (f_assign rfl) ?_
        refine wl_f (f_assign rfl) ?_
        refine wl_end [(2, _), (3, _)] ⟨rfl, rfl, trivial⟩ ?_
        refine w_ret ?_
        refine ⟨_, _, fun a ha hh => results_tmps Try.results46 rfl a ha _, List.Sublist.refl _, ?_⟩
        exact sort_bad (sortErr_bad hne i t ht hv hc3) hc3
      · skip
        refine w_drop [] (List.nil_sublist _) ?_
        refine w_skip ?_
        refine w_reg ?_
        refine wl_f (f_add rfl rfl (by omega)) ?_
        refine wl_f (f_move rfl) ?_
        refine wl_end [(0, _), (17, _), (18, _), (19, _)] ⟨rfl, rfl, rfl, rfl, trivial⟩ ?_
        exact ⟨k - 1, by omega, i + 1, rfl, rfl, by omega, take_all_valid ht hv (by simpa using hc3)⟩
    · skip
      rw [List.take_of_length_le (by omega)] at hv
      refine w_exit0 ?_
      refine w_seq ?_
      refine w_reg ?_
      refine wl_f (f_move rfl) ?_
      refine wl_e (e_call0 rfl Try.func49 (by kernel_rfl) (fun w hh => clone_spec _ l w (hr.old0 hh) (by omega) (by omega))) ?_
      rintro v1 _ w3 ⟨_, rfl, rfl⟩
      refine wl_with fun hh => ?_
      obtain ⟨g, cap, rfl⟩ := row_form hh (i := 0) rfl (by omega)
      clear hh
      refine wl_f (f_assign rfl) ?_
      refine wl_end [(7, _)] ⟨rfl, trivial⟩ ?_
      refine w_seq ?_
      refine w_reg ?_
      refine wl_f (f_move rfl) ?_
      refine wl_e (e_call1 (row (.slice (some ⟨g, 0, .none⟩) l.length cap) 52 2 l.length (tcells l)) [] rfl Try.func50 (by kernel_rfl) (List.Perm.refl _) (fun w hh hs' => sortFunc_spec g cap l w (by omega) (by omega) hs')) ?_
      rintro _ _ w4 ⟨_, rfl, out, rfl, hp, hw⟩
      have hol := hp.length_eq
      refine wl_end [(7, _)] ⟨rfl, trivial⟩ ?_
      refine w_seq ?_
      refine w_seq ?_
      refine w_reg ?_
      refine wl_f (f_assign rfl) ?_
      refine wl_end [(7, _), (8, _)] ⟨rfl, rfl, trivial⟩ ?_
      refine w_block ?_
      refine w_loop (fun k m H w => ∃ i : Nat, m = [(7, .slice (some ⟨g, 0, .none⟩) l.length cap), (8, .int .i64 i)] ∧ H = [row (.slice (some ⟨g, 0, .none⟩) l.length cap) 52 2 l.length (tcells out)] ∧ 1 ≤ i ∧ k + i = l.length ∧ Srt (out.take i)) (l.length - 1)
        ⟨1, rfl, rfl, by omega, by omega, by
          obtain ⟨x, l', rfl⟩ := List.exists_cons_of_length_pos (show 0 < out.length by omega)
          exact List.pairwise_singleton _ _⟩ ?_
      rintro k _ _ w5 ⟨i, rfl, rfl, hi1, hk, hsrt⟩
      refine w_seq ?_
      refine w_seq ?_
      refine w_reg ?_
      refine wl_f (f_move rfl) ?_
      refine wl_f (f_move rfl) ?_
      refine wl_f (f_len rfl Try.underlying37) ?_
      refine wl_f (f_lss rfl rfl) ?_
      refine wl_end [(7, _), (8, _), (36, _)] ⟨rfl, rfl, rfl, trivial⟩ ?_
      refine w_ifd rfl (fun hc4 => ?_) (fun hc4 => ?_)
      · skip
        obtain ⟨j, rfl⟩ : ∃ j, i = j + 1 := ⟨i - 1, by omega⟩
        obtain ⟨x, hx⟩ : ∃ t, out[j + 1]? = some t := ⟨out[j + 1]'(by omega), List.getElem?_eq_getElem (by omega)⟩
        obtain ⟨y, hy⟩ : ∃ t, out[j]? = some t := ⟨out[j]'(by omega), List.getElem?_eq_getElem (by omega)⟩
        refine w_skip ?_
        refine w_seq ?_
        refine w_block ?_
        refine w_seq ?_
        refine w_draw [(0, true), (1, true), (2, true), (3, true), (4, true), (5, true), (6, true), (7, true), (8, true), (9, true), (10, true), (11, true)] (_) ([]) mixed (by kernel_rfl) (by kernel_rfl) rfl (perm_all _) (fun w15_ => ?_)
        refine wd_f rfl (f_move rfl) ?_
        refine wd_f rfl (f_move rfl) ?_
        refine wd_f rfl (f_indexAddr 2 (i := j + 1) rfl rfl Try.underlying37 (by kernel_rfl) rfl (by omega)) ?_
        refine wd_f rfl (f_fieldAddr 0 rfl Try.underlying52 rfl rfl (by kernel_rfl)) ?_
        refine wd_f rfl (f_loadr (v := .string x.1) 0 rfl Try.underlying9 rfl rfl (by have := (tcells_get out _ x hx).1; simpa using this)) ?_
        refine wd_f rfl (f_move rfl) ?_
        refine wd_f rfl (f_move rfl) ?_
        refine wd_f rfl (f_sub rfl rfl (by omega)) ?_
        refine wd_f rfl (f_indexAddr 2 (i := j) rfl rfl Try.underlying37 (by kernel_rfl) (by omega) (by omega)) ?_
        refine wd_f rfl (f_fieldAddr 0 rfl Try.underlying52 rfl rfl (by kernel_rfl)) ?_
        refine wd_f rfl (f_loadr (v := .string y.1) 0 rfl Try.underlying9 rfl rfl (by have := (tcells_get out _ y hy).1; simpa using this)) ?_
        refine wd_f rfl (f_eqls rfl rfl) ?_
        refine wd_end [(7, _), (8, _), (50, _)] ⟨rfl, rfl, rfl, trivial⟩ ?_
        refine w_ifd rfl (fun hc5 => ?_) (fun hc5 => ?_)
        · skip
          refine w_drop [] (List.nil_sublist _) ?_
          refine w_nilrow 52 2 ?_
          refine w_seq ?_
          refine w_reg ?_
          refine wl_f (f_assign rfl) ?_
          refine wl_f (f_assign rfl) ?_
          refine wl_end [(2, _), (3, _)] ⟨rfl, rfl, trivial⟩ ?_
          refine w_ret ?_
          refine ⟨_, _, fun a ha hh => results_tmps Try.results46 rfl a ha _, List.Sublist.refl _, ?_⟩
          refine sort_bad (e := 5) ?_ (by omega)
          rw [sortErr_all hne hv, if_neg]
          intro hnd
          have h2 := (hp.map Prod.fst).nodup_iff.2 hnd
          have := (List.pairwise_iff_getElem.1 h2) j (j + 1) (by simp; omega) (by simp; omega) (by omega)
          obtain ⟨_, e1⟩ := List.getElem?_eq_some_iff.1 hx
          obtain ⟨_, e2⟩ := List.getElem?_eq_some_iff.1 hy
          simp only [List.getElem_map, e1, e2] at this
          exact this hc5.symm
        · skip
          refine w_skip ?_
          refine w_reg ?_
          refine wl_f (f_move rfl) ?_
          refine wl_f (f_add rfl rfl (by omega)) ?_
          refine wl_f (f_assign rfl) ?_
          refine wl_end [(7, _), (8, _)] ⟨rfl, rfl, trivial⟩ ?_
          refine ⟨k - 1, by omega, j + 1 + 1, rfl, rfl, by omega, by omega, ?_⟩
          rw [take_snoc out (j + 1) x hx, take_snoc out j y hy]
          rw [take_snoc out j y hy] at hsrt
          refine srt_snoc hsrt ?_
          obtain ⟨q1, e1⟩ := List.getElem?_eq_some_iff.1 hx
          obtain ⟨q2, e2⟩ := List.getElem?_eq_some_iff.1 hy
          have hxy := (List.pairwise_iff_getElem.1 hw) j (j + 1) q2 q1 (by omega)
          rw [e1, e2] at hxy
          cases h : nlt y.1 x.1 with
          | true => rfl
          | false => exact absurd (nlt_total hxy h) hc5
      · skip
        refine w_exit0 ?_
        refine w_seq ?_
        refine w_reg ?_
        refine wl_f (f_move rfl) ?_
        refine wl_f (f_assign rfl) ?_
        refine wl_f (f_assign rfl) ?_
        refine wl_end [(2, _), (3, _)] ⟨rfl, rfl, trivial⟩ ?_
        refine w_ret ?_
        refine ⟨_, _, fun a ha hh => results_tmps Try.results46 rfl a ha _, List.Sublist.refl _, ?_⟩
        rw [List.take_of_length_le (by omega)] at hsrt
        obtain ⟨hnd, rfl⟩ := srt_isort hsrt hp
        have he : sortErr l = 0 := by rw [sortErr_all hne hv, if_pos hnd]
        rw [sortOut, if_pos he, he, hol]
        exact ⟨_, rfl, rfl⟩
end Go.Proofs.Ythbjjfpikfmmnaa
