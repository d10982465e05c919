/- The walk of the other function that sorts tags. -/
import Derived.Test.YthbjjfpikfmmnaaD11
import Derived.Test.YthbjjfpikfmmnaaK7
namespace Go.Proofs.Ythbjjfpikfmmnaa
open Go.RowKit

theorem lit_tag (a b : ByteArray) (w : World) : (Instr.buildSlice 37 1 [(0, .agg [.string a, .string b].toArray)].toArray).run Try.prog w =
    .ok (.slice (some ⟨w.heap.size, 0, .none⟩) 1 1) (w.alloc (.cells [.string a, .string b].toArray 52)) := by kernel_rfl
theorem tcells_take (l : List Tg) (q : Nat) : (tcells l).take (q * 2) = tcells (l.take q) := by
  rcases Nat.lt_or_ge q l.length with h | h
  · have h1 : l = l.take q ++ l.drop q := (List.take_append_drop q l).symm
    have h2 : (tcells (l.take q)).length = q * 2 := by rw [tcells_len, List.length_take]; omega
    conv => lhs; rw [h1, tcells_app]
    rw [List.take_left' h2]
  · rw [List.take_of_length_le h, List.take_of_length_le (by rw [tcells_len]; omega)]
theorem tcells_drop (l : List Tg) (q : Nat) : (tcells l).drop (q * 2) = tcells (l.drop q) := by
  rcases Nat.lt_or_ge q l.length with h | h
  · have h1 : l = l.take q ++ l.drop q := (List.take_append_drop q l).symm
    have h2 : (tcells (l.take q)).length = q * 2 := by rw [tcells_len, List.length_take]; omega
    conv => lhs; rw [h1, tcells_app]
    rw [List.drop_left' h2]
  · rw [List.drop_eq_nil_of_le h, List.drop_eq_nil_of_le (by rw [tcells_len]; omega)]; rfl

theorem splice_cells (out : List Tg) (t : Tg) (q : Nat) :
    ([] ++ ((tcells out).drop (0 * 2)).take ((q - 0) * 2) ++ [.string t.1, .string t.2]) ++ ((tcells out).drop (q * 2)).take ((out.length - q) * 2) = tcells (out.take q ++ t :: out.drop q) := by
  rw [Nat.zero_mul, List.drop_zero, Nat.sub_zero, tcells_take, tcells_drop, List.take_of_length_le (l := tcells (out.drop q)) (by rw [tcells_len, List.length_drop]; exact Nat.le_refl _), tcells_app, tcells_cons]
  simp
theorem cut_one (l : List Tg) (a b : Nat) : ∀ u ∈ ((tcells l).drop a).take b, u.oneCell' = true := fun u hu => tcells_one l u (List.mem_of_mem_drop (List.mem_of_mem_take hu))
theorem no_name {out : List Tg} {t : Tg} {q : Nat} (hs : Srt out) (h1 : ∀ x ∈ out.take q, nlt x.1 t.1 = true) (h2 : ∀ x, out[q]? = some x → nlt x.1 t.1 = false) (h3 : ∀ x, out[q]? = some x → x.1 ≠ t.1) : ∀ x ∈ out, x.1 ≠ t.1 := by
  intro x hx
  rw [← List.take_append_drop q out] at hx
  rcases List.mem_append.1 hx with hx | hx
  · exact nlt_ne (h1 x hx)
  · cases hq : out[q]? with
    | none =>
      rw [List.drop_eq_nil_of_le (List.getElem?_eq_none_iff.1 hq)] at hx
      cases hx
    | some y =>
      obtain ⟨hlt, he⟩ := List.getElem?_eq_some_iff.1 hq
      rw [List.drop_eq_getElem_cons hlt, he] at hx
      rcases List.mem_cons.1 hx with rfl | hx
      · exact h3 _ hq
      · intro e
        have hd : Srt (out.drop q) := List.Pairwise.sublist (List.drop_sublist _ _) hs
        rw [List.drop_eq_getElem_cons hlt, he] at hd
        have := (List.pairwise_cons.1 hd).1 x hx
        rw [e, h2 y hq] at this
        cases this

set_option maxHeartbeats 2000000 in
theorem rsort_spec : SortSpec 47 := by
  intro v l w hr hn hsz
  obtain ⟨A, c, rfl, hlen, hcap, hA⟩ := id hr
  refine enter (n := 81) Try.func47 rfl rfl [(0, _)] rfl ⟨rfl, trivial⟩ (Holds.start _ _) ?_
  refine w_seq ?_
  refine w_reg ?_
  refine wl_f (f_assign rfl) ?_
  refine wl_f (f_assign rfl) ?_
  refine wl_end [(0, _)] ⟨rfl, trivial⟩ ?_
  refine w_seq ?_
  refine w_seq ?_
  refine w_reg ?_
  refine wl_f (f_move rfl) ?_
  refine wl_f (f_len rfl Try.underlying37) ?_
  refine wl_f (f_eql rfl rfl) ?_
  refine wl_f (f_move rfl) ?_
  refine wl_or (j := 3) (c := decide (8 < (l.length : Int))) 3 [(0, _)] ⟨rfl, trivial⟩ rfl rfl rfl rfl rfl (fun hg1_7 => ?_) (fun w1_7 => ?_)
  · skip
    refine wl_gf rfl rfl (f_move rfl) ?_
    refine wl_gf rfl rfl (f_len rfl Try.underlying37) ?_
    refine wl_gf rfl rfl (f_gtr rfl rfl) ?_
    exact wl_pend rfl rfl ⟨rfl, trivial⟩ (List.Sublist.refl _)
  refine wl_end [(0, _), (18, _)] ⟨rfl, rfl, trivial⟩ ?_
  refine w_ifb rfl (fun hc1 => ?_) (fun hc1 => ?_)
  · skip
    simp only [Bool.or_eq_true, decide_eq_true_eq] at hc1
    refine w_nilrow 52 2 ?_
    refine w_seq ?_
    refine w_reg ?_
    refine wl_f (f_assign rfl) ?_
    refine wl_f (f_assign rfl) ?_
    refine wl_end [(2, _), (3, _)] ⟨rfl, rfl, trivial⟩ ?_
    refine w_ret ?_
    refine ⟨_, _, fun a ha hh => results_tmps Try.results47 rfl a ha _, List.Sublist.refl _, ?_⟩
    exact sort_bad (by rw [sortErr, if_pos (by omega)]) (by omega)
  · skip
    simp only [Bool.or_eq_true, decide_eq_true_eq] at hc1
    have hne : ¬ (l.length = 0 ∨ 8 < l.length) := by omega
    refine w_skip ?_
    refine w_seq ?_
    refine w_seq ?_
    refine w_reg ?_
    refine wl_f (f_move rfl) ?_
    refine wl_f (f_len rfl Try.underlying37) ?_
    refine wl_f (f_move rfl) ?_
    refine wl_end [(0, _), (19, _), (20, _), (21, _)] ⟨rfl, rfl, rfl, rfl, trivial⟩ ?_
    refine w_block ?_
    refine w_loop (fun k m H w => ∃ i : Nat, m = [(0, .slice A l.length c), (19, .slice A l.length c), (20, .int .i64 l.length), (21, .int .i64 i)] ∧ H = [] ∧ k + i = l.length ∧ ∀ x ∈ l.take i, validE x = 0) l.length ⟨0, rfl, rfl, rfl, by simp⟩ ?_
    rintro k _ _ w1 ⟨i, rfl, rfl, hk, hv⟩
    refine w_seq ?_
    refine w_reg ?_
    refine wl_f (f_lss rfl rfl) ?_
    refine wl_end [(0, _), (19, _), (20, _), (21, _), (22, _)] ⟨rfl, rfl, rfl, rfl, rfl, trivial⟩ ?_
    refine w_seq ?_
    refine w_ifd rfl (fun hc2 => ?_) (fun hc2 => ?_)
    · skip
      obtain ⟨t, ht⟩ : ∃ t, l[i]? = some t := ⟨l[i]'(by omega), List.getElem?_eq_getElem (by omega)⟩
      obtain ⟨b, off, rfl, _, _, hcell⟩ := hA.resolve_left (by omega)
      refine w_skip ?_
      refine w_seq ?_
      refine w_block ?_
      refine w_seq ?_
      refine w_reg ?_
      refine wl_f (f_indexAddr 2 rfl rfl Try.underlying37 (by kernel_rfl) rfl (by omega)) ?_
      refine wl_f (f_loadso (cs := [.string t.1, .string t.2]) rfl Try.underlying52 rfl (by kernel_rfl) (tcells_at hcell ht) id) ?_
      refine wl_e (e_allocs [.string ByteArray.empty, .string ByteArray.empty] (by kernel_rfl)) ?_
      rintro _ _ w5_2 ⟨b5_2, rfl, rfl⟩
      (first | refine wl_e0 (e_store0 (us := [_, _]) rfl rfl rfl (by kernel_rfl) (by simp [Value.oneCell']) rfl rfl) ?_ | refine wl_e0 (e_store1 (us := [_, _]) rfl rfl rfl (by kernel_rfl) (by simp [Value.oneCell']) rfl rfl) ?_ | refine wl_e0 (e_store2 (us := [_, _]) rfl rfl rfl (by kernel_rfl) (by simp [Value.oneCell']) rfl rfl) ?_ | refine wl_e0 (e_store3 (us := [_, _]) rfl rfl rfl (by kernel_rfl) (by simp [Value.oneCell']) rfl rfl) ?_)
      rintro _ _ w5_3 rfl
      refine wl_end [(0, _), (5, _), (19, _), (20, _), (21, _)] ⟨rfl, rfl, rfl, rfl, rfl, trivial⟩ ?_
      refine w_seq ?_
      refine w_reg ?_
      (first | refine wl_f (f_loadsb (cs := [_, _]) 0 rfl Try.underlying52 rfl (by kernel_rfl) rfl rfl) ?_ | refine wl_f (f_loadsb (cs := [_, _]) 1 rfl Try.underlying52 rfl (by kernel_rfl) rfl rfl) ?_ | refine wl_f (f_loadsb (cs := [_, _]) 2 rfl Try.underlying52 rfl (by kernel_rfl) rfl rfl) ?_ | refine wl_f (f_loadsb (cs := [_, _]) 3 rfl Try.underlying52 rfl (by kernel_rfl) rfl rfl) ?_ | refine wl_f (f_loadsb (cs := [_, _]) 4 rfl Try.underlying52 rfl (by kernel_rfl) rfl rfl) ?_ | refine wl_f (f_loadsb (cs := [_, _]) 5 rfl Try.underlying52 rfl (by kernel_rfl) rfl rfl) ?_ | refine wl_f (f_loadsb (cs := [_, _]) 6 rfl Try.underlying52 rfl (by kernel_rfl) rfl rfl) ?_)
      refine wl_e (e_call0 rfl Try.func53 (by kernel_rfl) (fun w hh => rvalid_spec t w (hsz t (List.mem_of_getElem? ht)))) ?_
      rintro _ _ w2 ⟨_, rfl, rfl, rfl⟩
      refine wl_f (f_assign rfl) ?_
      refine wl_end [(0, _), (6, _), (19, _), (20, _), (21, _)] ⟨rfl, rfl, rfl, rfl, rfl, trivial⟩ ?_
      refine w_seq ?_
      refine w_reg ?_
      refine wl_f (f_move rfl) ?_
      refine wl_f (f_neq rfl rfl) ?_
      refine wl_end [(0, _), (6, _), (19, _), (20, _), (21, _), (28, _)] ⟨rfl, rfl, rfl, rfl, rfl, rfl, trivial⟩ ?_
      refine w_ifd rfl (fun hc3 => ?_) (fun hc3 => ?_)
      · skip
        refine w_drop [] (List.nil_sublist _) ?_
        refine w_nilrow 52 2 ?_
        refine w_seq ?_
        refine w_reg ?_
        refine wl_f (f_move rfl) ?_
        refine wl_f (f_assign rfl) ?_
        refine wl_f (f_assign rfl) ?_
        refine wl_end [(2, _), (3, _)] ⟨rfl, rfl, trivial⟩ ?_
        refine w_ret ?_
        refine ⟨_, _, fun a ha hh => results_tmps Try.results47 rfl a ha _, List.Sublist.refl _, ?_⟩
        exact sort_bad (sortErr_bad hne i t ht hv hc3) hc3
      · skip
        refine w_drop [] (List.nil_sublist _) ?_
        refine w_skip ?_
        refine w_reg ?_
        refine wl_f (f_add rfl rfl (by omega)) ?_
        refine wl_f (f_move rfl) ?_
        refine wl_end [(0, _), (19, _), (20, _), (21, _)] ⟨rfl, rfl, rfl, rfl, trivial⟩ ?_
        exact ⟨k - 1, by omega, i + 1, rfl, rfl, by omega, take_all_valid ht hv (by simpa using hc3)⟩
    · skip
      rw [List.take_of_length_le (by omega)] at hv
      refine w_exit0 ?_
      refine w_seq ?_
      refine w_reg ?_
      refine wl_f (f_assign rfl) ?_
      refine wl_end [(0, _), (7, _)] ⟨rfl, rfl, trivial⟩ ?_
      refine w_seq ?_
      refine w_seq ?_
      refine w_reg ?_
      refine wl_f (f_move rfl) ?_
      refine wl_f (f_len rfl Try.underlying37) ?_
      refine wl_f (f_move rfl) ?_
      refine wl_end [(7, _), (31, _), (32, _), (33, _)] ⟨rfl, rfl, rfl, rfl, trivial⟩ ?_
      refine w_block ?_
      refine w_nilrow 52 2 ?_
      refine w_loop (fun k m H w => ∃ (i : Nat) (u : Value), m = [(7, u), (31, .slice A l.length c), (32, .int .i64 l.length), (33, .int .i64 i)] ∧ H = [row u 52 2 (isort (l.take i)).length (tcells (isort (l.take i)))] ∧
        k + i = l.length ∧ (names (l.take i)).Nodup) l.length ⟨0, _, rfl, rfl, rfl, List.Pairwise.nil⟩ ?_
      rintro k2 _ _ w3 ⟨i2, u, rfl, rfl, hk2, hnd⟩
      refine w_with fun hh => ?_
      obtain ⟨U, cu, rfl⟩ := row_slice hh (i := 0) rfl
      have hcu : (isort (l.take i2)).length ≤ cu := by
        obtain ⟨_, _, e, _, h, _⟩ := Rd.held0 hh (i := 0) rfl
        injection e with _ _ e
        subst e
        exact h
      clear hh
      have hol : (isort (l.take i2)).length = i2 := by rw [(isort_perm _).length_eq, List.length_take]; omega
      have hsrt := isort_srt _ hnd
      have hmem : ∀ x, x ∈ isort (l.take i2) ↔ x ∈ l.take i2 := fun x => (isort_perm _).mem_iff
      have hisn : ∀ t, isort (l.take i2 ++ [t]) = ins t (isort (l.take i2)) := fun t => isort_snoc _ t
      have hfull : l.length ≤ i2 → isort (l.take i2) = isort l := fun h => by rw [List.take_of_length_le h]
      generalize isort (l.take i2) = out at hol hsrt hmem hisn hcu hfull ⊢
      refine w_seq ?_
      refine w_reg ?_
      refine wl_f (f_lss rfl rfl) ?_
      refine wl_end [(7, _), (31, _), (32, _), (33, _), (34, _)] ⟨rfl, rfl, rfl, rfl, rfl, trivial⟩ ?_
      refine w_seq ?_
      refine w_ifd rfl (fun hc4 => ?_) (fun hc4 => ?_)
      · skip
        obtain ⟨t, ht⟩ : ∃ t, l[i2]? = some t := ⟨l[i2]'(by omega), List.getElem?_eq_getElem (by omega)⟩
        obtain ⟨b, off, rfl, _, _, hcell⟩ := hA.resolve_left (by omega)
        refine w_skip ?_
        refine w_seq ?_
        refine w_block ?_
        refine w_seq ?_
        refine w_reg ?_
        refine wl_f (f_indexAddr 2 rfl rfl Try.underlying37 (by kernel_rfl) rfl (by omega)) ?_
        refine wl_f (f_loadso (cs := [.string t.1, .string t.2]) rfl Try.underlying52 rfl (by kernel_rfl) (tcells_at hcell ht) id) ?_
        refine wl_e (e_allocs [.string ByteArray.empty, .string ByteArray.empty] (by kernel_rfl)) ?_
        rintro _ _ w13_2 ⟨b13_2, rfl, rfl⟩
        (first | refine wl_e0 (e_store0 (us := [_, _]) rfl rfl rfl (by kernel_rfl) (by simp [Value.oneCell']) rfl rfl) ?_ | refine wl_e0 (e_store1 (us := [_, _]) rfl rfl rfl (by kernel_rfl) (by simp [Value.oneCell']) rfl rfl) ?_ | refine wl_e0 (e_store2 (us := [_, _]) rfl rfl rfl (by kernel_rfl) (by simp [Value.oneCell']) rfl rfl) ?_ | refine wl_e0 (e_store3 (us := [_, _]) rfl rfl rfl (by kernel_rfl) (by simp [Value.oneCell']) rfl rfl) ?_)
        rintro _ _ w13_3 rfl
        refine wl_end [(7, _), (9, _), (31, _), (32, _), (33, _)] ⟨rfl, rfl, rfl, rfl, rfl, trivial⟩ ?_
        refine w_seq ?_
        refine w_reg ?_
        refine wl_f (f_assign rfl) ?_
        refine wl_end [(7, _), (9, _), (10, _), (31, _), (32, _), (33, _)] ⟨rfl, rfl, rfl, rfl, rfl, rfl, trivial⟩ ?_
        refine w_seq ?_
        refine w_block ?_
        refine w_loop (fun k m H w => ∃ q : Nat, m = [(7, .slice U out.length cu), (9, .pointer (some ⟨b13_2, 0, .none⟩)), (10, .int .i64 q), (31, .slice (some ⟨b, off, .none⟩) l.length c), (32, .int .i64 l.length), (33, .int .i64 i2)] ∧
          H = [blk b13_2 [.string t.1, .string t.2] 52, row (.slice U out.length cu) 52 2 out.length (tcells out)] ∧ k + q = out.length ∧ ∀ x ∈ out.take q, nlt x.1 t.1 = true) out.length ⟨0, rfl, rfl, rfl, by simp⟩ ?_
        rintro k3 _ _ w4 ⟨q, rfl, rfl, hk3, hlt⟩
        refine w_seq ?_
        refine w_seq ?_
        refine w_post (fun m H w' => ∃ c' : Bool, m = [(7, .slice U out.length cu), (9, .pointer (some ⟨b13_2, 0, .none⟩)), (10, .int .i64 q), (31, .slice (some ⟨b, off, .none⟩) l.length c), (32, .int .i64 l.length), (33, .int .i64 i2), (50, .bool c')] ∧
          H = [blk b13_2 [.string t.1, .string t.2] 52, row (.slice U out.length cu) 52 2 out.length (tcells out)] ∧ (c' = true → ∃ x, out[q]? = some x ∧ nlt x.1 t.1 = true) ∧ (c' = false → ∀ x, out[q]? = some x → nlt x.1 t.1 = false)) ?_ ?_
        · by_cases hG15 : (q : Int) < (out.length : Int)
          · skip
            obtain ⟨x, hx⟩ : ∃ t, out[q]? = some t := ⟨out[q]'(by omega), List.getElem?_eq_getElem (by omega)⟩
            refine w_with fun hh => ?_
            obtain ⟨g, cap, e⟩ := row_form hh (i := 1) rfl (by omega)
            injection e with e1 _ e3
            subst e1; subst e3
            clear hh
            refine w_draw [(0, true), (1, true), (2, true), (3, true), (4, true), (5, true), (6, true), (7, true), (8, true), (9, true), (10, true), (11, true), (12, true), (13, true)] (_) ([]) mixed (by kernel_rfl) (by kernel_rfl) rfl (perm_all _) (fun w15_ => ?_)
            refine wd_f rfl (f_move rfl) ?_
            refine wd_f rfl (f_move rfl) ?_
            refine wd_f rfl (f_len rfl Try.underlying37) ?_
            refine wd_f rfl (f_eqv (f_lss rfl rfl) (congrArg Value.bool (decide_eq_true hG15))) ?_
            refine wd_f rfl (f_move rfl) ?_
            refine wd_gf rfl rfl rfl (f_move rfl) ?_
            refine wd_gf rfl rfl rfl (f_move rfl) ?_
            refine wd_gf rfl rfl rfl (f_indexAddr 2 (i := q) rfl rfl Try.underlying37 (by kernel_rfl) rfl (by omega)) ?_
            refine wd_gf rfl rfl rfl (f_fieldAddr 0 rfl Try.underlying52 rfl rfl (by kernel_rfl)) ?_
            refine wd_gf rfl rfl rfl (f_loadr (v := .string x.1) 1 rfl Try.underlying9 rfl rfl (by have := (tcells_get out _ x hx).1; simpa using this)) ?_
            refine wd_gf rfl rfl rfl (f_fieldAddr 0 rfl Try.underlying52 rfl rfl (by kernel_rfl)) ?_
            refine wd_gf rfl rfl rfl (f_loadb 0 rfl Try.underlying9 rfl rfl rfl) ?_
            refine wd_gf rfl rfl rfl (f_lsss rfl rfl) ?_
            refine wd_f rfl (f_pick rfl rfl rfl) ?_
            refine wd_end [(7, _), (9, _), (10, _), (31, _), (32, _), (33, _), (50, _)] ⟨rfl, rfl, rfl, rfl, rfl, rfl, rfl, trivial⟩ ?_
            exact ⟨_, rfl, rfl, fun h => ⟨x, hx, h⟩, fun h y hy => by rw [hx] at hy; injection hy with hy; subst hy; exact h⟩
          · skip
            refine w_draw [(0, true), (1, true), (2, true), (3, true), (4, true), (5, true), (6, true), (7, true), (8, true), (9, true), (10, true), (11, true), (12, true), (13, true)] (_) ([]) mixed (by kernel_rfl) (by kernel_rfl) rfl (perm_all _) (fun w15_ => ?_)
            refine wd_f rfl (f_move rfl) ?_
            refine wd_f rfl (f_move rfl) ?_
            refine wd_f rfl (f_len rfl Try.underlying37) ?_
            refine wd_f rfl (f_eqv (f_lss rfl rfl) (congrArg Value.bool (decide_eq_false hG15))) ?_
            refine wd_f rfl (f_move rfl) ?_
            refine wd_gs rfl rfl rfl ?_
            refine wd_gs rfl rfl rfl ?_
            refine wd_gs rfl rfl rfl ?_
            refine wd_gs rfl rfl rfl ?_
            refine wd_gs rfl rfl rfl ?_
            refine wd_gs rfl rfl rfl ?_
            refine wd_gs rfl rfl rfl ?_
            refine wd_gs rfl rfl rfl ?_
            refine wd_f rfl (f_pick rfl rfl rfl) ?_
            refine wd_end [(7, _), (9, _), (10, _), (31, _), (32, _), (33, _), (50, _)] ⟨rfl, rfl, rfl, rfl, rfl, rfl, rfl, trivial⟩ ?_
            exact ⟨false, rfl, rfl, fun h => (by cases h), fun _ x hx => by have := (List.getElem?_eq_some_iff.1 hx).1; omega⟩
        rintro _ _ w5 ⟨c', rfl, rfl, hct, hcf⟩
        refine w_ifb rfl (fun hc5 => ?_) (fun hc5 => ?_)
        · skip
          refine w_skip ?_
          refine w_block ?_
          refine w_reg ?_
          refine wl_f (f_move rfl) ?_
          refine wl_f (f_add rfl rfl (by omega)) ?_
          refine wl_f (f_assign rfl) ?_
          refine wl_end [(7, _), (9, _), (10, _), (31, _), (32, _), (33, _)] ⟨rfl, rfl, rfl, rfl, rfl, rfl, trivial⟩ ?_
          obtain ⟨x, hx, hxt⟩ := hct hc5
          have hq := (List.getElem?_eq_some_iff.1 hx).1
          refine ⟨k3 - 1, by omega, q + 1, rfl, rfl, by omega, ?_⟩
          rw [take_snoc out q x hx]
          intro y hy
          rcases List.mem_append.1 hy with hy | hy
          · exact hlt y hy
          · rw [List.mem_singleton] at hy; subst hy; exact hxt
        · skip
          have hq := hcf (by simpa using hc5)
          have hins := ins_split t out q hlt hq
          refine w_exit0 ?_
          refine w_seq ?_
          refine w_seq ?_
          refine w_post (fun m H w' => ∃ c' : Bool, m = [(7, .slice U out.length cu), (9, .pointer (some ⟨b13_2, 0, .none⟩)), (10, .int .i64 q), (31, .slice (some ⟨b, off, .none⟩) l.length c), (32, .int .i64 l.length), (33, .int .i64 i2), (66, .bool c')] ∧
            H = [blk b13_2 [.string t.1, .string t.2] 52, row (.slice U out.length cu) 52 2 out.length (tcells out)] ∧ (c' = true → ∃ x, out[q]? = some x ∧ x.1 = t.1) ∧ (c' = false → ∀ x, out[q]? = some x → x.1 ≠ t.1)) ?_ ?_
          · by_cases hG17 : (q : Int) < (out.length : Int)
            · skip
              obtain ⟨x, hx⟩ : ∃ t, out[q]? = some t := ⟨out[q]'(by omega), List.getElem?_eq_getElem (by omega)⟩
              refine w_with fun hh => ?_
              obtain ⟨g, cap, e⟩ := row_form hh (i := 1) rfl (by omega)
              injection e with e1 _ e3
              subst e1; subst e3
              clear hh
              refine w_draw [(0, true), (1, true), (2, true), (3, true), (4, true), (5, true), (6, true), (7, true), (8, true), (9, true), (10, true), (11, true), (12, true), (13, true)] (_) ([]) mixed (by kernel_rfl) (by kernel_rfl) rfl (perm_all _) (fun w17_ => ?_)
              refine wd_f rfl (f_move rfl) ?_
              refine wd_f rfl (f_move rfl) ?_
              refine wd_f rfl (f_len rfl Try.underlying37) ?_
              refine wd_f rfl (f_eqv (f_lss rfl rfl) (congrArg Value.bool (decide_eq_true hG17))) ?_
              refine wd_f rfl (f_move rfl) ?_
              refine wd_gf rfl rfl rfl (f_move rfl) ?_
              refine wd_gf rfl rfl rfl (f_move rfl) ?_
              refine wd_gf rfl rfl rfl (f_indexAddr 2 (i := q) rfl rfl Try.underlying37 (by kernel_rfl) rfl (by omega)) ?_
              refine wd_gf rfl rfl rfl (f_fieldAddr 0 rfl Try.underlying52 rfl rfl (by kernel_rfl)) ?_
              refine wd_gf rfl rfl rfl (f_loadr (v := .string x.1) 1 rfl Try.underlying9 rfl rfl (by have := (tcells_get out _ x hx).1; simpa using this)) ?_
              refine wd_gf rfl rfl rfl (f_fieldAddr 0 rfl Try.underlying52 rfl rfl (by kernel_rfl)) ?_
              refine wd_gf rfl rfl rfl (f_loadb 0 rfl Try.underlying9 rfl rfl rfl) ?_
              refine wd_gf rfl rfl rfl (f_eqls rfl rfl) ?_
              refine wd_f rfl (f_pick rfl rfl rfl) ?_
              refine wd_end [(7, _), (9, _), (10, _), (31, _), (32, _), (33, _), (66, _)] ⟨rfl, rfl, rfl, rfl, rfl, rfl, rfl, trivial⟩ ?_
              exact ⟨_, rfl, rfl, fun h => ⟨x, hx, by simpa using h⟩, fun h y hy => by rw [hx] at hy; injection hy with hy; subst hy; simpa using h⟩
            · skip
              refine w_draw [(0, true), (1, true), (2, true), (3, true), (4, true), (5, true), (6, true), (7, true), (8, true), (9, true), (10, true), (11, true), (12, true), (13, true)] (_) ([]) mixed (by kernel_rfl) (by kernel_rfl) rfl (perm_all _) (fun w17_ => ?_)
              refine wd_f rfl (f_move rfl) ?_
              refine wd_f rfl (f_move rfl) ?_
              refine wd_f rfl (f_len rfl Try.underlying37) ?_
              refine wd_f rfl (f_eqv (f_lss rfl rfl) (congrArg Value.bool (decide_eq_false hG17))) ?_
              refine wd_f rfl (f_move rfl) ?_
              refine wd_gs rfl rfl rfl ?_
              refine wd_gs rfl rfl rfl ?_
              refine wd_gs rfl rfl rfl ?_
              refine wd_gs rfl rfl rfl ?_
              refine wd_gs rfl rfl rfl ?_
              refine wd_gs rfl rfl rfl ?_
              refine wd_gs rfl rfl rfl ?_
              refine wd_gs rfl rfl rfl ?_
              refine wd_f rfl (f_pick rfl rfl rfl) ?_
              refine wd_end [(7, _), (9, _), (10, _), (31, _), (32, _), (33, _), (66, _)] ⟨rfl, rfl, rfl, rfl, rfl, rfl, rfl, trivial⟩ ?_
              exact ⟨false, rfl, rfl, fun h => (by cases h), fun _ x hx => by have := (List.getElem?_eq_some_iff.1 hx).1; omega⟩
          rintro _ _ w6 ⟨c', rfl, rfl, hdt, hdf⟩
          refine w_ifb rfl (fun hc6 => ?_) (fun hc6 => ?_)
          · skip
            refine w_drop [] (List.nil_sublist _) ?_
            refine w_nilrow 52 2 ?_
            refine w_seq ?_
            refine w_reg ?_
            refine wl_f (f_assign rfl) ?_
            refine wl_f (f_assign rfl) ?_
            refine wl_end [(2, _), (3, _)] ⟨rfl, rfl, trivial⟩ ?_
            refine w_ret ?_
            refine ⟨_, _, fun a ha hh => results_tmps Try.results47 rfl a ha _, List.Sublist.refl _, ?_⟩
            refine sort_bad (e := 5) ?_ (by omega)
            rw [sortErr_all hne hv, if_neg]
            intro hnd'
            obtain ⟨x, hx, hxt⟩ := hdt hc6
            have hx' := (hmem x).1 (List.mem_of_getElem? hx)
            have hs : (l.take (i2 + 1)).Sublist l := List.take_sublist _ _
            rw [take_snoc l i2 t ht] at hs
            have h3 := (hs.map Prod.fst).nodup hnd'
            rw [List.map_append, List.nodup_append] at h3
            exact h3.2.2 x.1 (List.mem_map_of_mem hx') t.1 (by simp) hxt
          · skip
            have hdf := hdf (by simpa using hc6)
            have hq8 : q ≤ out.length ∧ out.length < 8 := by omega
            refine w_skip ?_
            refine w_post (fun m H w' => ∃ u', m = [(7, u'), (31, .slice (some ⟨b, off, .none⟩) l.length c), (32, .int .i64 l.length), (33, .int .i64 i2)] ∧ H = [row u' 52 2 (out.length + 1) (tcells (out.take q ++ t :: out.drop q))]) ?_ ?_
            · skip
              refine w_drawt (.fl 1 (.fl 2 (.fl 3 (.fl 5 (.fl 8 (.fl 9 (.fl 10 (.two 0 (.two 4 (.ef 6 (.ef 7 (.ef 11 (.fl 12 .done)))) 6 (.ef 4 (.ef 7 (.ef 11 (.fl 12 .done))))) 6 (.ef 0 (.ef 4 (.ef 7 (.ef 11 (.fl 12 .done))))))))))))) (_) ([]) mixed (by kernel_rfl) (by kernel_rfl) rfl (perm_all _) (fun w19_ => ?_)
              refine wt_f rfl (f_move rfl) ?_
              refine wt_f rfl (f_move rfl) ?_
              refine wt_f rfl (f_sliceA 2 (l := 0) (u := q) rfl Try.underlying37 (by kernel_rfl) rfl ⟨_, rfl⟩ (by omega) (by omega)) ?_
              (first | refine wt_f rfl (f_loadsb (cs := [_, _]) 0 rfl Try.underlying52 rfl (by kernel_rfl) rfl rfl) ?_ | refine wt_f rfl (f_loadsb (cs := [_, _]) 1 rfl Try.underlying52 rfl (by kernel_rfl) rfl rfl) ?_ | refine wt_f rfl (f_loadsb (cs := [_, _]) 2 rfl Try.underlying52 rfl (by kernel_rfl) rfl rfl) ?_ | refine wt_f rfl (f_loadsb (cs := [_, _]) 3 rfl Try.underlying52 rfl (by kernel_rfl) rfl rfl) ?_ | refine wt_f rfl (f_loadsb (cs := [_, _]) 4 rfl Try.underlying52 rfl (by kernel_rfl) rfl rfl) ?_ | refine wt_f rfl (f_loadsb (cs := [_, _]) 5 rfl Try.underlying52 rfl (by kernel_rfl) rfl rfl) ?_ | refine wt_f rfl (f_loadsb (cs := [_, _]) 6 rfl Try.underlying52 rfl (by kernel_rfl) rfl rfl) ?_)
              refine wt_f rfl (f_move rfl) ?_
              refine wt_f rfl (f_move rfl) ?_
              refine wt_f rfl (f_sliceA 2 (l := q) (u := out.length) rfl Try.underlying37 (by kernel_rfl) ⟨_, rfl⟩ rfl (by omega) (by omega)) ?_
              refine wt_two ?_ ?_
              · skip
                refine es_e rfl (e_lit0 t37) ?_
                rintro _ _ w19_0 ⟨b19_0, rfl, rfl⟩
                refine ⟨_, List.perm_middle.symm, ?_⟩
                refine wt_two ?_ ?_
                · skip
                  (first | refine es_e rfl (e_app0 t37 rfl rfl (fun w hh => (Rd.held0 hh (i := 1) rfl).cut (l := 0) (u := q) (by omega) (by omega)) (cut_one _ _ _) (by omega) (by omega)) ?_ | refine es_e rfl (e_app1 t37 rfl rfl (fun w hh => (Rd.held0 hh (i := 1) rfl).cut (l := 0) (u := q) (by omega) (by omega)) (cut_one _ _ _) (by omega) (by omega)) ?_ | refine es_e rfl (e_app2 t37 rfl rfl (fun w hh => (Rd.held0 hh (i := 1) rfl).cut (l := 0) (u := q) (by omega) (by omega)) (cut_one _ _ _) (by omega) (by omega)) ?_ | refine es_e rfl (e_app3 t37 rfl rfl (fun w hh => (Rd.held0 hh (i := 1) rfl).cut (l := 0) (u := q) (by omega) (by omega)) (cut_one _ _ _) (by omega) (by omega)) ?_)
                  rintro v19_4 _ w19_4 rfl
                  refine ⟨_, List.Perm.refl _, ?_⟩
                  refine wt_ef (es_e rfl (e_lit1 (cs := [_, _]) t37 rfl rfl rfl (by omega)) ?_)
                  rintro _ _ w19_6 ⟨b19_6, rfl, rfl⟩
                  refine ⟨_, List.perm_middle.symm, ?_⟩
                  (first | refine wt_ef (es_e rfl (e_app0 t37 rfl rfl (fun w hh => (by first | exact Rd.held0 hh (i := 2) rfl | exact Rd.held0 hh (i := 3) rfl)) (by simp [Value.oneCell']) (by omega) (by omega)) ?_) | refine wt_ef (es_e rfl (e_app1 t37 rfl rfl (fun w hh => (by first | exact Rd.held0 hh (i := 2) rfl | exact Rd.held0 hh (i := 3) rfl)) (by simp [Value.oneCell']) (by omega) (by omega)) ?_) | refine wt_ef (es_e rfl (e_app2 t37 rfl rfl (fun w hh => (by first | exact Rd.held0 hh (i := 2) rfl | exact Rd.held0 hh (i := 3) rfl)) (by simp [Value.oneCell']) (by omega) (by omega)) ?_) | refine wt_ef (es_e rfl (e_app3 t37 rfl rfl (fun w hh => (by first | exact Rd.held0 hh (i := 2) rfl | exact Rd.held0 hh (i := 3) rfl)) (by simp [Value.oneCell']) (by omega) (by omega)) ?_))
                  rintro v19_7 _ w19_7 rfl
                  refine ⟨_, List.Perm.refl _, ?_⟩
                  (first | refine wt_ef (es_e rfl (e_app0 t37 rfl rfl (fun w hh => (Rd.held0 hh (i := 1) rfl).cut (l := q) (u := out.length) (by omega) (by omega)) (cut_one _ _ _) (by omega) (by omega)) ?_) | refine wt_ef (es_e rfl (e_app1 t37 rfl rfl (fun w hh => (Rd.held0 hh (i := 1) rfl).cut (l := q) (u := out.length) (by omega) (by omega)) (cut_one _ _ _) (by omega) (by omega)) ?_) | refine wt_ef (es_e rfl (e_app2 t37 rfl rfl (fun w hh => (Rd.held0 hh (i := 1) rfl).cut (l := q) (u := out.length) (by omega) (by omega)) (cut_one _ _ _) (by omega) (by omega)) ?_) | refine wt_ef (es_e rfl (e_app3 t37 rfl rfl (fun w hh => (Rd.held0 hh (i := 1) rfl).cut (l := q) (u := out.length) (by omega) (by omega)) (cut_one _ _ _) (by omega) (by omega)) ?_))
                  rintro v19_11 _ w19_11 rfl
                  refine ⟨_, List.Perm.refl _, ?_⟩
                  refine wt_f rfl (f_assign rfl) ?_
                  refine wt_endp [(7, _), (31, _), (32, _), (33, _)] [3] ⟨rfl, rfl, rfl, rfl, trivial⟩ rfl ?_
                  exact ⟨_, rfl, by rw [splice_cells out t q, show 0 + (q - 0) + 1 + (out.length - q) = out.length + 1 by omega]⟩
                · skip
                  refine es_e rfl (e_lit1 (cs := [_, _]) t37 rfl rfl rfl (by omega)) ?_
                  rintro _ _ w19_6 ⟨b19_6, rfl, rfl⟩
                  refine ⟨_, List.perm_middle.symm, ?_⟩
                  (first | refine wt_ef (es_e rfl (e_app0 t37 rfl rfl (fun w hh => (Rd.held0 hh (i := 1) rfl).cut (l := 0) (u := q) (by omega) (by omega)) (cut_one _ _ _) (by omega) (by omega)) ?_) | refine wt_ef (es_e rfl (e_app1 t37 rfl rfl (fun w hh => (Rd.held0 hh (i := 1) rfl).cut (l := 0) (u := q) (by omega) (by omega)) (cut_one _ _ _) (by omega) (by omega)) ?_) | refine wt_ef (es_e rfl (e_app2 t37 rfl rfl (fun w hh => (Rd.held0 hh (i := 1) rfl).cut (l := 0) (u := q) (by omega) (by omega)) (cut_one _ _ _) (by omega) (by omega)) ?_) | refine wt_ef (es_e rfl (e_app3 t37 rfl rfl (fun w hh => (Rd.held0 hh (i := 1) rfl).cut (l := 0) (u := q) (by omega) (by omega)) (cut_one _ _ _) (by omega) (by omega)) ?_))
                  rintro v19_4 _ w19_4 rfl
                  refine ⟨_, List.Perm.refl _, ?_⟩
                  (first | refine wt_ef (es_e rfl (e_app0 t37 rfl rfl (fun w hh => (by first | exact Rd.held0 hh (i := 2) rfl | exact Rd.held0 hh (i := 3) rfl)) (by simp [Value.oneCell']) (by omega) (by omega)) ?_) | refine wt_ef (es_e rfl (e_app1 t37 rfl rfl (fun w hh => (by first | exact Rd.held0 hh (i := 2) rfl | exact Rd.held0 hh (i := 3) rfl)) (by simp [Value.oneCell']) (by omega) (by omega)) ?_) | refine wt_ef (es_e rfl (e_app2 t37 rfl rfl (fun w hh => (by first | exact Rd.held0 hh (i := 2) rfl | exact Rd.held0 hh (i := 3) rfl)) (by simp [Value.oneCell']) (by omega) (by omega)) ?_) | refine wt_ef (es_e rfl (e_app3 t37 rfl rfl (fun w hh => (by first | exact Rd.held0 hh (i := 2) rfl | exact Rd.held0 hh (i := 3) rfl)) (by simp [Value.oneCell']) (by omega) (by omega)) ?_))
                  rintro v19_7 _ w19_7 rfl
                  refine ⟨_, List.Perm.refl _, ?_⟩
                  (first | refine wt_ef (es_e rfl (e_app0 t37 rfl rfl (fun w hh => (Rd.held0 hh (i := 1) rfl).cut (l := q) (u := out.length) (by omega) (by omega)) (cut_one _ _ _) (by omega) (by omega)) ?_) | refine wt_ef (es_e rfl (e_app1 t37 rfl rfl (fun w hh => (Rd.held0 hh (i := 1) rfl).cut (l := q) (u := out.length) (by omega) (by omega)) (cut_one _ _ _) (by omega) (by omega)) ?_) | refine wt_ef (es_e rfl (e_app2 t37 rfl rfl (fun w hh => (Rd.held0 hh (i := 1) rfl).cut (l := q) (u := out.length) (by omega) (by omega)) (cut_one _ _ _) (by omega) (by omega)) ?_) | refine wt_ef (es_e rfl (e_app3 t37 rfl rfl (fun w hh => (Rd.held0 hh (i := 1) rfl).cut (l := q) (u := out.length) (by omega) (by omega)) (cut_one _ _ _) (by omega) (by omega)) ?_))
                  rintro v19_11 _ w19_11 rfl
                  refine ⟨_, List.Perm.refl _, ?_⟩
                  refine wt_f rfl (f_assign rfl) ?_
                  refine wt_endp [(7, _), (31, _), (32, _), (33, _)] [3] ⟨rfl, rfl, rfl, rfl, trivial⟩ rfl ?_
                  exact ⟨_, rfl, by rw [splice_cells out t q, show 0 + (q - 0) + 1 + (out.length - q) = out.length + 1 by omega]⟩
              · skip
                refine es_e rfl (e_lit1 (cs := [_, _]) t37 rfl rfl rfl (by omega)) ?_
                rintro _ _ w19_6 ⟨b19_6, rfl, rfl⟩
                refine ⟨_, List.perm_middle.symm, ?_⟩
                refine wt_ef (es_e rfl (e_lit0 t37) ?_)
                rintro _ _ w19_0 ⟨b19_0, rfl, rfl⟩
                refine ⟨_, List.perm_middle.symm, ?_⟩
                (first | refine wt_ef (es_e rfl (e_app0 t37 rfl rfl (fun w hh => (Rd.held0 hh (i := 1) rfl).cut (l := 0) (u := q) (by omega) (by omega)) (cut_one _ _ _) (by omega) (by omega)) ?_) | refine wt_ef (es_e rfl (e_app1 t37 rfl rfl (fun w hh => (Rd.held0 hh (i := 1) rfl).cut (l := 0) (u := q) (by omega) (by omega)) (cut_one _ _ _) (by omega) (by omega)) ?_) | refine wt_ef (es_e rfl (e_app2 t37 rfl rfl (fun w hh => (Rd.held0 hh (i := 1) rfl).cut (l := 0) (u := q) (by omega) (by omega)) (cut_one _ _ _) (by omega) (by omega)) ?_) | refine wt_ef (es_e rfl (e_app3 t37 rfl rfl (fun w hh => (Rd.held0 hh (i := 1) rfl).cut (l := 0) (u := q) (by omega) (by omega)) (cut_one _ _ _) (by omega) (by omega)) ?_))
                rintro v19_4 _ w19_4 rfl
                refine ⟨_, List.Perm.refl _, ?_⟩
                (first | refine wt_ef (es_e rfl (e_app0 t37 rfl rfl (fun w hh => (by first | exact Rd.held0 hh (i := 2) rfl | exact Rd.held0 hh (i := 3) rfl)) (by simp [Value.oneCell']) (by omega) (by omega)) ?_) | refine wt_ef (es_e rfl (e_app1 t37 rfl rfl (fun w hh => (by first | exact Rd.held0 hh (i := 2) rfl | exact Rd.held0 hh (i := 3) rfl)) (by simp [Value.oneCell']) (by omega) (by omega)) ?_) | refine wt_ef (es_e rfl (e_app2 t37 rfl rfl (fun w hh => (by first | exact Rd.held0 hh (i := 2) rfl | exact Rd.held0 hh (i := 3) rfl)) (by simp [Value.oneCell']) (by omega) (by omega)) ?_) | refine wt_ef (es_e rfl (e_app3 t37 rfl rfl (fun w hh => (by first | exact Rd.held0 hh (i := 2) rfl | exact Rd.held0 hh (i := 3) rfl)) (by simp [Value.oneCell']) (by omega) (by omega)) ?_))
                rintro v19_7 _ w19_7 rfl
                refine ⟨_, List.Perm.refl _, ?_⟩
                (first | refine wt_ef (es_e rfl (e_app0 t37 rfl rfl (fun w hh => (Rd.held0 hh (i := 1) rfl).cut (l := q) (u := out.length) (by omega) (by omega)) (cut_one _ _ _) (by omega) (by omega)) ?_) | refine wt_ef (es_e rfl (e_app1 t37 rfl rfl (fun w hh => (Rd.held0 hh (i := 1) rfl).cut (l := q) (u := out.length) (by omega) (by omega)) (cut_one _ _ _) (by omega) (by omega)) ?_) | refine wt_ef (es_e rfl (e_app2 t37 rfl rfl (fun w hh => (Rd.held0 hh (i := 1) rfl).cut (l := q) (u := out.length) (by omega) (by omega)) (cut_one _ _ _) (by omega) (by omega)) ?_) | refine wt_ef (es_e rfl (e_app3 t37 rfl rfl (fun w hh => (Rd.held0 hh (i := 1) rfl).cut (l := q) (u := out.length) (by omega) (by omega)) (cut_one _ _ _) (by omega) (by omega)) ?_))
                rintro v19_11 _ w19_11 rfl
                refine ⟨_, List.Perm.refl _, ?_⟩
                refine wt_f rfl (f_assign rfl) ?_
                refine wt_endp [(7, _), (31, _), (32, _), (33, _)] [2] ⟨rfl, rfl, rfl, rfl, trivial⟩ rfl ?_
                exact ⟨_, rfl, by rw [splice_cells out t q, show 0 + (q - 0) + 1 + (out.length - q) = out.length + 1 by omega]⟩
            rintro _ _ w7 ⟨u', rfl, rfl⟩
            refine w_reg ?_
            refine wl_f (f_add rfl rfl (by omega)) ?_
            refine wl_f (f_move rfl) ?_
            refine wl_end [(7, _), (31, _), (32, _), (33, _)] ⟨rfl, rfl, rfl, rfl, trivial⟩ ?_
            have hno := no_name hsrt hlt hq hdf
            refine ⟨k2 - 1, by omega, i2 + 1, u', rfl, ?_, by omega, ?_⟩
            · rw [take_snoc l i2 t ht, hisn, hins]
              simp only [List.length_append, List.length_cons, List.length_take, List.length_drop, Nat.min_eq_left hq8.1]
              rw [show q + (out.length - q + 1) = out.length + 1 by omega]
            · rw [take_snoc l i2 t ht, names, List.map_append, List.nodup_append]
              refine ⟨hnd, by simp, ?_⟩
              intro a ha b hb
              simp at hb
              subst hb
              obtain ⟨x, hx, rfl⟩ := List.mem_map.1 ha
              exact hno x ((hmem x).2 hx)
      · skip
        rw [List.take_of_length_le (by omega)] at hnd hmem
        refine w_exit0 ?_
        refine w_seq ?_
        refine w_reg ?_
        refine wl_f (f_move rfl) ?_
        refine wl_f (f_assign rfl) ?_
        refine wl_f (f_assign rfl) ?_
        refine wl_end [(2, _), (3, _)] ⟨rfl, rfl, trivial⟩ ?_
        refine w_ret ?_
        refine ⟨_, _, fun a ha hh => results_tmps Try.results47 rfl a ha _, List.Sublist.refl _, ?_⟩
        have he : sortErr l = 0 := by rw [sortErr_all hne hv, if_pos hnd]
        rw [sortOut, if_pos he, he, ← hfull (by omega)]
        exact ⟨_, rfl, rfl⟩
end Go.Proofs.Ythbjjfpikfmmnaa
