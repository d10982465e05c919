/- The reference's tables by the method of Misra and Gries: adding, exchanging. -/
import Derived.Test.YtkoklfagmbaapaaT6
namespace Go.Proofs.Ytkoklfagmbaapaa
open Go.RowKit

theorem rfits_spec (a b : Nat) (w : World) : Spec Try.prog 40 [.int .u64 (a : Int), .int .u64 (b : Int)] w Nil fun r H => r = .bool (decide (a + b ≤ 9223372036854775808)) ∧ H = [] := by
  refine enter (n := 13) Try.func40 rfl rfl [(0, _), (1, _)] rfl ⟨rfl, rfl, trivial⟩ (Holds.start _ _) ?_
  refine w_seq ?_
  refine w_reg ?_
  refine wl_f (f_assign rfl) ?_
  refine wl_end [(0, _), (1, _)] ⟨rfl, rfl, trivial⟩ ?_
  refine w_seq ?_
  refine w_reg ?_
  refine wl_f (f_move rfl) ?_
  refine wl_f (f_leq rfl rfl) ?_
  refine wl_f (f_move rfl) ?_
  refine wl_and (j := 2) (c := decide ((b : Int) ≤ 9223372036854775808 - (a : Int))) 4 [] trivial rfl rfl rfl rfl rfl (fun hg1_7 => ?_) (fun w1_7 => ?_)
  · skip
    refine wl_gf rfl rfl (f_move rfl) ?_
    refine wl_gf rfl rfl (f_move rfl) ?_
    refine wl_gf rfl rfl (f_subu rfl rfl (by have := of_decide_eq_true hg1_7; omega)) ?_
    refine wl_gf rfl rfl (f_leq rfl rfl) ?_
    exact wl_pend rfl rfl trivial (List.Sublist.refl _)
  refine wl_f (f_assign rfl) ?_
  refine wl_end [(4, _)] ⟨rfl, trivial⟩ ?_
  refine w_ret ?_
  refine ⟨_, _, fun a ha hh => results_tmps Try.results40 rfl a ha _, List.Sublist.refl _, ?_⟩
  refine ⟨congrArg Value.bool ?_, rfl⟩
  rw [← Bool.decide_and, decide_eq_decide]
  omega
def rmin (v : Nat) (l : List En) : Nat := l.foldl (fun d x => min d x.2.1) v
theorem rmin_snoc {v : Nat} {l : List En} {x : En} : rmin v (l ++ [x]) = min (rmin v l) x.2.1 := by simp [rmin]
theorem rmin_le (v : Nat) (l : List En) : rmin v l ≤ v := by
  induction l generalizing v with
  | nil => exact Nat.le_refl _
  | cons x l ih => exact Nat.le_trans (ih (min v x.2.1)) (Nat.min_le_left ..)
theorem rmin_mem {l : List En} {x : En} (v : Nat) (h : x ∈ l) : rmin v l ≤ x.2.1 := by
  induction l generalizing v with
  | nil => cases h
  | cons y l ih =>
    rcases List.mem_cons.1 h with rfl | h
    · exact Nat.le_trans (rmin_le _ l) (Nat.min_le_right ..)
    · exact ih _ h
def red1 (d : Nat) (x : En) : Option En := if x.2.1 - d = 0 then none else some (x.1, x.2.1 - d, x.2.2)
def red (d : Nat) (l : List En) : List En := l.filterMap (red1 d)
theorem red_snoc (d : Nat) (l : List En) (x : En) : red d (l ++ [x]) = red d l ++ (if x.2.1 - d = 0 then [] else [(x.1, x.2.1 - d, x.2.2)]) := by
  rw [red, List.filterMap_append]
  congr 1
  unfold red1
  split <;> rename_i h <;> simp [h]
theorem red_len (d : Nat) (l : List En) : (red d l).length ≤ l.length := List.length_filterMap_le ..
theorem build_entry2 (k : ByteArray) (o : Int) (w : World) : (Instr.build 36 [(0, .string k), (1, .int .u64 o)].toArray).run Try.prog w = .ok (.agg [.string k, .int .u64 o, .int .u64 0].toArray) w := by kernel_rfl
def RDed (n : Nat) (l : List En) (base : Nat) (k : ByteArray) (v : Nat) (l' : List En) (base' : Nat) : Prop :=
  (l.length ≠ n ∧ l' = l ++ [(k, v, 0)] ∧ base' = base) ∨ (l.length = n ∧ base' = base + rmin v l ∧ l' = red (rmin v l) l ++ if rmin v l < v then [(k, v - rmin v l, 0)] else [])
set_option maxHeartbeats 8000000 in
theorem rdeduct_spec (q n : Nat) (l : List En) (base sum : Nat) (r : Res) (k : ByteArray) (v : Nat) (w : World) (hn : n ≤ 64) (hl : l.length ≤ n) (hv0 : v ≠ 0) (hb : base + v < 18446744073709551616) (hls : ∀ x ∈ l, x.2.1 < 18446744073709551616) (hr : RtR q 2 n l base sum r) (hs : Holds w r.foot [r] w) :
    Spec Try.prog 43 [.pointer (some ⟨q, 0, .none⟩), .string k, .int .u64 (v : Int)] w r.foot fun _ H => ∃ l' base' O, H = rts q 2 n l' O base' sum ∧ RDed n l base k v l' base' := by
  obtain ⟨LV, rfl⟩ := hr
  refine enter (n := 88) Try.func43 rfl rfl [(0, _), (1, _), (2, _)] rfl ⟨rfl, rfl, rfl, trivial⟩ hs ?_
  refine w_with fun hh => ?_
  obtain ⟨L, cl, rfl⟩ := rowB_slice hh (i := 0) (j := 1) rfl rfl
  clear hh
  refine w_unb (H := []) (rts q 2 n l (.slice L l.length cl) base sum) ?_
  refine w_seq ?_
  refine w_seq ?_
  refine w_draw [(0, true), (1, true), (2, true), (3, true), (4, true), (5, true), (6, true), (7, true), (8, true), (9, true)] (_) ([]) mixed (by kernel_rfl) (by kernel_rfl) rfl (perm_all _) (fun w0_ => ?_)
  refine wd_f rfl (f_move rfl) ?_
  refine wd_f rfl (f_nilCheck rfl) ?_
  refine wd_f rfl (f_fieldAddr 2 rfl Try.underlying58 rfl rfl (by kernel_rfl)) ?_
  (first | refine wd_f rfl (f_loadb 0 rfl Try.underlying40 rfl rfl rfl) ?_ | refine wd_f rfl (f_loadb 1 rfl Try.underlying40 rfl rfl rfl) ?_ | refine wd_f rfl (f_loadb 2 rfl Try.underlying40 rfl rfl rfl) ?_ | refine wd_f rfl (f_loadb 3 rfl Try.underlying40 rfl rfl rfl) ?_ | refine wd_f rfl (f_loadb 4 rfl Try.underlying40 rfl rfl rfl) ?_ | refine wd_f rfl (f_loadb 5 rfl Try.underlying40 rfl rfl rfl) ?_ | refine wd_f rfl (f_loadb 6 rfl Try.underlying40 rfl rfl rfl) ?_)
  refine wd_f rfl (f_len rfl Try.underlying40) ?_
  refine wd_f rfl (f_move rfl) ?_
  refine wd_f rfl (f_nilCheck rfl) ?_
  refine wd_f rfl (f_fieldAddr 1 rfl Try.underlying58 rfl rfl (by kernel_rfl)) ?_
  (first | refine wd_f rfl (f_loadb 0 rfl Try.underlying3 rfl rfl rfl) ?_ | refine wd_f rfl (f_loadb 1 rfl Try.underlying3 rfl rfl rfl) ?_ | refine wd_f rfl (f_loadb 2 rfl Try.underlying3 rfl rfl rfl) ?_ | refine wd_f rfl (f_loadb 3 rfl Try.underlying3 rfl rfl rfl) ?_ | refine wd_f rfl (f_loadb 4 rfl Try.underlying3 rfl rfl rfl) ?_ | refine wd_f rfl (f_loadb 5 rfl Try.underlying3 rfl rfl rfl) ?_ | refine wd_f rfl (f_loadb 6 rfl Try.underlying3 rfl rfl rfl) ?_)
  refine wd_f rfl (f_eql rfl rfl) ?_
  refine wd_end [(0, _), (1, _), (2, _), (21, _)] ⟨rfl, rfl, rfl, rfl, trivial⟩ ?_
  refine w_post (fun m' H w' => ∃ (l1 : List En) (v1 base1 : Nat) (O : Value), m' = [(0, .pointer (some ⟨q, 0, .none⟩)), (1, .string k), (2, .int .u64 (v1 : Int))] ∧ H = rts q 2 n l1 O base1 sum ∧ l1.length ≤ 64 ∧ ((l.length ≠ n ∧ l1 = l ∧ base1 = base ∧ v1 = v) ∨ (l.length = n ∧ base1 = base + rmin v l ∧ v1 = v - rmin v l ∧ l1 = red (rmin v l) l))) ?_ ?_
  · skip
    refine w_ifd rfl (fun hc1 => ?_) (fun hc1 => ?_)
    · skip
      refine w_seq ?_
      refine w_reg ?_
      refine wl_f (f_move rfl) ?_
      refine wl_f (f_assign rfl) ?_
      refine wl_end [(0, _), (1, _), (2, _), (6, _)] ⟨rfl, rfl, rfl, rfl, trivial⟩ ?_
      refine w_seq ?_
      refine w_seq ?_
      refine w_reg ?_
      refine wl_f (f_move rfl) ?_
      refine wl_f (f_nilCheck rfl) ?_
      refine wl_f (f_fieldAddr 2 rfl Try.underlying58 rfl rfl (by kernel_rfl)) ?_
      (first | refine wl_f (f_loadb 0 rfl Try.underlying40 rfl rfl rfl) ?_ | refine wl_f (f_loadb 1 rfl Try.underlying40 rfl rfl rfl) ?_ | refine wl_f (f_loadb 2 rfl Try.underlying40 rfl rfl rfl) ?_ | refine wl_f (f_loadb 3 rfl Try.underlying40 rfl rfl rfl) ?_ | refine wl_f (f_loadb 4 rfl Try.underlying40 rfl rfl rfl) ?_ | refine wl_f (f_loadb 5 rfl Try.underlying40 rfl rfl rfl) ?_ | refine wl_f (f_loadb 6 rfl Try.underlying40 rfl rfl rfl) ?_)
      refine wl_f (f_len rfl Try.underlying40) ?_
      refine wl_f (f_move rfl) ?_
      refine wl_end [(0, _), (1, _), (2, _), (6, _), (26, _), (27, _), (28, _)] ⟨rfl, rfl, rfl, rfl, rfl, rfl, rfl, trivial⟩ ?_
      refine w_block ?_
      refine w_loop (fun j m H w => ∃ i : Nat, m = [(0, .pointer (some ⟨q, 0, .none⟩)), (1, .string k), (2, .int .u64 (v : Int)), (6, .int .u64 ((rmin v (l.take i) : Nat) : Int)), (26, .slice L l.length cl), (27, .int .i64 l.length), (28, .int .i64 i)] ∧ H = rts q 2 n l (.slice L l.length cl) base sum ∧ j + i = l.length) l.length ⟨0, rfl, rfl, rfl⟩ ?_
      rintro j _ _ w1 ⟨i, rfl, rfl, hj⟩
      refine w_seq ?_
      refine w_reg ?_
      refine wl_f (f_lss rfl rfl) ?_
      refine wl_end [(0, _), (1, _), (2, _), (6, _), (26, _), (27, _), (28, _), (29, _)] ⟨rfl, rfl, rfl, rfl, rfl, rfl, rfl, rfl, trivial⟩ ?_
      refine w_seq ?_
      refine w_ifd rfl (fun hc2 => ?_) (fun hc2 => ?_)
      · skip
        have hi : i < l.length := by
          have : (i : Int) < (l.length : Int) := hc2
          omega
        obtain ⟨p, hpi⟩ : ∃ p, l[i]? = some p := ⟨_, List.getElem?_eq_getElem hi⟩
        refine w_with fun hh => ?_
        obtain ⟨g, cap, e⟩ := row_form hh (i := 1) rfl (by omega)
        injection e with e1 _ e3
        subst e1; subst e3
        clear hh
        refine w_skip ?_
        refine w_seq ?_
        refine w_block ?_
        refine w_seq ?_
        refine w_reg ?_
        refine wl_f (f_indexAddr 3 (i := i) rfl rfl Try.underlying40 (by kernel_rfl) rfl hi) ?_
        refine wl_f (f_loadsr (cs := ecell (some p)) 1 rfl Try.underlying36 rfl (by kernel_rfl) rfl (encs_get hpi)) ?_
        refine wl_e (e_allocs [.string ByteArray.empty, .int .u64 0, .int .u64 0] (by kernel_rfl)) ?_
        rintro _ _ w4_2 ⟨b4_2, rfl, rfl⟩
        (first | refine wl_e0 (e_store0 (us := [_, _, _]) rfl rfl rfl (by kernel_rfl) (by simp [Value.oneCell']) rfl rfl) ?_ | refine wl_e0 (e_store1 (us := [_, _, _]) rfl rfl rfl (by kernel_rfl) (by simp [Value.oneCell']) rfl rfl) ?_ | refine wl_e0 (e_store2 (us := [_, _, _]) rfl rfl rfl (by kernel_rfl) (by simp [Value.oneCell']) rfl rfl) ?_ | refine wl_e0 (e_store3 (us := [_, _, _]) rfl rfl rfl (by kernel_rfl) (by simp [Value.oneCell']) rfl rfl) ?_)
        rintro _ _ w4_3 rfl
        refine wl_end [(0, _), (1, _), (2, _), (6, _), (8, _), (26, _), (27, _), (28, _)] ⟨rfl, rfl, rfl, rfl, rfl, rfl, rfl, rfl, trivial⟩ ?_
        refine w_reg ?_
        refine wl_f (f_move rfl) ?_
        refine wl_f (f_fieldAddr 1 rfl Try.underlying36 rfl rfl (by kernel_rfl)) ?_
        (first | refine wl_f (f_loadb 0 rfl Try.underlying33 rfl rfl rfl) ?_ | refine wl_f (f_loadb 1 rfl Try.underlying33 rfl rfl rfl) ?_ | refine wl_f (f_loadb 2 rfl Try.underlying33 rfl rfl rfl) ?_ | refine wl_f (f_loadb 3 rfl Try.underlying33 rfl rfl rfl) ?_ | refine wl_f (f_loadb 4 rfl Try.underlying33 rfl rfl rfl) ?_ | refine wl_f (f_loadb 5 rfl Try.underlying33 rfl rfl rfl) ?_ | refine wl_f (f_loadb 6 rfl Try.underlying33 rfl rfl rfl) ?_)
        refine wl_f (f_min (r := ((rmin v (l.take (i + 1)) : Nat) : Int)) rfl rfl (by rw [take_snoc' hpi, rmin_snoc]; split <;> omega)) ?_
        refine wl_f (f_assign rfl) ?_
        refine wl_pick [1, 1] rfl ?_
        refine wl_end [(0, _), (1, _), (2, _), (6, _), (26, _), (27, _), (28, _)] ⟨rfl, rfl, rfl, rfl, rfl, rfl, rfl, trivial⟩ ?_
        refine w_reg ?_
        refine wl_f (f_add rfl rfl (by omega)) ?_
        refine wl_f (f_move rfl) ?_
        refine wl_end [(0, _), (1, _), (2, _), (6, _), (26, _), (27, _), (28, _)] ⟨rfl, rfl, rfl, rfl, rfl, rfl, rfl, trivial⟩ ?_
        exact ⟨j - 1, by omega, i + 1, rfl, rfl, by omega⟩
      · skip
        have hi : i = l.length := by
          have : ¬ (i : Int) < (l.length : Int) := hc2
          omega
        subst hi
        rw [List.take_length]
        have hdv := rmin_le v l
        obtain ⟨d, hd⟩ : ∃ d, rmin v l = d := ⟨_, rfl⟩
        rw [hd] at hdv ⊢
        refine w_exit0 ?_
        refine w_seq ?_
        refine w_reg ?_
        refine wl_f (f_move rfl) ?_
        refine wl_f (f_nilCheck rfl) ?_
        refine wl_f (f_fieldAddr 3 rfl Try.underlying58 rfl rfl (by kernel_rfl)) ?_
        (first | refine wl_f (f_loadb 0 rfl Try.underlying33 rfl rfl rfl) ?_ | refine wl_f (f_loadb 1 rfl Try.underlying33 rfl rfl rfl) ?_ | refine wl_f (f_loadb 2 rfl Try.underlying33 rfl rfl rfl) ?_ | refine wl_f (f_loadb 3 rfl Try.underlying33 rfl rfl rfl) ?_ | refine wl_f (f_loadb 4 rfl Try.underlying33 rfl rfl rfl) ?_ | refine wl_f (f_loadb 5 rfl Try.underlying33 rfl rfl rfl) ?_ | refine wl_f (f_loadb 6 rfl Try.underlying33 rfl rfl rfl) ?_)
        refine wl_f (f_move rfl) ?_
        refine wl_f (f_eqv (v' := .int .u64 ((base + d : Nat) : Int)) (f_addu rfl rfl (by omega)) (by rw [Int.natCast_add])) ?_
        refine wl_f (f_nilCheck rfl) ?_
        refine wl_f (f_fieldAddr 3 rfl Try.underlying58 rfl rfl (by kernel_rfl)) ?_
        (first | refine wl_e0 (e_store0 (us := [_]) rfl rfl rfl (by kernel_rfl) (by simp [Value.oneCell']) rfl rfl) ?_ | refine wl_e0 (e_store1 (us := [_]) rfl rfl rfl (by kernel_rfl) (by simp [Value.oneCell']) rfl rfl) ?_ | refine wl_e0 (e_store2 (us := [_]) rfl rfl rfl (by kernel_rfl) (by simp [Value.oneCell']) rfl rfl) ?_ | refine wl_e0 (e_store3 (us := [_]) rfl rfl rfl (by kernel_rfl) (by simp [Value.oneCell']) rfl rfl) ?_)
        rintro _ _ w7_8 rfl
        refine wl_end [(0, _), (1, _), (2, _), (6, _)] ⟨rfl, rfl, rfl, rfl, trivial⟩ ?_
        refine w_seq ?_
        refine w_reg ?_
        refine wl_f (f_move rfl) ?_
        refine wl_f (f_move rfl) ?_
        refine wl_f (f_eqv (v' := .int .u64 ((v - d : Nat) : Int)) (f_subu rfl rfl (by omega)) (by congr 1; omega)) ?_
        refine wl_f (f_assign rfl) ?_
        refine wl_end [(0, _), (1, _), (2, _), (6, _)] ⟨rfl, rfl, rfl, rfl, trivial⟩ ?_
        refine w_seq ?_
        refine w_reg ?_
        refine wl_f (f_assign rfl) ?_
        refine wl_end [(0, _), (1, _), (2, _), (6, _), (9, _)] ⟨rfl, rfl, rfl, rfl, rfl, trivial⟩ ?_
        refine w_seq ?_
        refine w_seq ?_
        refine w_reg ?_
        refine wl_f (f_move rfl) ?_
        refine wl_f (f_nilCheck rfl) ?_
        refine wl_f (f_fieldAddr 2 rfl Try.underlying58 rfl rfl (by kernel_rfl)) ?_
        (first | refine wl_f (f_loadb 0 rfl Try.underlying40 rfl rfl rfl) ?_ | refine wl_f (f_loadb 1 rfl Try.underlying40 rfl rfl rfl) ?_ | refine wl_f (f_loadb 2 rfl Try.underlying40 rfl rfl rfl) ?_ | refine wl_f (f_loadb 3 rfl Try.underlying40 rfl rfl rfl) ?_ | refine wl_f (f_loadb 4 rfl Try.underlying40 rfl rfl rfl) ?_ | refine wl_f (f_loadb 5 rfl Try.underlying40 rfl rfl rfl) ?_ | refine wl_f (f_loadb 6 rfl Try.underlying40 rfl rfl rfl) ?_)
        refine wl_f (f_len rfl Try.underlying40) ?_
        refine wl_f (f_move rfl) ?_
        refine wl_end [(0, _), (1, _), (2, _), (6, _), (9, _), (51, _), (52, _), (53, _)] ⟨rfl, rfl, rfl, rfl, rfl, rfl, rfl, rfl, trivial⟩ ?_
        refine w_block ?_
        refine w_nilrow 36 3 ?_
        refine w_loop (fun j m H w => ∃ (i : Nat) (O : Value), m = [(0, .pointer (some ⟨q, 0, .none⟩)), (1, .string k), (2, .int .u64 ((v - d : Nat) : Int)), (6, .int .u64 (d : Int)), (9, O), (51, .slice L l.length cl), (52, .int .i64 l.length), (53, .int .i64 i)] ∧ H = row O 36 3 (red d (l.take i)).length (encs (red d (l.take i))) :: rts q 2 n l (.slice L l.length cl) (base + d) sum ∧ j + i = l.length) l.length ⟨0, _, rfl, rfl, rfl⟩ ?_
        rintro j _ _ w1 ⟨i, O, rfl, rfl, hj⟩
        refine w_seq ?_
        refine w_reg ?_
        refine wl_f (f_lss rfl rfl) ?_
        refine wl_end [(0, _), (1, _), (2, _), (6, _), (9, _), (51, _), (52, _), (53, _), (54, _)] ⟨rfl, rfl, rfl, rfl, rfl, rfl, rfl, rfl, rfl, trivial⟩ ?_
        refine w_seq ?_
        refine w_ifd rfl (fun hc3 => ?_) (fun hc3 => ?_)
        · skip
          have hi : i < l.length := by
            have : (i : Int) < (l.length : Int) := hc3
            omega
          obtain ⟨p, hpi⟩ : ∃ p, l[i]? = some p := ⟨_, List.getElem?_eq_getElem hi⟩
          have hpu := hls p (List.mem_of_getElem? hpi)
          have hdp : d ≤ p.2.1 := by rw [← hd]; exact rmin_mem v (List.mem_of_getElem? hpi)
          have hrl : (red d (l.take i)).length ≤ 64 := by
            have := red_len d (l.take i)
            rw [List.length_take] at this
            omega
          refine w_with fun hh => ?_
          obtain ⟨g, cap, e⟩ := row_form hh (i := 2) rfl (by omega)
          injection e with e1 _ e3
          subst e1; subst e3
          clear hh
          refine w_skip ?_
          refine w_seq ?_
          refine w_post (fun m' H w' => ∃ O', m' = [(0, .pointer (some ⟨q, 0, .none⟩)), (1, .string k), (2, .int .u64 ((v - d : Nat) : Int)), (6, .int .u64 (d : Int)), (9, O'), (51, .slice (some ⟨g, 0, .none⟩) l.length cl), (52, .int .i64 l.length), (53, .int .i64 i)] ∧ H = row O' 36 3 (red d (l.take (i + 1))).length (encs (red d (l.take (i + 1)))) :: rts q 2 n l (.slice (some ⟨g, 0, .none⟩) l.length cl) (base + d) sum) ?_ ?_
          · skip
            refine w_block ?_
            refine w_seq ?_
            refine w_reg ?_
            refine wl_f (f_indexAddr 3 (i := i) rfl rfl Try.underlying40 (by kernel_rfl) rfl hi) ?_
            refine wl_f (f_loadsr (cs := ecell (some p)) 2 rfl Try.underlying36 rfl (by kernel_rfl) rfl (encs_get hpi)) ?_
            refine wl_e (e_allocs [.string ByteArray.empty, .int .u64 0, .int .u64 0] (by kernel_rfl)) ?_
            rintro _ _ w12_2 ⟨b12_2, rfl, rfl⟩
            (first | refine wl_e0 (e_store0 (us := [_, _, _]) rfl rfl rfl (by kernel_rfl) (by simp [Value.oneCell']) rfl rfl) ?_ | refine wl_e0 (e_store1 (us := [_, _, _]) rfl rfl rfl (by kernel_rfl) (by simp [Value.oneCell']) rfl rfl) ?_ | refine wl_e0 (e_store2 (us := [_, _, _]) rfl rfl rfl (by kernel_rfl) (by simp [Value.oneCell']) rfl rfl) ?_ | refine wl_e0 (e_store3 (us := [_, _, _]) rfl rfl rfl (by kernel_rfl) (by simp [Value.oneCell']) rfl rfl) ?_)
            rintro _ _ w12_3 rfl
            refine wl_end [(0, _), (1, _), (2, _), (6, _), (9, _), (11, _), (51, _), (52, _), (53, _)] ⟨rfl, rfl, rfl, rfl, rfl, rfl, rfl, rfl, rfl, trivial⟩ ?_
            refine w_seq ?_
            refine w_reg ?_
            refine wl_f (f_fieldAddr 1 rfl Try.underlying36 rfl rfl (by kernel_rfl)) ?_
            (first | refine wl_f (f_loadb 0 rfl Try.underlying33 rfl rfl rfl) ?_ | refine wl_f (f_loadb 1 rfl Try.underlying33 rfl rfl rfl) ?_ | refine wl_f (f_loadb 2 rfl Try.underlying33 rfl rfl rfl) ?_ | refine wl_f (f_loadb 3 rfl Try.underlying33 rfl rfl rfl) ?_ | refine wl_f (f_loadb 4 rfl Try.underlying33 rfl rfl rfl) ?_ | refine wl_f (f_loadb 5 rfl Try.underlying33 rfl rfl rfl) ?_ | refine wl_f (f_loadb 6 rfl Try.underlying33 rfl rfl rfl) ?_)
            refine wl_f (f_move rfl) ?_
            refine wl_f (f_eqv (v' := .int .u64 ((p.2.1 - d : Nat) : Int)) (f_subu rfl rfl (by omega)) (by congr 1; omega)) ?_
            refine wl_f (f_fieldAddr 1 rfl Try.underlying36 rfl rfl (by kernel_rfl)) ?_
            (first | refine wl_e0 (e_store0 (us := [_]) rfl rfl rfl (by kernel_rfl) (by simp [Value.oneCell']) rfl rfl) ?_ | refine wl_e0 (e_store1 (us := [_]) rfl rfl rfl (by kernel_rfl) (by simp [Value.oneCell']) rfl rfl) ?_ | refine wl_e0 (e_store2 (us := [_]) rfl rfl rfl (by kernel_rfl) (by simp [Value.oneCell']) rfl rfl) ?_ | refine wl_e0 (e_store3 (us := [_]) rfl rfl rfl (by kernel_rfl) (by simp [Value.oneCell']) rfl rfl) ?_)
            rintro _ _ w13_5 rfl
            refine wl_end [(0, _), (1, _), (2, _), (6, _), (9, _), (11, _), (51, _), (52, _), (53, _)] ⟨rfl, rfl, rfl, rfl, rfl, rfl, rfl, rfl, rfl, trivial⟩ ?_
            refine w_seq ?_
            refine w_reg ?_
            refine wl_f (f_fieldAddr 1 rfl Try.underlying36 rfl rfl (by kernel_rfl)) ?_
            (first | refine wl_f (f_loadb 0 rfl Try.underlying33 rfl rfl rfl) ?_ | refine wl_f (f_loadb 1 rfl Try.underlying33 rfl rfl rfl) ?_ | refine wl_f (f_loadb 2 rfl Try.underlying33 rfl rfl rfl) ?_ | refine wl_f (f_loadb 3 rfl Try.underlying33 rfl rfl rfl) ?_ | refine wl_f (f_loadb 4 rfl Try.underlying33 rfl rfl rfl) ?_ | refine wl_f (f_loadb 5 rfl Try.underlying33 rfl rfl rfl) ?_ | refine wl_f (f_loadb 6 rfl Try.underlying33 rfl rfl rfl) ?_)
            refine wl_f (f_gtr rfl rfl) ?_
            refine wl_end [(0, _), (1, _), (2, _), (6, _), (9, _), (11, _), (51, _), (52, _), (53, _), (64, _)] ⟨rfl, rfl, rfl, rfl, rfl, rfl, rfl, rfl, rfl, rfl, trivial⟩ ?_
            refine w_ifd rfl (fun hc4 => ?_) (fun hc4 => ?_)
            · skip
              have hpd : ¬ p.2.1 - d = 0 := by
                have : (0 : Int) < ((p.2.1 - d : Nat) : Int) := hc4
                omega
              refine w_reg ?_
              refine wl_f (f_move rfl) ?_
              (first | refine wl_f (f_loadsb (cs := [_, _, _]) 0 rfl Try.underlying36 rfl (by kernel_rfl) rfl rfl) ?_ | refine wl_f (f_loadsb (cs := [_, _, _]) 1 rfl Try.underlying36 rfl (by kernel_rfl) rfl rfl) ?_ | refine wl_f (f_loadsb (cs := [_, _, _]) 2 rfl Try.underlying36 rfl (by kernel_rfl) rfl rfl) ?_ | refine wl_f (f_loadsb (cs := [_, _, _]) 3 rfl Try.underlying36 rfl (by kernel_rfl) rfl rfl) ?_ | refine wl_f (f_loadsb (cs := [_, _, _]) 4 rfl Try.underlying36 rfl (by kernel_rfl) rfl rfl) ?_ | refine wl_f (f_loadsb (cs := [_, _, _]) 5 rfl Try.underlying36 rfl (by kernel_rfl) rfl rfl) ?_ | refine wl_f (f_loadsb (cs := [_, _, _]) 6 rfl Try.underlying36 rfl (by kernel_rfl) rfl rfl) ?_)
              refine wl_e (e_lit1 (cs := [_, _, _]) t40 rfl rfl rfl (by omega)) ?_
              rintro _ _ w15_2 ⟨b15_2, rfl, rfl⟩
              refine wl_e (e_appN 2 t40 rfl rfl rfl (fun w hh => Rd.held0 hh (i := 0) rfl) (by simp [Value.oneCell']) (by omega) (by omega)) ?_
              rintro v2 _ w5 ⟨_, rfl⟩
              refine wl_f (f_assign rfl) ?_
              refine wl_pick [2, 2, 2] rfl ?_
              refine wl_end [(0, _), (1, _), (2, _), (6, _), (9, _), (51, _), (52, _), (53, _)] ⟨rfl, rfl, rfl, rfl, rfl, rfl, rfl, rfl, trivial⟩ ?_
              refine ⟨v2, rfl, ?_⟩
              rw [take_snoc' hpi, red_snoc, if_neg hpd, encs_snoc, List.length_append]
              rfl
            · skip
              have hpd : p.2.1 - d = 0 := by
                have : ¬ (0 : Int) < ((p.2.1 - d : Nat) : Int) := hc4
                omega
              refine w_pick [1, 1, 1] rfl ?_
              refine w_sub [(0, _), (1, _), (2, _), (6, _), (9, _), (51, _), (52, _), (53, _)] ⟨rfl, rfl, rfl, rfl, rfl, rfl, rfl, rfl, trivial⟩ (w_skip ?_)
              refine ⟨O, rfl, ?_⟩
              rw [take_snoc' hpi, red_snoc, if_pos hpd, List.append_nil]
              rfl
          · rintro _ _ w9 ⟨O', rfl, rfl⟩
            refine w_reg ?_
            refine wl_f (f_add rfl rfl (by omega)) ?_
            refine wl_f (f_move rfl) ?_
            refine wl_end [(0, _), (1, _), (2, _), (6, _), (9, _), (51, _), (52, _), (53, _)] ⟨rfl, rfl, rfl, rfl, rfl, rfl, rfl, rfl, trivial⟩ ?_
            exact ⟨j - 1, by omega, i + 1, O', rfl, rfl, by omega⟩
        · skip
          have hi : i = l.length := by
            have : ¬ (i : Int) < (l.length : Int) := hc3
            omega
          subst hi
          rw [List.take_length]
          have hrl := red_len d l
          refine w_with fun hh => ?_
          obtain ⟨O1, o1, rfl⟩ := row_slice hh (i := 0) rfl
          clear hh
          refine w_exit0 ?_
          refine w_reg ?_
          refine wl_f (f_move rfl) ?_
          refine wl_f (f_move rfl) ?_
          refine wl_f (f_nilCheck rfl) ?_
          refine wl_f (f_fieldAddr 2 rfl Try.underlying58 rfl rfl (by kernel_rfl)) ?_
          (first | refine wl_e0 (e_store0 (us := [_]) rfl rfl rfl (by kernel_rfl) (by simp [Value.oneCell']) rfl rfl) ?_ | refine wl_e0 (e_store1 (us := [_]) rfl rfl rfl (by kernel_rfl) (by simp [Value.oneCell']) rfl rfl) ?_ | refine wl_e0 (e_store2 (us := [_]) rfl rfl rfl (by kernel_rfl) (by simp [Value.oneCell']) rfl rfl) ?_ | refine wl_e0 (e_store3 (us := [_]) rfl rfl rfl (by kernel_rfl) (by simp [Value.oneCell']) rfl rfl) ?_)
          rintro _ _ w17_4 rfl
          refine wl_pick [1, 0] rfl ?_
          refine wl_end [(0, _), (1, _), (2, _)] ⟨rfl, rfl, rfl, trivial⟩ ?_
          subst hd
          exact ⟨_, _, _, _, rfl, rfl, by omega, .inr ⟨by omega, rfl, rfl, rfl⟩⟩
    · skip
      refine w_sub [(0, _), (1, _), (2, _)] ⟨rfl, rfl, rfl, trivial⟩ (w_skip ?_)
      exact ⟨l, v, base, _, rfl, rfl, by omega, .inl ⟨fun h => hc1 (by rw [h]), rfl, rfl, rfl⟩⟩
  · rintro _ _ w9 ⟨l1, v1, base1, O, rfl, rfl, hl1, hD⟩
    refine w_seq ?_
    refine w_reg ?_
    refine wl_f (f_move rfl) ?_
    refine wl_f (f_gtr rfl rfl) ?_
    refine wl_end [(0, _), (1, _), (2, _), (75, _)] ⟨rfl, rfl, rfl, rfl, trivial⟩ ?_
    refine w_ifd rfl (fun hc5 => ?_) (fun hc5 => ?_)
    · skip
      have hv1 : 0 < v1 := by
        have : (0 : Int) < (v1 : Int) := hc5
        omega
      refine w_reg ?_
      refine wl_f (f_move rfl) ?_
      refine wl_f (f_move rfl) ?_
      refine wl_f (f_nilCheck rfl) ?_
      refine wl_f (f_fieldAddr 2 rfl Try.underlying58 rfl rfl (by kernel_rfl)) ?_
      (first | refine wl_f (f_loadb 0 rfl Try.underlying40 rfl rfl rfl) ?_ | refine wl_f (f_loadb 1 rfl Try.underlying40 rfl rfl rfl) ?_ | refine wl_f (f_loadb 2 rfl Try.underlying40 rfl rfl rfl) ?_ | refine wl_f (f_loadb 3 rfl Try.underlying40 rfl rfl rfl) ?_ | refine wl_f (f_loadb 4 rfl Try.underlying40 rfl rfl rfl) ?_ | refine wl_f (f_loadb 5 rfl Try.underlying40 rfl rfl rfl) ?_ | refine wl_f (f_loadb 6 rfl Try.underlying40 rfl rfl rfl) ?_)
      refine wl_f (f_move rfl) ?_
      refine wl_f (f_move rfl) ?_
      refine wl_f (f_build rfl (fun w => build_entry2 _ _ w)) ?_
      refine wl_e (e_lit1 (cs := [_, _, _]) t40 rfl rfl rfl (by omega)) ?_
      rintro _ _ w19_8 ⟨b19_8, rfl, rfl⟩
      refine wl_e (e_appN 2 t40 rfl rfl rfl (fun w hh => Rd.held0 hh (i := 0) rfl) (by simp [Value.oneCell']) (by omega) (by omega)) ?_
      rintro _ _ w5 ⟨⟨U2, u2, rfl⟩, rfl⟩
      refine wl_f (f_nilCheck rfl) ?_
      refine wl_f (f_fieldAddr 2 rfl Try.underlying58 rfl rfl (by kernel_rfl)) ?_
      (first | refine wl_e0 (e_store0 (us := [_]) rfl rfl rfl (by kernel_rfl) (by simp [Value.oneCell']) rfl rfl) ?_ | refine wl_e0 (e_store1 (us := [_]) rfl rfl rfl (by kernel_rfl) (by simp [Value.oneCell']) rfl rfl) ?_ | refine wl_e0 (e_store2 (us := [_]) rfl rfl rfl (by kernel_rfl) (by simp [Value.oneCell']) rfl rfl) ?_ | refine wl_e0 (e_store3 (us := [_]) rfl rfl rfl (by kernel_rfl) (by simp [Value.oneCell']) rfl rfl) ?_)
      rintro _ _ w19_12 rfl
      refine wl_pick [1, 1] rfl ?_
      refine wl_end [] trivial ?_
      refine ⟨_, _, fun a ha hh => results_tmps (l := []) Try.results43 rfl a ha _, List.Sublist.refl _, ?_⟩
      refine ⟨l1 ++ [(k, v1, 0)], base1, .slice U2 (l1.length + 1) u2, ?_, ?_⟩
      · rw [rts, encs_snoc, List.length_append]
        rfl
      · rcases hD with ⟨h1, rfl, rfl, rfl⟩ | ⟨h1, rfl, rfl, rfl⟩
        · exact .inl ⟨h1, rfl, rfl⟩
        · exact .inr ⟨h1, rfl, by rw [if_pos (by omega)]⟩
    · skip
      have hv1 : v1 = 0 := by
        have : ¬ (0 : Int) < (v1 : Int) := hc5
        omega
      refine w_skip ?_
      refine ⟨_, _, fun a ha hh => results_tmps (l := []) Try.results43 rfl a ha _, List.Sublist.refl _, ?_⟩
      refine ⟨l1, base1, O, rfl, ?_⟩
      rcases hD with ⟨h1, rfl, rfl, rfl⟩ | ⟨h1, rfl, rfl, rfl⟩
      · exact absurd hv1 hv0
      · exact .inr ⟨h1, rfl, by rw [if_neg (by omega), List.append_nil]⟩
end Go.Proofs.Ytkoklfagmbaapaa
