/- The reference's tables: where a key is, a list without one, getting, taking out. -/
import Derived.Test.YtkoklfagmbaapaaT3
import Derived.Test.YtkoklfagmbaapaaK7
namespace Go.Proofs.Ytkoklfagmbaapaa
open Go.RowKit

def rts (q mode n : Nat) (l : List En) (v : Value) (base sum : Nat) : List Res :=
  [blk q [.int .i64 (mode : Int), .int .i64 (n : Int), v, .int .u64 (base : Int), .int .u64 (sum : Int)] 58, row v 36 3 l.length (encs l)]
def RtR (q mode n : Nat) (l : List En) (base sum : Nat) (r : Res) : Prop := ∃ v, r = bun (rts q mode n l v base sum)
def eks (l : List En) : List ByteArray := l.map Prod.fst
theorem eks_app (A B : List En) : eks (A ++ B) = eks A ++ eks B := by simp [eks]
def rplE (l : List En) (k : ByteArray) (y : Int) : Prop := (k ∉ eks l ∧ y = -1) ∨ ∃ A o s B, l = A ++ (k, o, s) :: B ∧ k ∉ eks A ∧ y = (A.length : Nat)
theorem rplE_at {l : List En} {k : ByteArray} {y : Int} (h : rplE l k y) (hy : ¬ y < 0) : ∃ A o s B, l = A ++ (k, o, s) :: B ∧ k ∉ eks A ∧ y = (A.length : Nat) := by
  rcases h with ⟨_, rfl⟩ | h
  · omega
  · exact h
theorem rplE_no {l : List En} {k : ByteArray} {y : Int} (h : rplE l k y) (hy : y < 0) : k ∉ eks l := by
  rcases h with ⟨h, _⟩ | ⟨A, o, s, B, _, _, rfl⟩
  · exact h
  · omega
theorem rplE_uniq {A B : List En} {k : ByteArray} {x : Nat × Nat} {y : Int} (hA : k ∉ eks A) (h : rplE (A ++ (k, x) :: B) k y) : y = (A.length : Nat) := by
  rcases h with ⟨h, _⟩ | ⟨A', o, s, B', h, hA', rfl⟩
  · exact absurd (by rw [eks_app]; simp [eks]) h
  · congr 1
    rcases List.append_eq_append_iff.1 h with ⟨C, rfl, h2⟩ | ⟨C, rfl, h2⟩
    · cases C with
      | nil => simp
      | cons c C =>
        rw [List.cons_append, List.cons.injEq] at h2
        exact absurd (by rw [eks_app, ← h2.1]; simp [eks]) hA'
    · cases C with
      | nil => simp
      | cons c C =>
        rw [List.cons_append, List.cons.injEq] at h2
        exact absurd (by rw [eks_app, ← h2.1]; simp [eks]) hA
theorem encs_one (l : List En) : ∀ u ∈ encs l, u.oneCell' = true := by
  intro u hu
  simp only [encs, ecells, List.mem_flatMap, List.mem_map] at hu
  obtain ⟨o, ⟨x, _, rfl⟩, hu⟩ := hu
  simp only [ecell, List.mem_cons, List.not_mem_nil, or_false] at hu
  rcases hu with rfl | rfl | rfl <;> rfl
theorem emid_one {l : List Value} (h : ∀ u ∈ l, u.oneCell' = true) (a b : Nat) : ∀ u ∈ (l.drop a).take b, u.oneCell' = true := fun u hu => h u (List.mem_of_mem_drop (List.mem_of_mem_take hu))
theorem encs_app (A B : List En) : encs (A ++ B) = encs A ++ encs B := by rw [encs, List.map_append, ecells_app]; rfl
theorem encs_take (l : List En) (i : Nat) : (encs l).take (i * 3) = encs (l.take i) := by
  by_cases h : i ≤ l.length
  · conv => lhs; rw [← List.take_append_drop i l, encs_app]
    rw [List.take_append_of_le_length (by rw [encs_len, List.length_take]; omega), List.take_of_length_le (by rw [encs_len, List.length_take]; omega)]
  · rw [List.take_of_length_le (by rw [encs_len]; omega), List.take_of_length_le (by omega)]
theorem encs_drop (l : List En) (i : Nat) : (encs l).drop (i * 3) = encs (l.drop i) := by
  by_cases h : i ≤ l.length
  · conv => lhs; rw [← List.take_append_drop i l, encs_app]
    have e : (encs (l.take i)).length = i * 3 := by rw [encs_len, List.length_take]; omega
    rw [← e, List.drop_left]
  · rw [List.drop_of_length_le (by rw [encs_len]; omega), List.drop_of_length_le (by omega)]; rfl
theorem encs_mid (l : List En) (a b : Nat) : ((encs l).drop (a * 3)).take (b * 3) = encs ((l.drop a).take b) := by rw [encs_drop, encs_take]

set_option maxHeartbeats 1000000 in
theorem rplace_spec (v : Value) (l : List En) (k : ByteArray) (w : World) (h1 : Rd w Nil 3 v l.length (encs l)) (hl : l.length ≤ 8192) :
    Spec Try.prog 41 [v, .string k] w Nil fun u H => H = [] ∧ ∃ y, u = .int .i64 y ∧ rplE l k y := by
  obtain ⟨A1, c1, rfl, -, hc1', g1⟩ := h1
  refine enter (n := 20) Try.func41 rfl rfl [(0, _), (1, _)] rfl ⟨rfl, rfl, trivial⟩ (Holds.start _ _) ?_
  refine w_seq ?_
  refine w_reg ?_
  refine wl_f (f_assign rfl) ?_
  refine wl_end [(0, _), (1, _)] ⟨rfl, rfl, trivial⟩ ?_
  refine w_seq ?_
  refine w_seq ?_
  refine w_reg ?_
  refine wl_f (f_move rfl) ?_
  refine wl_f (f_len rfl Try.underlying40) ?_
  refine wl_f (f_move rfl) ?_
  refine wl_end [(1, _), (7, _), (8, _), (9, _)] ⟨rfl, rfl, rfl, rfl, trivial⟩ ?_
  refine w_block ?_
  refine w_loop (fun j m H w => ∃ i : Nat, m = [(1, .string k), (7, .slice A1 l.length c1), (8, .int .i64 l.length), (9, .int .i64 i)] ∧ H = [] ∧ j + i = l.length ∧ k ∉ eks (l.take i)) l.length ⟨0, rfl, rfl, rfl, by simp [eks]⟩ ?_
  rintro j _ _ w' ⟨i, rfl, rfl, hj, hall⟩
  refine w_seq ?_
  refine w_reg ?_
  refine wl_f (f_lss rfl rfl) ?_
  refine wl_end [(1, _), (7, _), (8, _), (9, _), (10, _)] ⟨rfl, rfl, rfl, rfl, rfl, trivial⟩ ?_
  refine w_seq ?_
  refine w_ifd rfl (fun hc1 => ?_) (fun hc1 => ?_)
  · skip
    have hi : i < l.length := by omega
    obtain ⟨b1, o1, rfl, -, -, d1⟩ := g1.resolve_left (by omega)
    obtain ⟨p, hp⟩ : ∃ p, l[i]? = some p := ⟨_, List.getElem?_eq_getElem hi⟩
    refine w_skip ?_
    refine w_seq ?_
    refine w_block ?_
    refine w_seq ?_
    refine w_reg ?_
    refine wl_f (f_move rfl) ?_
    refine wl_f (f_indexAddr 3 (i := i) rfl rfl Try.underlying40 (by kernel_rfl) rfl hi) ?_
    refine wl_f (f_loadso (cs := ecell (some p)) rfl Try.underlying36 rfl (by kernel_rfl) (encs_at d1 hp) id) ?_
    refine wl_e (e_allocs [.string ByteArray.empty, .int .u64 0, .int .u64 0] (by kernel_rfl)) ?_
    rintro _ _ w3_3 ⟨b3_3, rfl, rfl⟩
    refine wl_f (f_assign rfl) ?_
    (first | refine wl_e0 (e_store0 (us := [_, _, _]) rfl rfl rfl (by kernel_rfl) (by simp [Value.oneCell']) rfl rfl) ?_ | refine wl_e0 (e_store1 (us := [_, _, _]) rfl rfl rfl (by kernel_rfl) (by simp [Value.oneCell']) rfl rfl) ?_ | refine wl_e0 (e_store2 (us := [_, _, _]) rfl rfl rfl (by kernel_rfl) (by simp [Value.oneCell']) rfl rfl) ?_ | refine wl_e0 (e_store3 (us := [_, _, _]) rfl rfl rfl (by kernel_rfl) (by simp [Value.oneCell']) rfl rfl) ?_)
    rintro _ _ w3_5 rfl
    refine wl_end [(1, _), (5, _), (6, _), (7, _), (8, _), (9, _)] ⟨rfl, rfl, rfl, rfl, rfl, rfl, trivial⟩ ?_
    refine w_seq ?_
    refine w_reg ?_
    refine wl_f (f_fieldAddr 0 rfl Try.underlying36 rfl rfl (by kernel_rfl)) ?_
    (first | refine wl_f (f_loadb 0 rfl Try.underlying9 rfl rfl rfl) ?_ | refine wl_f (f_loadb 1 rfl Try.underlying9 rfl rfl rfl) ?_ | refine wl_f (f_loadb 2 rfl Try.underlying9 rfl rfl rfl) ?_ | refine wl_f (f_loadb 3 rfl Try.underlying9 rfl rfl rfl) ?_ | refine wl_f (f_loadb 4 rfl Try.underlying9 rfl rfl rfl) ?_ | refine wl_f (f_loadb 5 rfl Try.underlying9 rfl rfl rfl) ?_ | refine wl_f (f_loadb 6 rfl Try.underlying9 rfl rfl rfl) ?_)
    refine wl_f (f_move rfl) ?_
    refine wl_f (f_eqls rfl rfl) ?_
    refine wl_pick [] rfl ?_
    refine wl_end [(1, _), (5, _), (7, _), (8, _), (9, _), (17, _)] ⟨rfl, rfl, rfl, rfl, rfl, rfl, trivial⟩ ?_
    refine w_ifd rfl (fun hc2 => ?_) (fun hc2 => ?_)
    · skip
      refine w_seq ?_
      refine w_reg ?_
      refine wl_f (f_move rfl) ?_
      refine wl_f (f_assign rfl) ?_
      refine wl_end [(4, _)] ⟨rfl, trivial⟩ ?_
      refine w_ret ?_
      refine ⟨_, _, fun a ha hh => results_tmps Try.results41 rfl a ha _, List.Sublist.refl _, ?_⟩
      refine ⟨rfl, i, rfl, .inr ⟨l.take i, p.2.1, p.2.2, l.drop (i + 1), ?_, hall, by rw [List.length_take]; omega⟩⟩
      obtain ⟨hlt, e⟩ := List.getElem?_eq_some_iff.1 hp
      have hz : (k, p.2.1, p.2.2) = l[i] := by rw [e, ← (show p.1 = k from hc2)]
      rw [hz, ← List.drop_eq_getElem_cons hlt, List.take_append_drop]
    · skip
      refine w_skip ?_
      refine w_reg ?_
      refine wl_f (f_add rfl rfl (by omega)) ?_
      refine wl_f (f_move rfl) ?_
      refine wl_end [(1, _), (7, _), (8, _), (9, _)] ⟨rfl, rfl, rfl, rfl, trivial⟩ ?_
      refine ⟨j - 1, by omega, i + 1, rfl, rfl, by omega, fun h => ?_⟩
      rw [List.take_add_one, hp, eks_app] at h
      rcases List.mem_append.1 h with h | h
      · exact hall h
      · simp [eks] at h; exact hc2 h.symm
  · skip
    refine w_exit0 ?_
    refine w_seq ?_
    refine w_reg ?_
    refine wl_f (f_assign rfl) ?_
    refine wl_end [(4, _)] ⟨rfl, trivial⟩ ?_
    refine w_ret ?_
    refine ⟨_, _, fun a ha hh => results_tmps Try.results41 rfl a ha _, List.Sublist.refl _, ?_⟩
    refine ⟨rfl, -1, rfl, .inl ⟨?_, rfl⟩⟩
    rw [List.take_of_length_le (by omega)] at hall
    exact hall
theorem rwithout_spec (A1 : Option Addr) (c1 : Nat) (A B : List En) (x : En) (w : World) (h1 : Rd w Nil 3 (.slice A1 (A ++ x :: B).length c1) (A ++ x :: B).length (encs (A ++ x :: B))) (hl : (A ++ x :: B).length ≤ 8192) :
    Spec Try.prog 42 [.slice A1 (A ++ x :: B).length c1, .int .i64 (A.length : Nat)] w Nil fun u H => ∃ U c, u = .slice U (A ++ B).length c ∧ H = [row (.slice U (A ++ B).length c) 36 3 (A ++ B).length (encs (A ++ B))] := by
  have hll : (A ++ x :: B).length = A.length + 1 + B.length := by simp; omega
  have hcap : (A ++ x :: B).length ≤ c1 := by
    obtain ⟨_, _, e, _, h, _⟩ := id h1
    injection e with _ _ e
    subst e
    exact h
  refine enter (n := 15) Try.func42 rfl rfl [(0, _), (1, _)] rfl ⟨rfl, rfl, trivial⟩ (Holds.start _ _) ?_
  refine w_seq ?_
  refine w_reg ?_
  refine wl_f (f_assign rfl) ?_
  refine wl_end [(0, _), (1, _)] ⟨rfl, rfl, trivial⟩ ?_
  refine w_seq ?_
  refine w_draw [(1, true), (2, true), (3, true), (5, true), (6, true), (7, true), (8, true), (0, false), (4, false), (9, false), (10, true)] ([]) ([]) mixed (by kernel_rfl) (by kernel_rfl) rfl (perm_all _) (fun w1_ => ?_)
  refine wd_f rfl (f_move rfl) ?_
  refine wd_f rfl (f_move rfl) ?_
  refine wd_f rfl (f_sliceA 3 (l := 0) (u := A.length) rfl Try.underlying40 (by kernel_rfl) rfl ⟨_, rfl⟩ (by omega) (by omega)) ?_
  refine wd_f rfl (f_move rfl) ?_
  refine wd_f rfl (f_move rfl) ?_
  refine wd_f rfl (f_eqv (v' := .int .i64 ((A.length + 1 : Nat) : Int)) (f_add rfl rfl (by omega)) (by congr 1)) ?_
  refine wd_f rfl (f_sliceA 3 (l := A.length + 1) (u := (A ++ x :: B).length) rfl Try.underlying40 (by kernel_rfl) ⟨_, rfl⟩ rfl (by omega) (by omega)) ?_
  refine wd_e rfl (e_lit0 t40) ?_
  rintro _ _ w1_0 ⟨b1_0, rfl, rfl⟩
  refine ⟨_, List.perm_middle.symm, ?_⟩
  refine wd_e rfl (e_appN 0 t40 rfl rfl rfl (fun w hh => (h1.old0 hh).cut (l := 0) (u := A.length) (by omega) (by omega)) (emid_one (encs_one _) _ _) (by omega) (by omega)) ?_
  rintro _ _ w2 ⟨⟨U1, a1, rfl⟩, rfl⟩
  refine ⟨_, List.Perm.refl _, ?_⟩
  refine wd_e rfl (e_appN 0 t40 rfl rfl rfl (fun w hh => (h1.old0 hh).cut (l := A.length + 1) (u := (A ++ x :: B).length) (by omega) (by omega)) (emid_one (encs_one _) _ _) (by omega) (by omega)) ?_
  rintro _ _ w3 ⟨⟨U2, a2, rfl⟩, rfl⟩
  refine ⟨_, List.Perm.refl _, ?_⟩
  refine wd_f rfl (f_assign rfl) ?_
  refine wd_end [(4, _)] ⟨rfl, trivial⟩ ?_
  refine w_ret ?_
  refine ⟨_, _, fun a ha hh => results_tmps Try.results42 rfl a ha _, List.Sublist.refl _, ?_⟩
  rw [encs_mid, encs_mid, List.drop_zero, Nat.sub_zero, List.take_left, List.take_of_length_le (by rw [List.length_drop]; omega)]
  rw [show (A ++ x :: B).drop (A.length + 1) = B by rw [← List.drop_drop, List.drop_left]; rfl]
  simp only [List.nil_append]
  rw [← encs_app, show 0 + A.length + ((A ++ x :: B).length - (A.length + 1)) = (A ++ B).length by have : (A ++ B).length = A.length + B.length := List.length_append; omega]
  exact ⟨U2, a2, rfl, rfl⟩
/-- What getting finds. -/
def RGet (mode : Nat) (l : List En) (base : Nat) (k k' : ByteArray) (o' s' : Nat) (is : Bool) : Prop :=
  (is = false ∧ k ∉ eks l ∧ k' = ByteArray.empty ∧ o' = 0 ∧ s' = 0) ∨ (is = true ∧ ∃ A s B, l = A ++ (k, o', s) :: B ∧ k ∉ eks A ∧ k' = k ∧ s' = if mode = 2 then base else s)
theorem encs_loc {A B : List En} {x : En} : (A ++ x :: B)[A.length]? = some x := by simp
set_option maxHeartbeats 2000000 in
theorem rget_spec (q mode n : Nat) (l : List En) (base sum : Nat) (r : Res) (k : ByteArray) (w : World) (hl : l.length ≤ 8192) (hr : RtR q mode n l base sum r) (hs : Holds w r.foot [r] w) :
    Spec Try.prog 26 [.pointer (some ⟨q, 0, .none⟩), .string k] w r.foot fun v H => H = [r] ∧ ∃ k' o' s' is, v = .tuple [enV k' o' s', .bool is].toArray ∧ RGet mode l base k k' o' s' is := by
  obtain ⟨LV, rfl⟩ := hr
  refine enter (n := 35) Try.func26 rfl rfl [(0, _), (1, _)] rfl ⟨rfl, rfl, trivial⟩ hs ?_
  refine w_seq ?_
  refine w_reg ?_
  refine wl_e (e_allocs [.string ByteArray.empty, .int .u64 0, .int .u64 0] (by kernel_rfl)) ?_
  rintro _ _ w0_0 ⟨b0_0, rfl, rfl⟩
  refine wl_f (f_assign rfl) ?_
  refine wl_end [(0, _), (1, _), (4, _)] ⟨rfl, rfl, rfl, trivial⟩ ?_
  refine w_seq ?_
  refine w_reg ?_
  refine wl_f (f_move rfl) ?_
  refine wl_f (f_nilCheck rfl) ?_
  refine wl_f (f_fieldAddr 2 rfl Try.underlying58 rfl rfl (by kernel_rfl)) ?_
  refine wl_f (f_loadB 1 0 rfl rfl rfl Try.underlying40 rfl rfl) ?_
  refine wl_f (f_move rfl) ?_
  refine wl_e (e_call0 rfl Try.func41 (by kernel_rfl) (fun w hh => rplace_spec LV l k w (Rd.heldB hh (i := 1) (j := 1) rfl rfl) hl)) ?_
  rintro _ _ w1 ⟨_, rfl, rfl, y, rfl, hy⟩
  refine wl_f (f_assign rfl) ?_
  refine wl_end [(0, _), (4, _), (6, _)] ⟨rfl, rfl, rfl, trivial⟩ ?_
  refine w_seq ?_
  refine w_seq ?_
  refine w_reg ?_
  refine wl_f (f_move rfl) ?_
  refine wl_f (f_lss rfl rfl) ?_
  refine wl_end [(0, _), (4, _), (6, _), (15, _)] ⟨rfl, rfl, rfl, rfl, trivial⟩ ?_
  refine w_ifd rfl (fun hc1 => ?_) (fun hc1 => ?_)
  · skip
    have hno := rplE_no hy hc1
    refine w_seq ?_
    refine w_reg ?_
    refine wl_f (f_build rfl build_entry0) ?_
    (first | refine wl_e0 (e_store0 (us := [_, _, _]) rfl rfl rfl (by kernel_rfl) (by simp [Value.oneCell']) rfl rfl) ?_ | refine wl_e0 (e_store1 (us := [_, _, _]) rfl rfl rfl (by kernel_rfl) (by simp [Value.oneCell']) rfl rfl) ?_ | refine wl_e0 (e_store2 (us := [_, _, _]) rfl rfl rfl (by kernel_rfl) (by simp [Value.oneCell']) rfl rfl) ?_ | refine wl_e0 (e_store3 (us := [_, _, _]) rfl rfl rfl (by kernel_rfl) (by simp [Value.oneCell']) rfl rfl) ?_)
    rintro _ _ w3_1 rfl
    refine wl_f (f_assign rfl) ?_
    refine wl_end [(4, _), (5, _)] ⟨rfl, rfl, trivial⟩ ?_
    refine w_pick [1, 0] rfl ?_
    refine w_ret ?_
    refine ⟨_, _, fun a ha hh => results_mix Try.results26 (rm_cell (cell_agg 1 rfl Try.underlying36 rfl (by kernel_rfl) rfl) (rm_tmp rfl rm_nil)) a ha _ hh, (List.nil_sublist _).cons_cons _, ?_⟩
    exact ⟨rfl, ByteArray.empty, 0, 0, false, rfl, .inl ⟨rfl, hno, rfl, rfl, rfl⟩⟩
  · skip
    obtain ⟨A, o, s, B, rfl, hA, rfl⟩ := rplE_at hy hc1
    have hAl : A.length < (A ++ (k, o, s) :: B).length := by simp
    refine w_with fun hh => ?_
    obtain ⟨g, cap, e⟩ := rowB_form hh (i := 1) (j := 1) rfl rfl (by omega)
    subst e
    clear hh
    refine w_skip ?_
    refine w_seq ?_
    refine w_reg ?_
    refine wl_f (f_move rfl) ?_
    refine wl_f (f_nilCheck rfl) ?_
    refine wl_f (f_fieldAddr 2 rfl Try.underlying58 rfl rfl (by kernel_rfl)) ?_
    refine wl_f (f_loadB 1 0 rfl rfl rfl Try.underlying40 rfl rfl) ?_
    refine wl_f (f_move rfl) ?_
    refine wl_f (f_indexAddr 3 (i := A.length) rfl rfl Try.underlying40 (by kernel_rfl) rfl hAl) ?_
    refine wl_f (f_loadsBr (cs := ecell (some (k, o, s))) 1 1 rfl rfl rfl Try.underlying36 rfl (by kernel_rfl) (encs_get encs_loc)) ?_
    refine wl_e (e_allocs [.string ByteArray.empty, .int .u64 0, .int .u64 0] (by kernel_rfl)) ?_
    rintro _ _ w4_7 ⟨b4_7, rfl, rfl⟩
    (first | refine wl_e0 (e_store0 (us := [_, _, _]) rfl rfl rfl (by kernel_rfl) (by simp [Value.oneCell']) rfl rfl) ?_ | refine wl_e0 (e_store1 (us := [_, _, _]) rfl rfl rfl (by kernel_rfl) (by simp [Value.oneCell']) rfl rfl) ?_ | refine wl_e0 (e_store2 (us := [_, _, _]) rfl rfl rfl (by kernel_rfl) (by simp [Value.oneCell']) rfl rfl) ?_ | refine wl_e0 (e_store3 (us := [_, _, _]) rfl rfl rfl (by kernel_rfl) (by simp [Value.oneCell']) rfl rfl) ?_)
    rintro _ _ w4_8 rfl
    refine wl_end [(0, _), (4, _), (7, _)] ⟨rfl, rfl, rfl, trivial⟩ ?_
    refine w_seq ?_
    refine w_seq ?_
    refine w_reg ?_
    refine wl_f (f_move rfl) ?_
    refine wl_f (f_nilCheck rfl) ?_
    refine wl_f (f_fieldAddr 0 rfl Try.underlying58 rfl rfl (by kernel_rfl)) ?_
    refine wl_f (f_loadB 2 0 rfl rfl rfl Try.underlying3 rfl rfl) ?_
    refine wl_f (f_eql rfl rfl) ?_
    refine wl_end [(0, _), (4, _), (7, _), (28, _)] ⟨rfl, rfl, rfl, rfl, trivial⟩ ?_
    refine w_post (fun m' H w' => m' = [(4, .pointer (some ⟨b0_0, 0, .none⟩)), (7, .pointer (some ⟨b4_7, 0, .none⟩))] ∧ H = [blk b4_7 [.string k, .int .u64 (o : Int), .int .u64 ((if mode = 2 then base else s : Nat) : Int)] 36, blk b0_0 [.string ByteArray.empty, .int .u64 0, .int .u64 0] 36, bun (rts q mode n (A ++ (k, o, s) :: B) (.slice (some ⟨g, 0, .none⟩) (A ++ (k, o, s) :: B).length cap) base sum)]) ?_ ?_
    · skip
      refine w_ifd rfl (fun hc2 => ?_) (fun hc2 => ?_)
      · skip
        have hm2 : mode = 2 := by have : (mode : Int) = 2 := hc2; omega
        refine w_reg ?_
        refine wl_f (f_move rfl) ?_
        refine wl_f (f_nilCheck rfl) ?_
        refine wl_f (f_fieldAddr 3 rfl Try.underlying58 rfl rfl (by kernel_rfl)) ?_
        refine wl_f (f_loadB 2 0 rfl rfl rfl Try.underlying33 rfl rfl) ?_
        refine wl_f (f_fieldAddr 2 rfl Try.underlying36 rfl rfl (by kernel_rfl)) ?_
        (first | refine wl_e0 (e_store0 (us := [_]) rfl rfl rfl (by kernel_rfl) (by simp [Value.oneCell']) rfl rfl) ?_ | refine wl_e0 (e_store1 (us := [_]) rfl rfl rfl (by kernel_rfl) (by simp [Value.oneCell']) rfl rfl) ?_ | refine wl_e0 (e_store2 (us := [_]) rfl rfl rfl (by kernel_rfl) (by simp [Value.oneCell']) rfl rfl) ?_ | refine wl_e0 (e_store3 (us := [_]) rfl rfl rfl (by kernel_rfl) (by simp [Value.oneCell']) rfl rfl) ?_)
        rintro _ _ w6_5 rfl
        refine wl_end [(4, _), (7, _)] ⟨rfl, rfl, trivial⟩ ?_
        rw [if_pos hm2]; exact ⟨rfl, rfl⟩
      · skip
        refine w_sub [(4, _), (7, _)] ⟨rfl, rfl, trivial⟩ (w_skip ?_)
        rw [if_neg (fun e => hc2 (by rw [e]; rfl))]; exact ⟨rfl, rfl⟩
    · rintro _ _ w4 ⟨rfl, rfl⟩
      refine w_seq ?_
      refine w_reg ?_
      (first | refine wl_f (f_loadsb (cs := [_, _, _]) 0 rfl Try.underlying36 rfl (by kernel_rfl) rfl rfl) ?_ | refine wl_f (f_loadsb (cs := [_, _, _]) 1 rfl Try.underlying36 rfl (by kernel_rfl) rfl rfl) ?_ | refine wl_f (f_loadsb (cs := [_, _, _]) 2 rfl Try.underlying36 rfl (by kernel_rfl) rfl rfl) ?_ | refine wl_f (f_loadsb (cs := [_, _, _]) 3 rfl Try.underlying36 rfl (by kernel_rfl) rfl rfl) ?_ | refine wl_f (f_loadsb (cs := [_, _, _]) 4 rfl Try.underlying36 rfl (by kernel_rfl) rfl rfl) ?_ | refine wl_f (f_loadsb (cs := [_, _, _]) 5 rfl Try.underlying36 rfl (by kernel_rfl) rfl rfl) ?_ | refine wl_f (f_loadsb (cs := [_, _, _]) 6 rfl Try.underlying36 rfl (by kernel_rfl) rfl rfl) ?_)
      (first | refine wl_e0 (e_store0 (us := [_, _, _]) rfl rfl rfl (by kernel_rfl) (by simp [Value.oneCell']) rfl rfl) ?_ | refine wl_e0 (e_store1 (us := [_, _, _]) rfl rfl rfl (by kernel_rfl) (by simp [Value.oneCell']) rfl rfl) ?_ | refine wl_e0 (e_store2 (us := [_, _, _]) rfl rfl rfl (by kernel_rfl) (by simp [Value.oneCell']) rfl rfl) ?_ | refine wl_e0 (e_store3 (us := [_, _, _]) rfl rfl rfl (by kernel_rfl) (by simp [Value.oneCell']) rfl rfl) ?_)
      rintro _ _ w7_1 rfl
      refine wl_f (f_assign rfl) ?_
      refine wl_end [(4, _), (5, _)] ⟨rfl, rfl, trivial⟩ ?_
      refine w_pick [2, 1] rfl ?_
      refine w_ret ?_
      refine ⟨_, _, fun a ha hh => results_mix Try.results26 (rm_cell (cell_agg 1 rfl Try.underlying36 rfl (by kernel_rfl) rfl) (rm_tmp rfl rm_nil)) a ha _ hh, (List.nil_sublist _).cons_cons _, ?_⟩
      exact ⟨rfl, k, o, _, true, rfl, .inr ⟨rfl, A, s, B, rfl, hA, rfl, rfl⟩⟩
/-- What is left after taking. -/
def RTake (l : List En) (k : ByteArray) (l' : List En) : Prop := (k ∉ eks l ∧ l' = l) ∨ ∃ A x B, l = A ++ x :: B ∧ x.1 = k ∧ k ∉ eks A ∧ l' = A ++ B
set_option maxHeartbeats 2000000 in
theorem rtake_spec (q mode n : Nat) (l : List En) (base sum : Nat) (r : Res) (k : ByteArray) (w : World) (hl : l.length ≤ 8192) (hr : RtR q mode n l base sum r) (hs : Holds w r.foot [r] w) :
    Spec Try.prog 23 [.pointer (some ⟨q, 0, .none⟩), .string k] w r.foot fun v H => ∃ k' o' s' is l' r', v = .tuple [enV k' o' s', .bool is].toArray ∧ RGet mode l base k k' o' s' is ∧ H = [r'] ∧ RtR q mode n l' base sum r' ∧ RTake l k l' := by
  obtain ⟨LV, rfl⟩ := id hr
  refine enter (n := 31) Try.func23 rfl rfl [(0, _), (1, _)] rfl ⟨rfl, rfl, trivial⟩ hs ?_
  refine w_seq ?_
  refine w_reg ?_
  refine wl_e (e_allocs [.string ByteArray.empty, .int .u64 0, .int .u64 0] (by kernel_rfl)) ?_
  rintro _ _ w0_0 ⟨b0_0, rfl, rfl⟩
  refine wl_f (f_assign rfl) ?_
  refine wl_end [(0, _), (1, _), (4, _)] ⟨rfl, rfl, rfl, trivial⟩ ?_
  refine w_seq ?_
  refine w_reg ?_
  refine wl_f (f_move rfl) ?_
  refine wl_f (f_move rfl) ?_
  refine wl_e (e_call1 _ [_] rfl Try.func26 (by kernel_rfl) (pk1 1 rfl) (fun w hh hs' => rget_spec q mode n l base sum _ k w hl hr hs')) ?_
  rintro _ _ w1 ⟨_, rfl, rfl, k', o', s', is, rfl, hG⟩
  refine wl_f (f_move rfl) ?_
  refine wl_f (f_extract rfl rfl) ?_
  refine wl_f (f_extract rfl rfl) ?_
  refine wl_e (e_allocs [.string ByteArray.empty, .int .u64 0, .int .u64 0] (by kernel_rfl)) ?_
  rintro _ _ w1_6 ⟨b1_6, rfl, rfl⟩
  (first | refine wl_e0 (e_store0 (us := [_, _, _]) rfl rfl rfl (by kernel_rfl) (by simp [Value.oneCell']) rfl rfl) ?_ | refine wl_e0 (e_store1 (us := [_, _, _]) rfl rfl rfl (by kernel_rfl) (by simp [Value.oneCell']) rfl rfl) ?_ | refine wl_e0 (e_store2 (us := [_, _, _]) rfl rfl rfl (by kernel_rfl) (by simp [Value.oneCell']) rfl rfl) ?_ | refine wl_e0 (e_store3 (us := [_, _, _]) rfl rfl rfl (by kernel_rfl) (by simp [Value.oneCell']) rfl rfl) ?_)
  rintro _ _ w1_7 rfl
  refine wl_f (f_assign rfl) ?_
  refine wl_end [(0, _), (1, _), (4, _), (6, _), (7, _)] ⟨rfl, rfl, rfl, rfl, rfl, trivial⟩ ?_
  refine w_seq ?_
  refine w_seq ?_
  refine w_reg ?_
  refine wl_f (f_move rfl) ?_
  refine wl_end [(0, _), (1, _), (4, _), (6, _), (7, _), (14, _)] ⟨rfl, rfl, rfl, rfl, rfl, rfl, trivial⟩ ?_
  refine w_post (fun m' H w' => m' = [(4, .pointer (some ⟨b0_0, 0, .none⟩)), (6, .pointer (some ⟨b1_6, 0, .none⟩)), (7, .bool is)] ∧ ∃ l' v', H = rts q mode n l' v' base sum ++ [blk b1_6 [.string k', .int .u64 (o' : Int), .int .u64 (s' : Int)] 36, blk b0_0 [.string ByteArray.empty, .int .u64 0, .int .u64 0] 36] ∧ RTake l k l') ?_ ?_
  · skip
    refine w_ifb rfl (fun hc1 => ?_) (fun hc1 => ?_)
    · skip
      obtain ⟨A, s, B, rfl, hA, _, _⟩ : ∃ A s B, l = A ++ (k, o', s) :: B ∧ k ∉ eks A ∧ k' = k ∧ s' = if mode = 2 then base else s := by
        rcases hG with ⟨h, _⟩ | ⟨_, h⟩
        · rw [h] at hc1; cases hc1
        · exact h
      have hAl : 0 < (A ++ (k, o', s) :: B).length := by simp; omega
      refine w_pick [1, 0, 0] rfl ?_
      refine w_with fun hh => ?_
      obtain ⟨g, cap, e⟩ := rowB_form hh (i := 0) (j := 1) rfl rfl (by omega)
      subst e
      clear hh
      refine w_unb [_, _] ?_
      refine w_drawk [(0, true), (1, true), (2, true), (3, true), (4, true), (5, true), (6, true), (7, true), (8, true), (9, true), (10, false), (11, false), (12, true), (13, true), (14, false)] ([(_, some 14), (_, none)]) ([_, _]) mixed (by kernel_rfl) (by kernel_rfl) rfl rfl (pick_perm [0, 0] _ rfl) (fun w3_ => ?_)
      refine wk_f rfl (f_move rfl) ?_
      refine wk_f rfl (f_move rfl) ?_
      refine wk_f rfl (f_nilCheck rfl) ?_
      refine wk_f rfl (f_fieldAddr 2 rfl Try.underlying58 rfl rfl (by kernel_rfl)) ?_
      (first | refine wk_f rfl (f_loadb 0 rfl Try.underlying40 rfl rfl rfl) ?_ | refine wk_f rfl (f_loadb 1 rfl Try.underlying40 rfl rfl rfl) ?_ | refine wk_f rfl (f_loadb 2 rfl Try.underlying40 rfl rfl rfl) ?_ | refine wk_f rfl (f_loadb 3 rfl Try.underlying40 rfl rfl rfl) ?_ | refine wk_f rfl (f_loadb 4 rfl Try.underlying40 rfl rfl rfl) ?_ | refine wk_f rfl (f_loadb 5 rfl Try.underlying40 rfl rfl rfl) ?_ | refine wk_f rfl (f_loadb 6 rfl Try.underlying40 rfl rfl rfl) ?_)
      refine wk_f rfl (f_move rfl) ?_
      refine wk_f rfl (f_nilCheck rfl) ?_
      refine wk_f rfl (f_fieldAddr 2 rfl Try.underlying58 rfl rfl (by kernel_rfl)) ?_
      (first | refine wk_f rfl (f_loadb 0 rfl Try.underlying40 rfl rfl rfl) ?_ | refine wk_f rfl (f_loadb 1 rfl Try.underlying40 rfl rfl rfl) ?_ | refine wk_f rfl (f_loadb 2 rfl Try.underlying40 rfl rfl rfl) ?_ | refine wk_f rfl (f_loadb 3 rfl Try.underlying40 rfl rfl rfl) ?_ | refine wk_f rfl (f_loadb 4 rfl Try.underlying40 rfl rfl rfl) ?_ | refine wk_f rfl (f_loadb 5 rfl Try.underlying40 rfl rfl rfl) ?_ | refine wk_f rfl (f_loadb 6 rfl Try.underlying40 rfl rfl rfl) ?_)
      refine wk_f rfl (f_move rfl) ?_
      refine wk_e rfl (e_call0 rfl Try.func41 (by kernel_rfl) (fun w hh => rplace_spec _ _ k w (Rd.held0 hh (i := 1) rfl) hl)) ?_
      rintro _ _ w2 ⟨_, rfl, rfl, y, rfl, hy⟩
      refine ⟨_, List.Perm.refl _, ?_⟩
      obtain rfl : y = (A.length : Nat) := rplE_uniq hA hy
      refine wk_e rfl (e_call0 rfl Try.func42 (by kernel_rfl) (fun w hh => rwithout_spec _ _ A B _ w (Rd.held0 hh (i := 1) rfl) hl)) ?_
      rintro _ _ w3 ⟨_, rfl, U2, u2, rfl, rfl⟩
      refine ⟨_, (List.Perm.swap ..).trans ((List.Perm.swap ..).cons _), ?_⟩
      refine wk_f rfl (f_nilCheck rfl) ?_
      refine wk_f rfl (f_fieldAddr 2 rfl Try.underlying58 rfl rfl (by kernel_rfl)) ?_
      refine wk_e0 rfl (e_storeN 0 (us := [_]) rfl rfl rfl rfl (by kernel_rfl) (by simp [Value.oneCell']) rfl rfl) ?_
      rintro _ _ w4 rfl
      refine ⟨_, List.Perm.swap .., ?_⟩
      refine wk_endp [(4, _), (6, _), (7, _)] [1, 1, 1, 1] ⟨rfl, rfl, rfl, trivial⟩ rfl ?_
      exact ⟨rfl, A ++ B, _, rfl, .inr ⟨A, _, B, rfl, rfl, hA, rfl⟩⟩
    · skip
      refine w_pick [1, 0, 0] rfl ?_
      refine w_unb [_, _] ?_
      refine w_sub [(4, _), (6, _), (7, _)] ⟨rfl, rfl, rfl, trivial⟩ (w_skip ?_)
      refine ⟨rfl, l, LV, rfl, .inl ⟨?_, rfl⟩⟩
      rcases hG with ⟨_, h, _⟩ | ⟨h, _⟩
      · exact h
      · exact absurd h hc1
  · rintro _ _ w5 ⟨rfl, l', v', rfl, hT⟩
    refine w_bun (H := [_, _]) [_, _] ?_
    refine w_seq ?_
    refine w_reg ?_
    (first | refine wl_f (f_loadsb (cs := [_, _, _]) 0 rfl Try.underlying36 rfl (by kernel_rfl) rfl rfl) ?_ | refine wl_f (f_loadsb (cs := [_, _, _]) 1 rfl Try.underlying36 rfl (by kernel_rfl) rfl rfl) ?_ | refine wl_f (f_loadsb (cs := [_, _, _]) 2 rfl Try.underlying36 rfl (by kernel_rfl) rfl rfl) ?_ | refine wl_f (f_loadsb (cs := [_, _, _]) 3 rfl Try.underlying36 rfl (by kernel_rfl) rfl rfl) ?_ | refine wl_f (f_loadsb (cs := [_, _, _]) 4 rfl Try.underlying36 rfl (by kernel_rfl) rfl rfl) ?_ | refine wl_f (f_loadsb (cs := [_, _, _]) 5 rfl Try.underlying36 rfl (by kernel_rfl) rfl rfl) ?_ | refine wl_f (f_loadsb (cs := [_, _, _]) 6 rfl Try.underlying36 rfl (by kernel_rfl) rfl rfl) ?_)
    refine wl_f (f_move rfl) ?_
    (first | refine wl_e0 (e_store0 (us := [_, _, _]) rfl rfl rfl (by kernel_rfl) (by simp [Value.oneCell']) rfl rfl) ?_ | refine wl_e0 (e_store1 (us := [_, _, _]) rfl rfl rfl (by kernel_rfl) (by simp [Value.oneCell']) rfl rfl) ?_ | refine wl_e0 (e_store2 (us := [_, _, _]) rfl rfl rfl (by kernel_rfl) (by simp [Value.oneCell']) rfl rfl) ?_ | refine wl_e0 (e_store3 (us := [_, _, _]) rfl rfl rfl (by kernel_rfl) (by simp [Value.oneCell']) rfl rfl) ?_)
    rintro _ _ w4_2 rfl
    refine wl_f (f_assign rfl) ?_
    refine wl_end [(4, _), (5, _)] ⟨rfl, rfl, trivial⟩ ?_
    refine w_pick [2, 0] rfl ?_
    refine w_ret ?_
    refine ⟨_, _, fun a ha hh => results_mix Try.results23 (rm_cell (cell_agg 0 rfl Try.underlying36 rfl (by kernel_rfl) rfl) (rm_tmp rfl rm_nil)) a ha _ hh, List.sublist_cons_self .., ?_⟩
    exact ⟨k', o', s', is, l', _, rfl, hG, rfl, ⟨v', rfl⟩, hT⟩
end Go.Proofs.Ytkoklfagmbaapaa
