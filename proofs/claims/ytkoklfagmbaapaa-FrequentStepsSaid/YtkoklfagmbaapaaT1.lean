/- Entries of tables: as cells, as values; the deck's short texts and entries. -/
import Derived.Test.YtkoklfagmbaapaaI8
import Derived.Test.YtkoklfagmbaapaaK8
namespace Go.Proofs.Ytkoklfagmbaapaa
open Go.RowKit

abbrev En := ByteArray × Nat × Nat
def ecell : Option En → List Value
  | none => [.string ByteArray.empty, .int .u64 0, .int .u64 0]
  | some x => [.string x.1, .int .u64 (x.2.1 : Int), .int .u64 (x.2.2 : Int)]
def ecells (E : List (Option En)) : List Value := E.flatMap ecell
theorem ecell_len (o : Option En) : (ecell o).length = 3 := by cases o <;> rfl
theorem ecells_len (E : List (Option En)) : (ecells E).length = E.length * 3 := by
  induction E with
  | nil => rfl
  | cons o E ih => simp only [ecells, List.flatMap_cons, List.length_append, ecell_len, List.length_cons] at ih ⊢; omega
theorem ecells_get {E : List (Option En)} {i : Nat} {o : Option En} (h : E[i]? = some o) : ((ecells E).drop (0 + i * 3)).take 3 = ecell o := by
  obtain ⟨hi, rfl⟩ := List.getElem?_eq_some_iff.1 h
  have e : E = E.take i ++ E[i] :: E.drop (i + 1) := by rw [← List.drop_eq_getElem_cons hi, List.take_append_drop]
  have hl : (ecells (E.take i)).length = i * 3 := by rw [ecells_len, List.length_take]; omega
  have e2 : ecells E = ecells (E.take i) ++ (ecell E[i] ++ ecells (E.drop (i + 1))) := by
    conv => lhs; rw [e]
    simp only [ecells, List.flatMap_append, List.flatMap_cons]
  rw [e2, Nat.zero_add, ← hl, List.drop_left, List.take_append_of_le_length (by rw [ecell_len]; exact Nat.le_refl _), List.take_of_length_le (by rw [ecell_len]; exact Nat.le_refl _)]
theorem ecells_set {E : List (Option En)} {i : Nat} (o : Option En) (hi : i < E.length) : (ecells E).take (0 + i * 3) ++ ecell o ++ (ecells E).drop (0 + i * 3 + 3) = ecells (E.set i o) := by
  have e : E = E.take i ++ E[i] :: E.drop (i + 1) := by rw [← List.drop_eq_getElem_cons hi, List.take_append_drop]
  have hl : (ecells (E.take i)).length = i * 3 := by rw [ecells_len, List.length_take]; omega
  have e2 : ecells E = ecells (E.take i) ++ (ecell E[i] ++ ecells (E.drop (i + 1))) := by
    conv => lhs; rw [e]
    simp only [ecells, List.flatMap_append, List.flatMap_cons]
  have e3 : E.set i o = E.take i ++ o :: E.drop (i + 1) := List.set_eq_take_append_cons_drop.trans (if_pos hi)
  have e4 : ecells (E.set i o) = ecells (E.take i) ++ (ecell o ++ ecells (E.drop (i + 1))) := by
    rw [e3]; simp only [ecells, List.flatMap_append, List.flatMap_cons]
  rw [e4, e2, Nat.zero_add, ← hl, List.take_left, List.append_assoc]
  congr 2
  rw [← List.append_assoc, show (ecells (E.take i)).length + 3 = (ecells (E.take i) ++ ecell E[i]).length by rw [List.length_append, ecell_len], List.drop_left]
theorem ecells_j {E : List (Option En)} {i : Nat} {o : Option En} (h : E[i]? = some o) (j : Nat) {v : Value} (hj : (ecell o)[j]? = some v) (hj3 : j < 3) : (ecells E)[0 + i * 3 + j]? = some v := by
  have h1 : (((ecells E).drop (0 + i * 3)).take 3)[j]? = some v := by rw [ecells_get h]; exact hj
  rw [List.getElem?_take, if_pos hj3, List.getElem?_drop] at h1
  exact h1

theorem t40 : SlT Try.prog 40 36 3 32 (.agg #[.string ByteArray.empty, .int .u64 0, .int .u64 0]) := .mk' Try.underlying40 (by kernel_rfl) rfl (by decide)
theorem build_entry0 (w : World) : (Instr.build 36 #[]).run Try.prog w = .ok (.agg [.string ByteArray.empty, .int .u64 0, .int .u64 0].toArray) w := by kernel_rfl
theorem build_entry (k : ByteArray) (o s : Int) (w : World) : (Instr.build 36 [(0, .string k), (1, .int .u64 o), (2, .int .u64 s)].toArray).run Try.prog w = .ok (.agg [.string k, .int .u64 o, .int .u64 s].toArray) w := by kernel_rfl
theorem ecells_app (A B : List (Option En)) : ecells (A ++ B) = ecells A ++ ecells B := by simp [ecells]
def enZ : Value := .agg #[.string ByteArray.empty, .int .u64 0, .int .u64 0]
def enV (k : ByteArray) (o s : Nat) : Value := .agg #[.string k, .int .u64 (o : Int), .int .u64 (s : Int)]
def encs (l : List En) : List Value := ecells (l.map some)
def lsum (l : List En) : Nat := (l.map fun x => x.2.1 + x.2.2).sum
theorem encs_snoc (l : List En) (x : En) : encs (l ++ [x]) = encs l ++ [.string x.1, .int .u64 (x.2.1 : Int), .int .u64 (x.2.2 : Int)] := by
  rw [encs, List.map_append, ecells_app]; rfl

set_option maxHeartbeats 1000000 in
theorem short3_spec (b : Nat) (lv : Value) (L : List Int) (p : Nat) (w : World) (hd : DRd w b lv L p) (hs : Holds w (deck b lv p).foot [deck b lv p] w) :
    Spec Try.prog 10 [.pointer (some ⟨b, 0, .none⟩)] w (deck b lv p).foot fun r H => ∃ (s : ByteArray) (p' : Nat), r = .string s ∧ (2 ≤ s.size ∧ s.size ≤ 3) ∧ H = [deck b lv p'] ∧ p' ≤ L.length := by
  refine enter (n := 14) Try.func10 rfl rfl [(0, _)] rfl ⟨rfl, trivial⟩ hs ?_
  refine w_seq ?_
  refine w_reg ?_
  refine wl_f (f_assign rfl) ?_
  refine wl_end [(0, _)] ⟨rfl, trivial⟩ ?_
  refine w_seq ?_
  refine w_drawk [(0, true), (4, true), (1, false), (2, true), (3, true), (5, false), (6, true), (7, true), (8, false), (9, false), (10, true), (11, true)] ([]) ([_]) mixed (by kernel_rfl) (by kernel_rfl) rfl rfl (List.Perm.refl _) (fun w1_ => ?_)
  refine wk_f rfl (f_move rfl) ?_
  refine wk_f rfl (f_move rfl) ?_
  refine wk_e rfl (e_call1 (deck b lv p) [] rfl Try.func32 (by kernel_rfl) (List.Perm.refl _) (fun w hh hs' => next_spec b lv L p 2 w ⟨hd.1.old1 hh (List.Perm.refl _), hd.2⟩ hs' (by omega))) ?_
  rintro _ _ w1 ⟨_, rfl, y1, p1, rfl, hy1, rfl, hp1⟩
  refine ⟨_, List.Perm.refl _, ?_⟩
  refine wk_f rfl (f_eqv (v' := .int .i64 ((1 + y1 : Nat) : Int)) (f_add rfl rfl (by omega)) (by congr 1)) ?_
  refine wk_f rfl (f_slices (l := 0) (u := 1 + y1) rfl Try.underlying9 rfl ⟨_, rfl⟩ (by omega) (show 1 + y1 ≤ 8 by omega)) ?_
  refine wk_e rfl (e_call1 (deck b lv p1) [] rfl Try.func32 (by kernel_rfl) (List.Perm.refl _) (fun w hh hs' => next_spec b lv L p1 5 w ⟨hd.1.old1 hh (List.Perm.refl _), hd.2.1, hp1⟩ hs' (by omega))) ?_
  rintro _ _ w2 ⟨_, rfl, y2, p2, rfl, hy2, rfl, hp2⟩
  refine ⟨_, List.Perm.refl _, ?_⟩
  refine wk_f rfl (f_eqv (v' := .int .i64 ((97 + y2 : Nat) : Int)) (f_add rfl rfl (by omega)) (by congr 1)) ?_
  refine wk_f rfl (f_convb rfl Try.underlying3 Try.underlying5 (by omega)) ?_
  refine wk_e rfl (e_lit1 (cs := [_]) t44 rfl rfl rfl (by omega)) ?_
  rintro _ _ w1_8 ⟨b1_8, rfl, rfl⟩
  refine ⟨_, List.perm_middle.symm, ?_⟩
  refine wk_e rfl (f_b2s (xs := [97 + y2]) rfl Try.underlying44 Try.underlying5 Try.underlying9 (fun w hh => Rd.held0 hh (i := 0) rfl)).eff ?_
  rintro _ _ _ ⟨rfl, rfl⟩
  refine ⟨_, List.Perm.refl _, ?_⟩
  refine wk_f rfl (f_adds rfl rfl (by rw [str_size, ByteArray.size_extract]; show min (1 + y1) 8 - 0 + 1 ≤ _; omega)) ?_
  refine wk_f rfl (f_assign rfl) ?_
  refine wk_endp [(2, _)] [1] ⟨rfl, trivial⟩ rfl ?_
  refine w_ret ?_
  refine ⟨_, _, fun a ha hh => results_tmps Try.results10 rfl a ha _, List.Sublist.refl _, ?_⟩
  have hsz : ∀ n, n = min (1 + y1) 8 - 0 + 1 → 2 ≤ n ∧ n ≤ 3 := fun n h => by omega
  exact ⟨_, p2, rfl, by rw [ByteArray.size_append, str_size, ByteArray.size_extract]; exact hsz _ rfl, rfl, hp2⟩
theorem ne_of_size {a b : ByteArray} (h : a.size ≠ b.size) : a ≠ b := fun e => h (by rw [e])
set_option maxHeartbeats 1000000 in
theorem entry_spec (b : Nat) (lv : Value) (L : List Int) (p : Nat) (w : World) (hd : DRd w b lv L p) (hs : Holds w (deck b lv p).foot [deck b lv p] w) :
    Spec Try.prog 24 [.pointer (some ⟨b, 0, .none⟩)] w (deck b lv p).foot fun r H => ∃ (k : ByteArray) (o s p' : Nat), r = enV k o s ∧ (2 ≤ k.size ∧ k.size ≤ 3) ∧ o < 30 ∧ s < 10 ∧ H = [deck b lv p'] ∧ p' ≤ L.length := by
  refine enter (n := 12) Try.func24 rfl rfl [(0, _)] rfl ⟨rfl, trivial⟩ hs ?_
  refine w_seq ?_
  refine w_reg ?_
  refine wl_e (e_allocs [.string ByteArray.empty, .int .u64 0, .int .u64 0] (by kernel_rfl)) ?_
  rintro _ _ w0_0 ⟨b0_0, rfl, rfl⟩
  refine wl_end [(0, _), (2, _)] ⟨rfl, rfl, trivial⟩ ?_
  refine w_seq ?_
  refine w_reg ?_
  refine wl_f (f_move rfl) ?_
  refine wl_e (e_call1 (deck b lv p) [_] rfl Try.func10 (by kernel_rfl) (pk1 1 rfl) (fun w hh hs' => short3_spec b lv L p w ⟨hd.1.old1 hh (pk1 1 rfl), hd.2⟩ hs')) ?_
  rintro _ _ w1 ⟨_, rfl, k, p1, rfl, hk3, rfl, hp1⟩
  refine wl_f (f_move rfl) ?_
  refine wl_e (e_call1 (deck b lv p1) [_] rfl Try.func32 (by kernel_rfl) (List.Perm.refl _) (fun w hh hs' => next_spec b lv L p1 30 w ⟨hd.1.old1 hh (List.Perm.refl _), hd.2.1, hp1⟩ hs' (by omega))) ?_
  rintro _ _ w2 ⟨_, rfl, o, p2, rfl, ho, rfl, hp2⟩
  refine wl_f (f_convu rfl Try.underlying3 Try.underlying33 (by omega)) ?_
  refine wl_f (f_move rfl) ?_
  refine wl_e (e_call1 (deck b lv p2) [_] rfl Try.func32 (by kernel_rfl) (List.Perm.refl _) (fun w hh hs' => next_spec b lv L p2 10 w ⟨hd.1.old1 hh (List.Perm.refl _), hd.2.1, hp2⟩ hs' (by omega))) ?_
  rintro _ _ w3 ⟨_, rfl, s, p3, rfl, hs1, rfl, hp3⟩
  refine wl_f (f_convu rfl Try.underlying3 Try.underlying33 (by omega)) ?_
  refine wl_f (f_build rfl (fun w => build_entry _ _ _ w)) ?_
  (first | refine wl_e0 (e_store0 (us := [_, _, _]) rfl rfl rfl (by kernel_rfl) (by simp [Value.oneCell']) rfl rfl) ?_ | refine wl_e0 (e_store1 (us := [_, _, _]) rfl rfl rfl (by kernel_rfl) (by simp [Value.oneCell']) rfl rfl) ?_ | refine wl_e0 (e_store2 (us := [_, _, _]) rfl rfl rfl (by kernel_rfl) (by simp [Value.oneCell']) rfl rfl) ?_ | refine wl_e0 (e_store3 (us := [_, _, _]) rfl rfl rfl (by kernel_rfl) (by simp [Value.oneCell']) rfl rfl) ?_)
  rintro _ _ w1_9 rfl
  refine wl_end [(2, _)] ⟨rfl, trivial⟩ ?_
  refine w_pick [1, 0] rfl ?_
  refine w_ret ?_
  refine ⟨_, _, fun a ha hh => results_cell 0 Try.results24 rfl a ha hh Try.underlying36 rfl (by kernel_rfl) rfl, List.sublist_cons_self .., ?_⟩
  exact ⟨k, o, s, p3, rfl, hk3, ho, hs1, rfl, hp3⟩
end Go.Proofs.Ytkoklfagmbaapaa
