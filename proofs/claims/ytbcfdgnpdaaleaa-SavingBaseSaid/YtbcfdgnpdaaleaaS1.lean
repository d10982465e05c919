/- Tables of tracked keys: what they are, making one, setting and dropping an entry. -/
import Derived.Test.YtbcfdgnpdaaleaaI8
import Derived.Test.YtbcfdgnpdaaleaaR8
import Derived.Test.YtbcfdgnpdaaleaaRS0
namespace Go.Proofs.Ytbcfdgnpdaaleaa
open Go.RowKit

abbrev En := ByteArray × Nat × Nat
def ecell : Option En → List Value
  | none => [.string ByteArray.empty, .int .u64 0, .int .u64 0]
  | some x => [.string x.1, .int .u64 (x.2.1 : Int), .int .u64 (x.2.2 : Int)]
def ecells (E : List (Option En)) : List Value := E.flatMap ecell
theorem ecell_len (o : Option En) : (ecell o).length = 3 := by cases o <;> rfl
theorem ecells_len (E : List (Option En)) : (ecells E).length = E.length * 3 := by
  induction E with
  | nil => rfl
  | cons o E ih => simp only [ecells, List.flatMap_cons, List.length_append, ecell_len, List.length_cons] at ih ⊢; omega
theorem ecells_get {E : List (Option En)} {i : Nat} {o : Option En} (h : E[i]? = some o) : ((ecells E).drop (0 + i * 3)).take 3 = ecell o := by
  obtain ⟨hi, rfl⟩ := List.getElem?_eq_some_iff.1 h
  have e : E = E.take i ++ E[i] :: E.drop (i + 1) := by rw [← List.drop_eq_getElem_cons hi, List.take_append_drop]
  have hl : (ecells (E.take i)).length = i * 3 := by rw [ecells_len, List.length_take]; omega
  have e2 : ecells E = ecells (E.take i) ++ (ecell E[i] ++ ecells (E.drop (i + 1))) := by
    conv => lhs; rw [e]
    simp only [ecells, List.flatMap_append, List.flatMap_cons]
  rw [e2, Nat.zero_add, ← hl, List.drop_left, List.take_append_of_le_length (by rw [ecell_len]; exact Nat.le_refl _), List.take_of_length_le (by rw [ecell_len]; exact Nat.le_refl _)]
theorem ecells_set {E : List (Option En)} {i : Nat} (o : Option En) (hi : i < E.length) : (ecells E).take (0 + i * 3) ++ ecell o ++ (ecells E).drop (0 + i * 3 + 3) = ecells (E.set i o) := by
  have e : E = E.take i ++ E[i] :: E.drop (i + 1) := by rw [← List.drop_eq_getElem_cons hi, List.take_append_drop]
  have hl : (ecells (E.take i)).length = i * 3 := by rw [ecells_len, List.length_take]; omega
  have e2 : ecells E = ecells (E.take i) ++ (ecell E[i] ++ ecells (E.drop (i + 1))) := by
    conv => lhs; rw [e]
    simp only [ecells, List.flatMap_append, List.flatMap_cons]
  have e3 : E.set i o = E.take i ++ o :: E.drop (i + 1) := List.set_eq_take_append_cons_drop.trans (if_pos hi)
  have e4 : ecells (E.set i o) = ecells (E.take i) ++ (ecell o ++ ecells (E.drop (i + 1))) := by
    rw [e3]; simp only [ecells, List.flatMap_append, List.flatMap_cons]
  rw [e4, e2, Nat.zero_add, ← hl, List.take_left, List.append_assoc]
  congr 2
  rw [← List.append_assoc, show (ecells (E.take i)).length + 3 = (ecells (E.take i) ++ ecell E[i]).length by rw [List.length_append, ecell_len], List.drop_left]
theorem ecells_j {E : List (Option En)} {i : Nat} {o : Option En} (h : E[i]? = some o) (j : Nat) {v : Value} (hj : (ecell o)[j]? = some v) (hj3 : j < 3) : (ecells E)[0 + i * 3 + j]? = some v := by
  have h1 : (((ecells E).drop (0 + i * 3)).take 3)[j]? = some v := by rw [ecells_get h]; exact hj
  rw [List.getElem?_take, if_pos hj3, List.getElem?_drop] at h1
  exact h1

/-- What holds of entries, order and index. -/
structure SInv (m : Nat) (E : List (Option En)) (l : Ord) (M : List (ByteArray × Int)) : Prop where
  len : E.length = m
  ord : ∀ (i c : Nat), ((i : Int), c) ∈ l ↔ ∃ (k : ByteArray) (o s : Nat), E[i]? = some (some (k, o, s)) ∧ c = o + s
  idx : ∀ (k : ByteArray) (z : Int), (k, z) ∈ M ↔ ∃ (i o s : Nat), z = i ∧ E[i]? = some (some (k, o, s))
  sm : ∀ (i : Nat) (k : ByteArray) (o s : Nat), E[i]? = some (some (k, o, s)) → small k ∧ k ≠ ByteArray.empty
theorem mem_ins_iff {l : Ord} {z : Int} {c : Nat} {q : Int × Nat} : q ∈ ins l z c ↔ q = (z, c) ∨ q ∈ l := by
  induction l with
  | nil => simp [ins]
  | cons p l ih =>
    rw [ins]
    split
    · rw [List.mem_cons, ih, List.mem_cons]
      constructor
      · rintro (h | h | h) <;> simp [h]
      · rintro (h | h | h) <;> simp [h]
    · simp
theorem mem_rem_iff {l : Ord} {z : Int} (hn : (ids l).Nodup) {q : Int × Nat} : q ∈ rem l z ↔ q ∈ l ∧ q.1 ≠ z := by
  induction l with
  | nil => simp [rem]
  | cons p l ih =>
    simp only [ids, List.map_cons, List.nodup_cons] at hn
    rw [rem]
    split
    · rename_i hp
      rw [List.mem_cons]
      constructor
      · intro h
        refine ⟨.inr h, fun e => hn.1 ?_⟩
        rw [hp, ← e]
        exact List.mem_map_of_mem h
      · rintro ⟨h | h, h2⟩
        · subst h; exact absurd hp h2
        · exact h
    · rename_i hp
      rw [List.mem_cons, ih hn.2, List.mem_cons]
      constructor
      · rintro (h | ⟨h, h2⟩)
        · subst h; exact ⟨.inl rfl, hp⟩
        · exact ⟨.inr h, h2⟩
      · rintro ⟨h | h, h2⟩
        · exact .inl h
        · exact .inr ⟨h, h2⟩
theorem look_of_mem {l : Ord} {z : Int} {c : Nat} (hn : (ids l).Nodup) (h : (z, c) ∈ l) : look l z = some c := by
  obtain ⟨i, hi⟩ := List.mem_iff_getElem?.1 h
  exact look_get hn hi
theorem SInv.new (m : Nat) : SInv m (List.replicate m none) [] [] := by
  have h : ∀ (i : Nat) (x : En), ¬ (List.replicate m (none : Option En))[i]? = some (some x) := fun i x h => by
    rw [List.getElem?_replicate] at h; split at h <;> cases h
  refine ⟨List.length_replicate, fun i c => ?_, fun k z => ?_, fun i k o s hi => absurd hi (h i _)⟩
  · simp only [List.not_mem_nil, false_iff]; rintro ⟨k, o, s, hi, _⟩; exact h i _ hi
  · simp only [List.not_mem_nil, false_iff]; rintro ⟨i, o, s, _, hi⟩; exact h i _ hi
theorem SInv.set {m n : Nat} {E : List (Option En)} {l : Ord} {M : List (ByteArray × Int)} {k : ByteArray} {o s : Nat} (h : SInv m E l M) (hn : E[n]? = some none) (hk : small k) (hk0 : k ≠ ByteArray.empty) :
    SInv m (E.set n (some (k, o, s))) (ins l n (o + s)) ((k, (n : Int)) :: M) := by
  have hnl : n < E.length := (List.getElem?_eq_some_iff.1 hn).1
  refine ⟨by rw [List.length_set]; exact h.len, fun i c => ?_, fun k' z => ?_, fun i k' o' s' hi => ?_⟩
  · rw [mem_ins_iff, h.ord]
    by_cases hi : n = i
    · subst hi
      rw [List.getElem?_set_self hnl]
      constructor
      · rintro (e | ⟨k', o', s', e, _⟩)
        · injection e with _ e; exact ⟨k, o, s, rfl, e⟩
        · rw [hn] at e; cases e
      · rintro ⟨k', o', s', e, rfl⟩
        injection e with e; injection e with e; injection e with _ e; injection e with e1 e2
        subst e1; subst e2
        exact .inl rfl
    · rw [List.getElem?_set_ne hi]
      constructor
      · rintro (e | e)
        · injection e with e _; exact absurd (by omega) hi
        · exact e
      · exact .inr
  · rw [List.mem_cons, h.idx]
    constructor
    · rintro (e | ⟨i, o', s', rfl, e⟩)
      · injection e with e1 e2
        subst e1; subst e2
        exact ⟨n, o, s, rfl, List.getElem?_set_self hnl⟩
      · have hi : n ≠ i := fun e' => by subst e'; rw [hn] at e; cases e
        exact ⟨i, o', s', rfl, by rw [List.getElem?_set_ne hi]; exact e⟩
    · rintro ⟨i, o', s', rfl, e⟩
      by_cases hi : n = i
      · subst hi
        rw [List.getElem?_set_self hnl] at e
        injection e with e; injection e with e; injection e with e _
        subst e
        exact .inl rfl
      · rw [List.getElem?_set_ne hi] at e
        exact .inr ⟨i, o', s', rfl, e⟩
  · by_cases hi' : n = i
    · subst hi'
      rw [List.getElem?_set_self hnl] at hi
      injection hi with hi; injection hi with hi; injection hi with e _
      subst e
      exact ⟨hk, hk0⟩
    · rw [List.getElem?_set_ne hi'] at hi
      exact h.sm i k' o' s' hi
theorem SInv.uniq {m i j : Nat} {E : List (Option En)} {l : Ord} {M : List (ByteArray × Int)} {k : ByteArray} {o s o' s' : Nat} (h : SInv m E l M) (hM : (keys M).Nodup) (h1 : E[i]? = some (some (k, o, s))) (h2 : E[j]? = some (some (k, o', s'))) : i = j := by
  have a1 := mget_some hM ((h.idx k i).2 ⟨i, o, s, rfl, h1⟩)
  have a2 := mget_some hM ((h.idx k j).2 ⟨j, o', s', rfl, h2⟩)
  rw [a1] at a2
  injection a2 with a2
  omega
theorem SInv.drop {m n : Nat} {E : List (Option En)} {l : Ord} {M : List (ByteArray × Int)} {k : ByteArray} {o s : Nat} (h : SInv m E l M) (hl : (ids l).Nodup) (hM : (keys M).Nodup) (hn : E[n]? = some (some (k, o, s))) :
    SInv m (E.set n none) (rem l n) (mdel M k) := by
  have hnl : n < E.length := (List.getElem?_eq_some_iff.1 hn).1
  refine ⟨by rw [List.length_set]; exact h.len, fun i c => ?_, fun k' z => ?_, fun i k' o' s' hi => ?_⟩
  · rw [mem_rem_iff hl, h.ord]
    by_cases hi : n = i
    · subst hi
      rw [List.getElem?_set_self hnl]
      constructor
      · rintro ⟨_, e⟩; exact absurd rfl e
      · rintro ⟨k', o', s', e, _⟩; cases e
    · rw [List.getElem?_set_ne hi]
      constructor
      · exact And.left
      · exact fun e => ⟨e, fun e' => hi (by have e' : (i : Int) = n := e'; omega)⟩
  · have hmm : (k', z) ∈ mdel M k ↔ (k', z) ∈ M ∧ k' ≠ k := by simp [mdel]
    rw [hmm, h.idx]
    constructor
    · rintro ⟨⟨i, o', s', rfl, e⟩, hk⟩
      have hi : n ≠ i := fun e' => by
        subst e'; rw [hn] at e; injection e with e; injection e with e; injection e with e _; exact hk e.symm
      exact ⟨i, o', s', rfl, by rw [List.getElem?_set_ne hi]; exact e⟩
    · rintro ⟨i, o', s', rfl, e⟩
      have hi : n ≠ i := fun e' => by subst e'; rw [List.getElem?_set_self hnl] at e; cases e
      rw [List.getElem?_set_ne hi] at e
      exact ⟨⟨i, o', s', rfl, e⟩, fun e' => by subst e'; exact hi (h.uniq hM hn e)⟩
  · have hi' : n ≠ i := fun e' => by subst e'; rw [List.getElem?_set_self hnl] at hi; cases hi
    rw [List.getElem?_set_ne hi'] at hi
    exact h.sm i k' o' s' hi
/-- The index has a place for each free number. -/
theorem SInv.room {m n : Nat} {E : List (Option En)} {l : Ord} {M : List (ByteArray × Int)} (h : SInv m E l M) (hM : (keys M).Nodup) (hn : E[n]? = some none) : M.length < m := by
  have hnl : n < E.length := (List.getElem?_eq_some_iff.1 hn).1
  have hnd : (M.map Prod.snd).Nodup := by
    have hMn : M.Nodup := (List.pairwise_map.1 hM).imp fun h e => h (by rw [e])
    refine (List.pairwise_map.2 ?_)
    refine hMn.imp_of_mem fun {a b} ha hb hab e => hab ?_
    obtain ⟨k1, z1⟩ := a
    obtain ⟨k2, z2⟩ := b
    obtain ⟨i, o, s, rfl, h1⟩ := (h.idx k1 z1).1 ha
    obtain ⟨j, o', s', rfl, h2⟩ := (h.idx k2 z2).1 hb
    have e : (i : Int) = j := e
    obtain rfl : i = j := by omega
    rw [h1] at h2
    injection h2 with h2; injection h2 with h2; injection h2 with h2 _
    rw [h2]
  have := range_lt (id := (n : Int)) (n := m) hnd (fun z hz => by
    obtain ⟨⟨k, z'⟩, hx, rfl⟩ := List.mem_map.1 hz
    obtain ⟨i, o, s, e, h1⟩ := (h.idx k z').1 hx
    have hi : i < E.length := (List.getElem?_eq_some_iff.1 h1).1
    rw [h.len] at hi
    dsimp only
    omega) (by have := h.len; omega) (fun hz => by
    obtain ⟨⟨k, z'⟩, hx, e'⟩ := List.mem_map.1 hz
    obtain ⟨i, o, s, e, h1⟩ := (h.idx k z').1 hx
    dsimp only at e'
    obtain rfl : i = n := by omega
    rw [hn] at h1; cases h1)
  rwa [List.length_map] at this

theorem t43 : SlT Try.prog 43 34 3 32 (.agg #[.string ByteArray.empty, .int .u64 0, .int .u64 0]) := .mk' Try.underlying43 (by kernel_rfl) rfl (by decide)
def svl (t m bR bX : Nat) (eV : Value) (E : List (Option En)) (base total : Nat) (rR rX : Res) : List Res :=
  [blk t [.pointer (some ⟨bR, 0, .none⟩), .pointer (some ⟨bX, 0, .none⟩), .int .i64 (m : Int), eV, .int .u64 (base : Int), .int .u64 (total : Int)] 68, row eV 34 3 m (ecells E), rR, rX]
/-- A table of tracked keys, in parts. -/
def SvL (t m : Nat) (E : List (Option En)) (base total : Nat) (H : List Res) : Prop :=
  1 ≤ m ∧ m ≤ 64 ∧ ∃ bR bX eV rR rX l M T, H = svl t m bR bX eV E base total rR rX ∧ RkO bR m l rR ∧ TbR xInt bX m T 0 M rX ∧ SInv m E l M
def SvR (t m : Nat) (E : List (Option En)) (base total : Nat) (r : Res) : Prop := ∃ L, r = bun L ∧ SvL t m E base total L

theorem build_table (m : Int) (bR bX : Nat) (A : Option Addr) (l c : Nat) (w : World) : (Instr.build 68 [(0, .agg #[.pointer (some ⟨bR, 0, .none⟩)]), (1, .agg #[.pointer (some ⟨bX, 0, .none⟩)]), (2, .int .i64 m), (3, .slice A l c)].toArray).run Try.prog w =
    .ok (.agg [.pointer (some ⟨bR, 0, .none⟩), .pointer (some ⟨bX, 0, .none⟩), .int .i64 m, .slice A l c, .int .u64 0, .int .u64 0].toArray) w := by kernel_rfl
theorem build_order (bR : Nat) (w : World) : (Instr.build 64 [(0, .pointer (some ⟨bR, 0, .none⟩))].toArray).run Try.prog w = .ok (.agg #[.pointer (some ⟨bR, 0, .none⟩)]) w := by kernel_rfl
theorem build_numbers (bX : Nat) (w : World) : (Instr.build 66 [(0, .pointer (some ⟨bX, 0, .none⟩))].toArray).run Try.prog w = .ok (.agg #[.pointer (some ⟨bX, 0, .none⟩)]) w := by kernel_rfl
theorem build_entry0 (w : World) : (Instr.build 34 #[]).run Try.prog w = .ok (.agg [.string ByteArray.empty, .int .u64 0, .int .u64 0].toArray) w := by kernel_rfl
theorem build_entry (k : ByteArray) (o s : Int) (w : World) : (Instr.build 34 [(0, .string k), (1, .int .u64 o), (2, .int .u64 s)].toArray).run Try.prog w = .ok (.agg [.string k, .int .u64 o, .int .u64 s].toArray) w := by kernel_rfl
theorem madeCellsE (n : Nat) : (madeCells (Value.agg #[.string ByteArray.empty, .int .u64 0, .int .u64 0]).cells (n * 3)).toList = ecells (List.replicate n none) := by
  have h : ∀ n, ((List.range (n * 3)).map fun i => (#[Value.string ByteArray.empty, .int .u64 0, .int .u64 0] : Array Value)[i % 3]!) = ecells (List.replicate n none) := by
    intro n
    induction n with
    | zero => rfl
    | succ n ih =>
      have e : ecells (List.replicate (n + 1) none) = ecells (List.replicate n none) ++ ecell none := by
        rw [List.replicate_succ', ecells, ecells, List.flatMap_append]; simp
      rw [e, Nat.succ_mul, ← ih, List.range_succ, List.range_succ, List.range_succ]
      simp only [List.map_append, List.map_cons, List.map_nil, List.append_assoc]
      congr 1
      have e0 : (n * 3) % 3 = 0 := by omega
      have e1 : (n * 3 + 1) % 3 = 1 := by omega
      have e2 : (n * 3 + 2) % 3 = 2 := by omega
      rw [e0, e1, e2]
      rfl
  rw [← h n]
  simp only [madeCells, Array.toList_map, Array.toList_range]
  rfl

theorem svnew_bad (n : Int) (w : World) (hn : n < 1 ∨ 64 < n) : Spec Try.prog 7 [.int .i64 n] w Nil fun r H => r = .tuple #[.pointer .none, .int .i64 1] ∧ H = [] := by
  refine enter (n := 39) Try.func7 rfl rfl [(0, _)] rfl ⟨rfl, trivial⟩ (Holds.start _ _) ?_
  refine w_seq ?_
  refine w_reg ?_
  refine wl_f (f_assign rfl) ?_
  refine wl_f (f_assign rfl) ?_
  refine wl_end [(0, _)] ⟨rfl, trivial⟩ ?_
  refine w_seq ?_
  refine w_seq ?_
  refine w_reg ?_
  refine wl_f (f_move rfl) ?_
  refine wl_f (f_lss rfl rfl) ?_
  refine wl_f (f_move rfl) ?_
  refine wl_or (j := 2) (c := decide (64 < n)) 2 [(0, _)] ⟨rfl, trivial⟩ rfl rfl rfl rfl rfl (fun hg1_5 => ?_) (fun w1_5 => ?_)
  · skip
    refine wl_gf rfl rfl (f_move rfl) ?_
    refine wl_gf rfl rfl (f_gtr rfl rfl) ?_
    exact wl_pend rfl rfl ⟨rfl, trivial⟩ (List.Sublist.refl _)
  refine wl_end [(0, _), (12, _)] ⟨rfl, rfl, trivial⟩ ?_
  refine w_ifb rfl (fun _ => ?_) (fun h => absurd (by simpa [Bool.or_eq_true] using hn) h)
  refine w_seq ?_
  refine w_reg ?_
  refine wl_f (f_assign rfl) ?_
  refine wl_f (f_assign rfl) ?_
  refine wl_end [(2, _), (3, _)] ⟨rfl, rfl, trivial⟩ ?_
  refine w_ret ?_
  refine ⟨_, _, fun a ha hh => results_tmps Try.results7 rfl a ha _, List.Sublist.refl _, ?_⟩
  exact ⟨rfl, rfl⟩
set_option maxHeartbeats 1000000 in
theorem svnew_ok (m : Nat) (w : World) (h1 : 1 ≤ m) (h2 : m ≤ 64) : Spec Try.prog 7 [.int .i64 m] w Nil fun r H => ∃ t r', r = .tuple #[.pointer (some ⟨t, 0, .none⟩), .int .i64 0] ∧ H = [r'] ∧ SvR t m (List.replicate m none) 0 0 r' := by
  refine enter (n := 39) Try.func7 rfl rfl [(0, _)] rfl ⟨rfl, trivial⟩ (Holds.start _ _) ?_
  refine w_seq ?_
  refine w_reg ?_
  refine wl_f (f_assign rfl) ?_
  refine wl_f (f_assign rfl) ?_
  refine wl_end [(0, _)] ⟨rfl, trivial⟩ ?_
  refine w_seq ?_
  refine w_seq ?_
  refine w_reg ?_
  refine wl_f (f_move rfl) ?_
  refine wl_f (f_lss rfl rfl) ?_
  refine wl_f (f_move rfl) ?_
  refine wl_or (j := 2) (c := decide (64 < (m : Int))) 2 [(0, _)] ⟨rfl, trivial⟩ rfl rfl rfl rfl rfl (fun hg1_5 => ?_) (fun w1_5 => ?_)
  · skip
    refine wl_gf rfl rfl (f_move rfl) ?_
    refine wl_gf rfl rfl (f_gtr rfl rfl) ?_
    exact wl_pend rfl rfl ⟨rfl, trivial⟩ (List.Sublist.refl _)
  refine wl_end [(0, _), (12, _)] ⟨rfl, rfl, trivial⟩ ?_
  refine w_ifb rfl (fun h => absurd h (by simp; omega)) (fun _ => ?_)
  refine w_skip ?_
  refine w_seq ?_
  refine w_reg ?_
  refine wl_f (f_move rfl) ?_
  refine wl_e (e_call0 rfl Try.func21 (by kernel_rfl) (fun w hh => rknew_ok m w (by omega) (by omega))) ?_
  rintro _ _ w1 ⟨_, rfl, bR, rR, rfl, rfl, hR⟩
  refine wl_f (f_move rfl) ?_
  refine wl_f (f_extract rfl rfl) ?_
  refine wl_f (f_extract rfl rfl) ?_
  refine wl_f (f_assign rfl) ?_
  refine wl_f (f_assign rfl) ?_
  refine wl_end [(0, _), (4, _), (5, _)] ⟨rfl, rfl, rfl, trivial⟩ ?_
  refine w_seq ?_
  refine w_seq ?_
  refine w_reg ?_
  refine wl_f (f_move rfl) ?_
  refine wl_f (f_neq rfl rfl) ?_
  refine wl_end [(0, _), (4, _), (5, _), (19, _)] ⟨rfl, rfl, rfl, rfl, trivial⟩ ?_
  refine w_ifb rfl (fun h => absurd h (by simp)) (fun _ => ?_)
  refine w_skip ?_
  refine w_seq ?_
  refine w_reg ?_
  refine wl_f (f_move rfl) ?_
  refine wl_e (e_make (l := 16) (cs := u64v (List.replicate 16 0)) rfl rfl t62 (by omega) (by omega) (made1 16).symm) ?_
  rintro _ _ w6_1 ⟨b6_1, rfl, rfl⟩
  refine wl_e (e_call0 rfl Try.func22 (by kernel_rfl) (fun w hh => ixnew_ok m (List.replicate 16 0) _ 0 w (by omega) (by omega) List.length_replicate (Rd.held0 hh (i := 0) rfl))) ?_
  rintro _ _ w2 ⟨_, rfl, bX, rX, rfl, rfl, hX⟩
  refine wl_f (f_move rfl) ?_
  refine wl_f (f_extract rfl rfl) ?_
  refine wl_f (f_extract rfl rfl) ?_
  refine wl_f (f_assign rfl) ?_
  refine wl_f (f_assign rfl) ?_
  refine wl_end [(0, _), (4, _), (5, _), (6, _)] ⟨rfl, rfl, rfl, rfl, trivial⟩ ?_
  refine w_seq ?_
  refine w_seq ?_
  refine w_reg ?_
  refine wl_f (f_move rfl) ?_
  refine wl_f (f_neq rfl rfl) ?_
  refine wl_end [(0, _), (4, _), (5, _), (6, _), (28, _)] ⟨rfl, rfl, rfl, rfl, rfl, trivial⟩ ?_
  refine w_ifb rfl (fun h => absurd h (by simp)) (fun _ => ?_)
  refine w_skip ?_
  refine w_seq ?_
  refine w_reg ?_
  refine wl_f (f_move rfl) ?_
  refine wl_f (f_build rfl (fun w => build_order _ w)) ?_
  refine wl_f (f_move rfl) ?_
  refine wl_f (f_build rfl (fun w => build_numbers _ w)) ?_
  refine wl_f (f_move rfl) ?_
  refine wl_f (f_move rfl) ?_
  refine wl_e (e_make (l := m) (cs := ecells (List.replicate m none)) rfl rfl t43 (by omega) (by omega) (madeCellsE m).symm) ?_
  rintro _ _ w9_6 ⟨b9_6, rfl, rfl⟩
  refine wl_f (f_build rfl (fun w => build_table _ _ _ _ _ _ w)) ?_
  refine wl_e (e_box (cs := [_, _, _, _, _, _]) rfl rfl) ?_
  rintro _ _ w9_8 ⟨b9_8, rfl, rfl⟩
  refine wl_f (f_assign rfl) ?_
  refine wl_f (f_assign rfl) ?_
  refine wl_end [(2, _), (3, _)] ⟨rfl, rfl, trivial⟩ ?_
  refine w_pick [0, 0, 2, 0] rfl ?_
  refine w_bun (H := []) [_, _, _, _] ?_
  refine w_ret ?_
  refine ⟨_, _, fun a ha hh => results_tmps Try.results7 rfl a ha _, List.Sublist.refl _, ?_⟩
  exact ⟨_, _, rfl, rfl, _, rfl, h1, h2, bR, bX, _, rR, rX, [], [], _, rfl, ⟨[], rfl, hR⟩, hX, SInv.new m⟩
end Go.Proofs.Ytbcfdgnpdaaleaa
