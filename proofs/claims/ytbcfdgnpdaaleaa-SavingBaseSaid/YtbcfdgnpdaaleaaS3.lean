/- Tables of tracked keys: adding, getting, taking, the numbers. -/
import Derived.Test.YtbcfdgnpdaaleaaS2
namespace Go.Proofs.Ytbcfdgnpdaaleaa
open Go.RowKit

def Has (E : List (Option En)) (k : ByteArray) (i o s : Nat) : Prop := E[i]? = some (some (k, o, s))
def Hasnt (E : List (Option En)) (k : ByteArray) : Prop := ∀ (i o s : Nat), E[i]? ≠ some (some (k, o, s))
/-- What keeps sums within bounds. -/
def TOk (E : List (Option En)) (base total : Nat) : Prop := total ≤ 9223372036854775808 ∧ base ≤ total ∧ ∀ (i : Nat) (k : ByteArray) (o s : Nat), E[i]? = some (some (k, o, s)) → o + s ≤ total
theorem SInv.get {m : Nat} {E : List (Option En)} {l : Ord} {M : List (ByteArray × Int)} (h : SInv m E l M) (hM : (keys M).Nodup) (k : ByteArray) : (∃ i o s, Has E k i o s ∧ mget M k = some (i : Int)) ∨ (Hasnt E k ∧ mget M k = none) := by
  by_cases hk : k ∈ keys M
  · obtain ⟨i, o, s, hi⟩ := (keys_free h).1 hk
    exact .inl ⟨i, o, s, hi, mget_some hM ((h.idx k i).2 ⟨i, o, s, rfl, hi⟩)⟩
  · exact .inr ⟨fun i o s hi => hk ((keys_free h).2 ⟨i, o, s, hi⟩), mget_none hk⟩
theorem SInv.raise {m n : Nat} {E : List (Option En)} {l : Ord} {M : List (ByteArray × Int)} {k : ByteArray} {o s o' s' : Nat} (h : SInv m E l M) (hl : (ids l).Nodup) (hn : E[n]? = some (some (k, o, s))) :
    SInv m (E.set n (some (k, o', s'))) (ins (rem l n) n (o' + s')) M := by
  have hnl : n < E.length := (List.getElem?_eq_some_iff.1 hn).1
  refine ⟨by rw [List.length_set]; exact h.len, fun i c => ?_, fun k' z => ?_, fun i k' o2 s2 hi => ?_⟩
  · rw [mem_ins_iff, mem_rem_iff hl, h.ord]
    by_cases hi : n = i
    · subst hi
      rw [List.getElem?_set_self hnl]
      constructor
      · rintro (e | ⟨_, e⟩)
        · injection e with _ e; exact ⟨k, o', s', rfl, e⟩
        · exact absurd rfl e
      · rintro ⟨k2, o2, s2, e, rfl⟩
        injection e with e; injection e with e; injection e with _ e; injection e with e1 e2
        subst e1; subst e2
        exact .inl rfl
    · rw [List.getElem?_set_ne hi]
      constructor
      · rintro (e | e)
        · injection e with e _; exact absurd (by omega) hi
        · exact e.1
      · exact fun e => .inr ⟨e, fun e' => hi (by have e' : (i : Int) = n := e'; omega)⟩
  · rw [h.idx]
    constructor
    · rintro ⟨i, o2, s2, rfl, e⟩
      by_cases hi : n = i
      · subst hi
        rw [hn] at e
        injection e with e; injection e with e; injection e with e _
        subst e
        exact ⟨n, o', s', rfl, List.getElem?_set_self hnl⟩
      · exact ⟨i, o2, s2, rfl, by rw [List.getElem?_set_ne hi]; exact e⟩
    · rintro ⟨i, o2, s2, rfl, e⟩
      by_cases hi : n = i
      · subst hi
        rw [List.getElem?_set_self hnl] at e
        injection e with e; injection e with e; injection e with e _
        subst e
        exact ⟨n, o, s, rfl, hn⟩
      · rw [List.getElem?_set_ne hi] at e
        exact ⟨i, o2, s2, rfl, e⟩
  · by_cases hi' : n = i
    · subst hi'
      rw [List.getElem?_set_self hnl] at hi
      injection hi with hi; injection hi with hi; injection hi with e _
      subst e
      exact h.sm n k o s hn
    · rw [List.getElem?_set_ne hi'] at hi
      exact h.sm i k' o2 s2 hi

theorem ecells_app (A B : List (Option En)) : ecells (A ++ B) = ecells A ++ ecells B := by simp [ecells]
theorem ecells_own {E : List (Option En)} {i : Nat} {k : ByteArray} {o s o' : Nat} (h : E[i]? = some (some (k, o, s))) :
    (ecells E).take (0 + i * 3 + 1) ++ [.int .u64 (o' : Int)] ++ (ecells E).drop (0 + i * 3 + 1 + 1) = ecells (E.set i (some (k, o', s))) := by
  obtain ⟨A, B, rfl, rfl⟩ := split_at h
  have e1 : ∀ o, ecells (A ++ some (k, o, s) :: B) = ecells A ++ (.string k :: .int .u64 (o : Int) :: .int .u64 (s : Int) :: ecells B) := fun o => by rw [ecells_app]; rfl
  rw [set_split, e1, e1, Nat.zero_add, ← ecells_len A, Nat.add_assoc _ 1 1, List.take_length_add_append, List.drop_length_add_append]
  simp

def AddG (m : Nat) (E : List (Option En)) (base total : Nat) (k : ByteArray) (w : Nat) (e : Int) (E' : List (Option En)) (base' total' : Nat) : Prop :=
  (e ≠ 0 ∧ E' = E ∧ base' = base ∧ total' = total ∧ (k = ByteArray.empty ∧ e = 3 ∨ k ≠ ByteArray.empty ∧ w = 0 ∧ e = 1 ∨ k ≠ ByteArray.empty ∧ w ≠ 0 ∧ 9223372036854775808 < total + w ∧ e = 12)) ∨
  (e = 0 ∧ k ≠ ByteArray.empty ∧ w ≠ 0 ∧ total + w ≤ 9223372036854775808 ∧ total' = total + w ∧
    ((∃ i o s, Has E k i o s ∧ E' = E.set i (some (k, o + w, s)) ∧ base' = base) ∨ (Hasnt E k ∧ ∃ n E1, FreeG m E base n E1 base' ∧ E' = E1.set n (some (k, w, base')))))
theorem FreeG.tok {m n : Nat} {E E' : List (Option En)} {base base' total : Nat} (h : FreeG m E base n E' base') (ht : TOk E base total) : TOk E' base' total := by
  obtain ⟨_, hn, ⟨rfl, rfl, _⟩ | ⟨_, k, o, s, hi, rfl, rfl, _⟩⟩ := h
  · exact ht
  · refine ⟨ht.1, ht.2.2 n k o s hi, fun i k' o' s' hi' => ?_⟩
    by_cases e : n = i
    · subst e; rw [hn] at hi'; cases hi'
    · rw [List.getElem?_set_ne e] at hi'; exact ht.2.2 i k' o' s' hi'
theorem FreeG.hasnt {m n : Nat} {E E' : List (Option En)} {base base' : Nat} {k : ByteArray} (h : FreeG m E base n E' base') (hk : Hasnt E k) : Hasnt E' k := by
  obtain ⟨_, hn, ⟨rfl, rfl, _⟩ | ⟨_, k0, o, s, hi, rfl, rfl, _⟩⟩ := h
  · exact hk
  · intro i o' s' hi'
    by_cases e : n = i
    · subst e; rw [hn] at hi'; cases hi'
    · rw [List.getElem?_set_ne e] at hi'; exact hk i o' s' hi'
theorem AddG.tok {m : Nat} {E E' : List (Option En)} {base base' total total' w : Nat} {k : ByteArray} {e : Int} (h : AddG m E base total k w e E' base' total') (ht : TOk E base total) : TOk E' base' total' := by
  rcases h with ⟨_, rfl, rfl, rfl, _⟩ | ⟨_, _, _, hw, rfl, ⟨i, o, s, hi, rfl, rfl⟩ | ⟨_, n, E1, hf, rfl⟩⟩
  · exact ht
  · have hil : i < E.length := (List.getElem?_eq_some_iff.1 hi).1
    refine ⟨hw, by have := ht.2.1; omega, fun j k' o' s' hj => ?_⟩
    by_cases e : i = j
    · subst e
      rw [List.getElem?_set_self hil] at hj
      injection hj with hj; injection hj with hj; injection hj with _ hj; injection hj with e1 e2
      have := ht.2.2 i k o s hi
      omega
    · rw [List.getElem?_set_ne e] at hj
      have := ht.2.2 j k' o' s' hj
      omega
  · have ht1 := hf.tok ht
    have hnl : n < E1.length := (List.getElem?_eq_some_iff.1 hf.2.1).1
    refine ⟨hw, by have := ht1.2.1; omega, fun j k' o' s' hj => ?_⟩
    by_cases e : n = j
    · subst e
      rw [List.getElem?_set_self hnl] at hj
      injection hj with hj; injection hj with hj; injection hj with _ hj; injection hj with e1 e2
      have := ht1.2.1
      omega
    · rw [List.getElem?_set_ne e] at hj
      have := ht1.2.2 j k' o' s' hj
      omega

set_option maxHeartbeats 4000000 in
theorem svadd_spec (t m : Nat) (E : List (Option En)) (base total : Nat) (k : ByteArray) (v : Nat) (r : Res) (w : World) (hk : small k) (hv : v < 18446744073709551616) (ht : TOk E base total) (hr : SvR t m E base total r) (hs : Holds w r.foot [r] w) :
    Spec Try.prog 9 [.pointer (some ⟨t, 0, .none⟩), .string k, .int .u64 (v : Int)] w r.foot fun u H => ∃ (e : Int) (E' : List (Option En)) (base' total' : Nat) (r' : Res), u = .int .i64 e ∧ H = [r'] ∧ SvR t m E' base' total' r' ∧ AddG m E base total k v e E' base' total' := by
  have hr0 := hr
  obtain ⟨L, rfl, hm1, hm2, bR, bX, eV, rR, rX, l, M, T, rfl, hR, hX, hI⟩ := hr
  have hEl := hI.len
  have hO := hR.inv
  obtain ⟨ht1, ht2, ht3⟩ := id ht
  refine enter (n := 78) Try.func9 rfl rfl [(0, _), (1, _), (2, _)] rfl ⟨rfl, rfl, rfl, trivial⟩ hs ?_
  refine w_seq ?_
  refine w_reg ?_
  refine wl_f (f_assign rfl) ?_
  refine wl_end [(0, _), (1, _), (2, _)] ⟨rfl, rfl, rfl, trivial⟩ ?_
  refine w_seq ?_
  refine w_block ?_
  refine w_seq ?_
  refine w_reg ?_
  refine wl_f (f_move rfl) ?_
  refine wl_f (f_eqlnil rfl rfl Try.underlying24) ?_
  refine wl_f (f_assign rfl) ?_
  refine wl_end [(0, _), (1, _), (2, _), (10, _)] ⟨rfl, rfl, rfl, rfl, trivial⟩ ?_
  refine w_iff rfl ?_
  refine w_seq ?_
  refine w_reg ?_
  refine wl_f (f_move rfl) ?_
  refine wl_f (f_eqls rfl rfl) ?_
  refine wl_f (f_assign rfl) ?_
  refine wl_end [(0, _), (1, _), (2, _), (13, _)] ⟨rfl, rfl, rfl, rfl, trivial⟩ ?_
  refine w_ifd rfl (fun hc2 => ?_) (fun hc2 => ?_)
  · skip
    obtain rfl : k = ByteArray.empty := hc2
    refine w_seq ?_
    refine w_reg ?_
    refine wl_f (f_assign rfl) ?_
    refine wl_end [(6, _)] ⟨rfl, trivial⟩ ?_
    refine w_ret ?_
    refine ⟨_, _, fun a ha hh => results_tmps Try.results9 rfl a ha _, List.Sublist.refl _, ?_⟩
    exact ⟨3, E, base, total, _, rfl, rfl, hr0, .inl ⟨by decide, rfl, rfl, rfl, .inl ⟨rfl, rfl⟩⟩⟩
  · skip
    have hk0 : k ≠ ByteArray.empty := hc2
    refine w_seq ?_
    refine w_reg ?_
    refine wl_f (f_move rfl) ?_
    refine wl_f (f_eql rfl rfl) ?_
    refine wl_f (f_assign rfl) ?_
    refine wl_end [(0, _), (1, _), (2, _), (16, _)] ⟨rfl, rfl, rfl, rfl, trivial⟩ ?_
    refine w_ifd rfl (fun hc3 => ?_) (fun hc3 => ?_)
    · skip
      have hv0 : v = 0 := by
        have : (v : Int) = 0 := hc3
        omega
      refine w_seq ?_
      refine w_reg ?_
      refine wl_f (f_assign rfl) ?_
      refine wl_end [(6, _)] ⟨rfl, trivial⟩ ?_
      refine w_ret ?_
      refine ⟨_, _, fun a ha hh => results_tmps Try.results9 rfl a ha _, List.Sublist.refl _, ?_⟩
      exact ⟨1, E, base, total, _, rfl, rfl, hr0, .inl ⟨by decide, rfl, rfl, rfl, .inr (.inl ⟨hk0, hv0, rfl⟩)⟩⟩
    · skip
      have hv0 : v ≠ 0 := fun h => hc3 (by rw [h]; rfl)
      refine w_seq ?_
      refine w_reg ?_
      refine wl_f (f_move rfl) ?_
      refine wl_f (f_nilCheck rfl) ?_
      refine wl_f (f_fieldAddr 5 rfl Try.underlying68 rfl rfl (by kernel_rfl)) ?_
      refine wl_f (f_loadB 0 0 rfl rfl rfl Try.underlying30 rfl rfl) ?_
      refine wl_f (f_move rfl) ?_
      refine wl_e (e_call0 rfl Try.func23 (by kernel_rfl) (fun w hh => satfits_spec total v w (by omega) hv)) ?_
      rintro _ _ w1 ⟨_, rfl, rfl, rfl⟩
      refine wl_f (f_not rfl rfl) ?_
      refine wl_f (f_assign rfl) ?_
      refine wl_end [(0, _), (1, _), (2, _), (19, _)] ⟨rfl, rfl, rfl, rfl, trivial⟩ ?_
      refine w_ifb rfl (fun hc4 => ?_) (fun hc4 => ?_)
      · skip
        have hov : 9223372036854775808 < total + v := by simpa using hc4
        refine w_seq ?_
        refine w_reg ?_
        refine wl_f (f_assign rfl) ?_
        refine wl_end [(6, _)] ⟨rfl, trivial⟩ ?_
        refine w_ret ?_
        refine ⟨_, _, fun a ha hh => results_tmps Try.results9 rfl a ha _, List.Sublist.refl _, ?_⟩
        exact ⟨12, E, base, total, _, rfl, rfl, hr0, .inl ⟨by decide, rfl, rfl, rfl, .inr (.inr ⟨hk0, hv0, hov, rfl⟩)⟩⟩
      · skip
        have hov : total + v ≤ 9223372036854775808 := by simpa using hc4
        refine w_unb (svl t m bR bX eV E base total rR rX) ?_
        refine w_skip ?_
        refine w_seq ?_
        refine w_reg ?_
        refine wl_f (f_move rfl) ?_
        refine wl_f (f_nilCheck rfl) ?_
        refine wl_f (f_fieldAddr 5 rfl Try.underlying68 rfl rfl (by kernel_rfl)) ?_
        (first | refine wl_f (f_loadb 0 rfl Try.underlying30 rfl rfl rfl) ?_ | refine wl_f (f_loadb 1 rfl Try.underlying30 rfl rfl rfl) ?_ | refine wl_f (f_loadb 2 rfl Try.underlying30 rfl rfl rfl) ?_ | refine wl_f (f_loadb 3 rfl Try.underlying30 rfl rfl rfl) ?_ | refine wl_f (f_loadb 4 rfl Try.underlying30 rfl rfl rfl) ?_ | refine wl_f (f_loadb 5 rfl Try.underlying30 rfl rfl rfl) ?_ | refine wl_f (f_loadb 6 rfl Try.underlying30 rfl rfl rfl) ?_)
        refine wl_f (f_move rfl) ?_
        refine wl_f (f_eqv (v' := .int .u64 ((total + v : Nat) : Int)) (f_addu rfl rfl (by omega)) (by rw [Int.natCast_add])) ?_
        refine wl_f (f_nilCheck rfl) ?_
        refine wl_f (f_fieldAddr 5 rfl Try.underlying68 rfl rfl (by kernel_rfl)) ?_
        (first | refine wl_e0 (e_store0 (us := [_]) rfl rfl rfl (by kernel_rfl) (by simp [Value.oneCell']) rfl rfl) ?_ | refine wl_e0 (e_store1 (us := [_]) rfl rfl rfl (by kernel_rfl) (by simp [Value.oneCell']) rfl rfl) ?_ | refine wl_e0 (e_store2 (us := [_]) rfl rfl rfl (by kernel_rfl) (by simp [Value.oneCell']) rfl rfl) ?_ | refine wl_e0 (e_store3 (us := [_]) rfl rfl rfl (by kernel_rfl) (by simp [Value.oneCell']) rfl rfl) ?_)
        rintro _ _ w9_8 rfl
        refine wl_end [(0, _), (1, _), (2, _)] ⟨rfl, rfl, rfl, trivial⟩ ?_
        refine w_seq ?_
        refine w_seq ?_
        refine w_reg ?_
        refine wl_f (f_move rfl) ?_
        refine wl_f (f_nilCheck rfl) ?_
        refine wl_f (f_fieldAddr 1 rfl Try.underlying68 rfl rfl (by kernel_rfl)) ?_
        refine wl_f (f_fieldAddr 0 rfl Try.underlying66 rfl rfl (by kernel_rfl)) ?_
        (first | refine wl_f (f_loadb 0 rfl Try.underlying59 rfl rfl rfl) ?_ | refine wl_f (f_loadb 1 rfl Try.underlying59 rfl rfl rfl) ?_ | refine wl_f (f_loadb 2 rfl Try.underlying59 rfl rfl rfl) ?_ | refine wl_f (f_loadb 3 rfl Try.underlying59 rfl rfl rfl) ?_ | refine wl_f (f_loadb 4 rfl Try.underlying59 rfl rfl rfl) ?_ | refine wl_f (f_loadb 5 rfl Try.underlying59 rfl rfl rfl) ?_ | refine wl_f (f_loadb 6 rfl Try.underlying59 rfl rfl rfl) ?_)
        refine wl_f (f_move rfl) ?_
        refine wl_e (e_call1 rX [_, _, _] rfl Try.func24 (by kernel_rfl) (pk1 3 rfl) (fun w hh hs' => ixget_spec bX m T 0 M rX k w hk hX hs')) ?_
        rintro _ _ w2 ⟨_, rfl, rfl, rfl⟩
        refine wl_pick [1, 1, 1, 0] rfl ?_
        refine wl_f (f_move rfl) ?_
        refine wl_f (f_extract rfl rfl) ?_
        refine wl_f (f_extract rfl rfl) ?_
        refine wl_f (f_assign rfl) ?_
        refine wl_f (f_assign rfl) ?_
        refine wl_end [(0, _), (1, _), (2, _), (7, _), (8, _)] ⟨rfl, rfl, rfl, rfl, rfl, trivial⟩ ?_
        refine w_seq ?_
        refine w_reg ?_
        refine wl_f (f_move rfl) ?_
        refine wl_end [(0, _), (1, _), (2, _), (7, _), (45, _)] ⟨rfl, rfl, rfl, rfl, rfl, trivial⟩ ?_
        refine w_ifb rfl (fun hc5 => ?_) (fun hc5 => ?_)
        · skip
          obtain ⟨i, o, s, hi, hg⟩ : ∃ i o s, Has E k i o s ∧ mget M k = some (i : Int) := by
            rcases hI.get hX.nd k with h | ⟨_, h⟩
            · exact h
            · rw [h] at hc5; cases hc5
          rw [hg]
          have hil : i < E.length := (List.getElem?_eq_some_iff.1 hi).1
          have hos := ht3 i k o s hi
          have hlk := look_of_mem hO.nd ((hI.ord i (o + s)).2 ⟨k, o, s, hi, rfl⟩)
          have hra : orai l (i : Int) v = (0, ins (rem l i) i (o + s + v)) := by
            simp only [orai, hlk]
            rw [if_pos (by omega), if_neg hv0]
          refine w_with fun hh => ?_
          obtain ⟨g, cc, e2⟩ := row_form hh (i := 1) rfl (by omega)
          subst e2
          clear hh
          refine w_seq ?_
          refine w_reg ?_
          refine wl_f (f_move rfl) ?_
          refine wl_f (f_nilCheck rfl) ?_
          refine wl_f (f_fieldAddr 3 rfl Try.underlying68 rfl rfl (by kernel_rfl)) ?_
          (first | refine wl_f (f_loadb 0 rfl Try.underlying43 rfl rfl rfl) ?_ | refine wl_f (f_loadb 1 rfl Try.underlying43 rfl rfl rfl) ?_ | refine wl_f (f_loadb 2 rfl Try.underlying43 rfl rfl rfl) ?_ | refine wl_f (f_loadb 3 rfl Try.underlying43 rfl rfl rfl) ?_ | refine wl_f (f_loadb 4 rfl Try.underlying43 rfl rfl rfl) ?_ | refine wl_f (f_loadb 5 rfl Try.underlying43 rfl rfl rfl) ?_ | refine wl_f (f_loadb 6 rfl Try.underlying43 rfl rfl rfl) ?_)
          refine wl_f (f_move rfl) ?_
          refine wl_f (f_indexAddr 3 (i := i) rfl rfl Try.underlying43 (by kernel_rfl) rfl (by omega)) ?_
          refine wl_f (f_fieldAddr 1 rfl Try.underlying34 rfl rfl (by kernel_rfl)) ?_
          refine wl_f (f_loadr (v := .int .u64 (o : Int)) 1 rfl Try.underlying30 rfl rfl (ecells_j hi 1 rfl (by omega))) ?_
          refine wl_f (f_move rfl) ?_
          refine wl_f (f_eqv (v' := .int .u64 ((o + v : Nat) : Int)) (f_addu rfl rfl (by omega)) (by rw [Int.natCast_add])) ?_
          refine wl_f (f_indexAddr 3 (i := i) rfl rfl Try.underlying43 (by kernel_rfl) rfl (by omega)) ?_
          refine wl_f (f_fieldAddr 1 rfl Try.underlying34 rfl rfl (by kernel_rfl)) ?_
          refine wl_e0 (e_storerN 1 (us := [_]) (xs' := ecells (E.set i (some (k, o + v, s)))) rfl rfl rfl rfl (by kernel_rfl) (by simp [Value.oneCell']) (by rw [ecells_len]; show 0 + i * 3 + 1 + 1 ≤ _; omega) ?_) ?_
          · exact ecells_own hi
          rintro _ _ w12_12 rfl
          refine wl_end [(0, _), (2, _), (7, _)] ⟨rfl, rfl, rfl, trivial⟩ ?_
          refine w_seq ?_
          refine w_reg ?_
          refine wl_f (f_move rfl) ?_
          refine wl_f (f_nilCheck rfl) ?_
          refine wl_f (f_fieldAddr 0 rfl Try.underlying68 rfl rfl (by kernel_rfl)) ?_
          refine wl_f (f_fieldAddr 0 rfl Try.underlying64 rfl rfl (by kernel_rfl)) ?_
          (first | refine wl_f (f_loadb 0 rfl Try.underlying56 rfl rfl rfl) ?_ | refine wl_f (f_loadb 1 rfl Try.underlying56 rfl rfl rfl) ?_ | refine wl_f (f_loadb 2 rfl Try.underlying56 rfl rfl rfl) ?_ | refine wl_f (f_loadb 3 rfl Try.underlying56 rfl rfl rfl) ?_ | refine wl_f (f_loadb 4 rfl Try.underlying56 rfl rfl rfl) ?_ | refine wl_f (f_loadb 5 rfl Try.underlying56 rfl rfl rfl) ?_ | refine wl_f (f_loadb 6 rfl Try.underlying56 rfl rfl rfl) ?_)
          refine wl_f (f_move rfl) ?_
          refine wl_f (f_move rfl) ?_
          refine wl_e (e_call1 rR [_, _, _] rfl Try.func25 (by kernel_rfl) (pk1 2 rfl) (fun w hh hs' => rkraise_spec bR m l rR i v w hv hR hs')) ?_
          rw [hra]
          rintro _ _ w3 ⟨_, rfl, rfl, rR2, rfl, _, hR2⟩
          refine wl_f (f_assign rfl) ?_
          refine wl_end [(6, _)] ⟨rfl, trivial⟩ ?_
          refine w_pick [1, 1, 0, 0] rfl ?_
          refine w_bun (H := []) [_, _, _, _] ?_
          refine w_ret ?_
          refine ⟨_, _, fun a ha hh => results_tmps Try.results9 rfl a ha _, List.Sublist.refl _, ?_⟩
          refine ⟨0, E.set i (some (k, o + v, s)), base, total + v, _, rfl, rfl, ⟨_, rfl, hm1, hm2, bR, bX, .slice (some ⟨g, 0, .none⟩) m cc, rR2, rX, _, M, T, rfl, hR2, hX, ?_⟩, .inr ⟨rfl, hk0, hv0, hov, rfl, .inl ⟨i, o, s, hi, rfl, rfl⟩⟩⟩
          rw [show o + s + v = o + v + s by omega]
          exact hI.raise hO.nd hi
        · skip
          have hno : Hasnt E k := by
            rcases hI.get hX.nd k with ⟨_, _, _, _, h⟩ | ⟨h, _⟩
            · rw [h] at hc5; exact absurd rfl hc5
            · exact h
          refine w_bun (H := []) [_, _, _, _] ?_
          refine w_skip ?_
          refine w_seq ?_
          refine w_reg ?_
          refine wl_f (f_move rfl) ?_
          refine wl_e (e_call1 _ [] rfl Try.func26 (by kernel_rfl) (List.Perm.refl _) (fun w hh hs' => svfree_spec t m E base (total + v) _ w ⟨_, rfl, hm1, hm2, bR, bX, eV, rR, rX, l, M, T, rfl, hR, hX, hI⟩ hs')) ?_
          rintro _ _ w4 ⟨_, rfl, n, E1, base1, r1, rfl, rfl, hr1, hf⟩
          have ht' := hf.tok ht
          have hno1 := hf.hasnt hno
          have hr1' := hr1
          obtain ⟨L1, rfl, _, _, bR1, bX1, eV1, rR1, rX1, l1, M1, T1, rfl, hR1, hX1, hI1⟩ := hr1
          refine wl_f (f_assign rfl) ?_
          refine wl_end [(0, _), (1, _), (2, _), (9, _)] ⟨rfl, rfl, rfl, rfl, trivial⟩ ?_
          refine w_seq ?_
          refine w_reg ?_
          refine wl_f (f_move rfl) ?_
          refine wl_f (f_move rfl) ?_
          refine wl_f (f_move rfl) ?_
          refine wl_f (f_move rfl) ?_
          refine wl_f (f_move rfl) ?_
          refine wl_f (f_nilCheck rfl) ?_
          refine wl_f (f_fieldAddr 4 rfl Try.underlying68 rfl rfl (by kernel_rfl)) ?_
          refine wl_f (f_loadB 0 0 rfl rfl rfl Try.underlying30 rfl rfl) ?_
          refine wl_f (f_build rfl (fun w => build_entry _ _ _ w)) ?_
          refine wl_e (e_call1 _ [] rfl Try.func27 (by kernel_rfl) (List.Perm.refl _) (fun w hh hs' => svset_spec t m n E1 base1 (total + v) k v base1 _ w hf.2.1 hk hk0 hno1 (by have := ht'.2.1; omega) hr1' hs')) ?_
          rintro _ _ w5 ⟨_, rfl, hL⟩
          rw [List.append_nil]
          have hL' := hL
          obtain ⟨_, _, bR2, bX2, eV2, rR2, rX2, l2, M2, T2, rfl, _⟩ := hL
          refine wl_bun (H := []) [_, _, _, _] ?_
          refine wl_end [] trivial ?_
          refine w_seq ?_
          refine w_reg ?_
          refine wl_f (f_assign rfl) ?_
          refine wl_end [(6, _)] ⟨rfl, trivial⟩ ?_
          refine w_ret ?_
          refine ⟨_, _, fun a ha hh => results_tmps Try.results9 rfl a ha _, List.Sublist.refl _, ?_⟩
          exact ⟨0, E1.set n (some (k, v, base1)), base1, total + v, _, rfl, rfl, ⟨_, rfl, hL'⟩, .inr ⟨rfl, hk0, hv0, hov, rfl, .inr ⟨hno, n, E1, hf, rfl⟩⟩⟩
end Go.Proofs.Ytbcfdgnpdaaleaa
