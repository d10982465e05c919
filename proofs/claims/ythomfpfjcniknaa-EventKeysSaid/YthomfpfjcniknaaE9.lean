/- The law EventKeys: the call returns true. -/
import Derived.Test.YthomfpfjcniknaaE8
import Derived.Test.YthomfpfjcniknaaD17
namespace Go.Proofs.Ythomfpfjcniknaa
open Go.RowKit

theorem sortErr_uni {l : List Tg} {e : Int} (h : ∀ t ∈ l, validE t = 0 ∨ validE t = e) : sortErr l = if l.length = 0 ∨ 8 < l.length then 5 else if ∀ t ∈ l, validE t = 0 then (if (names l).Nodup then 0 else 5) else e := by
  unfold sortErr
  by_cases h0 : l.length = 0 ∨ 8 < l.length
  · rw [if_pos h0, if_pos h0]
  · rw [if_neg h0, if_neg h0]
    split
    · rename_i t ht
      have h1 := List.find?_some ht
      have hm := List.mem_of_find?_eq_some ht
      simp only [ne_eq, decide_eq_true_eq] at h1
      rw [if_neg (fun hall => h1 (hall t hm))]
      exact (h t hm).resolve_left h1
    · rename_i hn
      rw [List.find?_eq_none] at hn
      rw [if_pos (fun t ht => by simpa using hn t ht)]
theorem keyOut_perm' {l m : List Tg} (hp : l.Perm m) (h : uni l) : keyOut l = keyOut m := by
  obtain ⟨e, h⟩ := h
  have hm : ∀ t ∈ m, validE t = 0 ∨ validE t = e := fun t ht => h t (hp.mem_iff.2 ht)
  have hn : (names l).Nodup ↔ (names m).Nodup := (hp.map Prod.fst).nodup_iff
  have hv : (∀ t ∈ l, validE t = 0) ↔ (∀ t ∈ m, validE t = 0) := ⟨fun h t ht => h t (hp.mem_iff.2 ht), fun h t ht => h t (hp.mem_iff.1 ht)⟩
  have he : sortErr l = sortErr m := by
    rw [sortErr_uni h, sortErr_uni hm, hp.length_eq]
    simp only [hn, hv]
  unfold keyOut
  rw [he]
  by_cases h0 : sortErr m ≠ 0
  · rw [if_pos h0, if_pos h0]
  · have h0' : sortErr m = 0 := by simpa using h0
    obtain ⟨_, _, _, hnd⟩ := sortErr_zero h0'
    have : isort l = isort m := srt_unique (isort_srt l (hn.2 hnd)) (isort_srt m hnd) ((isort_perm l).trans (hp.trans (isort_perm m).symm))
    rw [this]
theorem itemOut_perm {l m : List Tg} (hp : l.Perm m) (h : uni l) (t : Int) (wt : Nat) : itemOut l t wt = itemOut m t wt := by
  unfold itemOut
  rw [keyOut_perm' hp h]

set_option maxHeartbeats 4000000 in
theorem eventKeys_spec (A : Option Addr) (l c : Nat) (L : List Int) (w : World) (hd : Rd w Nil 1 (.slice A l c) L.length (iv L)) (hL : L.length ≤ 140737488355328) :
    Spec Try.prog 14 [.slice A l c] w Nil fun r _ => r = .bool true := by
  refine enter (n := 51) Try.func14 rfl rfl [(0, _)] rfl ⟨rfl, trivial⟩ (Holds.start _ _) ?_
  refine w_seq ?_
  refine w_reg ?_
  refine wl_f (f_assign rfl) ?_
  refine wl_end [(0, _)] ⟨rfl, trivial⟩ ?_
  refine w_seq ?_
  refine w_reg ?_
  refine wl_f (f_move rfl) ?_
  refine wl_e (e_call0 rfl Try.func17 (by kernel_rfl) (fun w hh => new_spec A l c w)) ?_
  rintro _ _ w3 ⟨_, rfl, b3, rfl, rfl⟩
  refine wl_e (e_call1 (deck b3 (.slice A l c) 0) [] rfl Try.func18 (by kernel_rfl) (List.Perm.refl _) (fun w hh hs' => event_spec' b3 _ L 0 9 w ⟨hd.old1 hh (Hr := []) (List.Perm.refl _), hL, Nat.zero_le _⟩ hs')) ?_
  rintro _ _ w4 ⟨_, rfl, sl, T, wt, p1, rfl, ⟨hT, hu⟩, hwt, rfl, hp1'⟩
  refine wl_with fun hh => ?_
  obtain ⟨S, cs, rfl⟩ := row_slice hh (i := 0) rfl
  clear hh
  refine wl_e (e_allocs [.slice .none 0 0, .int .i64 0, .int .u64 0] (by kernel_rfl)) ?_
  rintro _ _ w1_3 ⟨b1_3, rfl, rfl⟩
  (first | refine wl_e0 (e_store0 (us := [_, _, _]) rfl rfl rfl (by kernel_rfl) (by simp [Value.oneCell']) rfl rfl) ?_ | refine wl_e0 (e_store1 (us := [_, _, _]) rfl rfl rfl (by kernel_rfl) (by simp [Value.oneCell']) rfl rfl) ?_ | refine wl_e0 (e_store2 (us := [_, _, _]) rfl rfl rfl (by kernel_rfl) (by simp [Value.oneCell']) rfl rfl) ?_ | refine wl_e0 (e_store3 (us := [_, _, _]) rfl rfl rfl (by kernel_rfl) (by simp [Value.oneCell']) rfl rfl) ?_)
  rintro _ _ w1_4 rfl
  refine wl_pick [0, 0] rfl ?_
  refine wl_end [(3, _)] ⟨rfl, trivial⟩ ?_
  refine w_seq ?_
  refine w_reg ?_
  (first | refine wl_f (f_loadsb (cs := [_, _, _]) 0 rfl Try.underlying25 rfl (by kernel_rfl) rfl rfl) ?_ | refine wl_f (f_loadsb (cs := [_, _, _]) 1 rfl Try.underlying25 rfl (by kernel_rfl) rfl rfl) ?_ | refine wl_f (f_loadsb (cs := [_, _, _]) 2 rfl Try.underlying25 rfl (by kernel_rfl) rfl rfl) ?_ | refine wl_f (f_loadsb (cs := [_, _, _]) 3 rfl Try.underlying25 rfl (by kernel_rfl) rfl rfl) ?_ | refine wl_f (f_loadsb (cs := [_, _, _]) 4 rfl Try.underlying25 rfl (by kernel_rfl) rfl rfl) ?_ | refine wl_f (f_loadsb (cs := [_, _, _]) 5 rfl Try.underlying25 rfl (by kernel_rfl) rfl rfl) ?_ | refine wl_f (f_loadsb (cs := [_, _, _]) 6 rfl Try.underlying25 rfl (by kernel_rfl) rfl rfl) ?_)
  refine wl_e (e_allocs [.slice .none 0 0, .int .i64 0, .int .u64 0] (by kernel_rfl)) ?_
  rintro _ _ w2_1 ⟨b2_1, rfl, rfl⟩
  (first | refine wl_e0 (e_store0 (us := [_, _, _]) rfl rfl rfl (by kernel_rfl) (by simp [Value.oneCell']) rfl rfl) ?_ | refine wl_e0 (e_store1 (us := [_, _, _]) rfl rfl rfl (by kernel_rfl) (by simp [Value.oneCell']) rfl rfl) ?_ | refine wl_e0 (e_store2 (us := [_, _, _]) rfl rfl rfl (by kernel_rfl) (by simp [Value.oneCell']) rfl rfl) ?_ | refine wl_e0 (e_store3 (us := [_, _, _]) rfl rfl rfl (by kernel_rfl) (by simp [Value.oneCell']) rfl rfl) ?_)
  rintro _ _ w2_2 rfl
  refine wl_end [(3, _), (4, _)] ⟨rfl, rfl, trivial⟩ ?_
  refine w_seq ?_
  refine w_reg ?_
  refine wl_f (f_fieldAddr 0 rfl Try.underlying25 rfl rfl (by kernel_rfl)) ?_
  (first | refine wl_e0 (e_store0 (us := [_]) rfl rfl rfl (by kernel_rfl) (by simp [Value.oneCell']) rfl rfl) ?_ | refine wl_e0 (e_store1 (us := [_]) rfl rfl rfl (by kernel_rfl) (by simp [Value.oneCell']) rfl rfl) ?_ | refine wl_e0 (e_store2 (us := [_]) rfl rfl rfl (by kernel_rfl) (by simp [Value.oneCell']) rfl rfl) ?_ | refine wl_e0 (e_store3 (us := [_]) rfl rfl rfl (by kernel_rfl) (by simp [Value.oneCell']) rfl rfl) ?_)
  rintro _ _ w3_1 rfl
  refine wl_end [(3, _), (4, _)] ⟨rfl, rfl, trivial⟩ ?_
  refine w_seq ?_
  refine w_seq ?_
  refine w_reg ?_
  refine wl_f (f_fieldAddr 0 rfl Try.underlying25 rfl rfl (by kernel_rfl)) ?_
  (first | refine wl_f (f_loadb 0 rfl Try.underlying22 rfl rfl rfl) ?_ | refine wl_f (f_loadb 1 rfl Try.underlying22 rfl rfl rfl) ?_ | refine wl_f (f_loadb 2 rfl Try.underlying22 rfl rfl rfl) ?_ | refine wl_f (f_loadb 3 rfl Try.underlying22 rfl rfl rfl) ?_ | refine wl_f (f_loadb 4 rfl Try.underlying22 rfl rfl rfl) ?_ | refine wl_f (f_loadb 5 rfl Try.underlying22 rfl rfl rfl) ?_ | refine wl_f (f_loadb 6 rfl Try.underlying22 rfl rfl rfl) ?_)
  refine wl_f (f_len rfl Try.underlying22) ?_
  refine wl_f (f_move rfl) ?_
  refine wl_end [(3, _), (4, _), (17, _), (18, _), (19, _)] ⟨rfl, rfl, rfl, rfl, rfl, trivial⟩ ?_
  refine w_block ?_
  refine w_nilrow 35 2 ?_
  refine w_loop (fun k m H w' => ∃ (i : Nat) (U : Option Addr) (cu : Nat) (out : List Tg), m = [(3, .pointer (some ⟨b1_3, 0, .none⟩)), (4, .pointer (some ⟨b2_1, 0, .none⟩)), (17, .slice S T.length cs), (18, .int .i64 T.length), (19, .int .i64 i)] ∧
    H = [row (.slice U out.length cu) 35 2 out.length (tcells out), blk b2_1 [.slice U out.length cu, .int .i64 9, .int .u64 wt] 25, blk b1_3 [.slice S T.length cs, .int .i64 9, .int .u64 wt] 25, row (.slice S T.length cs) 35 2 T.length (tcells T)] ∧
    k + i = T.length ∧ out.Perm (T.take i)) T.length ⟨0, .none, 0, [], rfl, rfl, rfl, List.Perm.refl _⟩ ?_
  rintro k _ _ w5 ⟨i, U, cu, out, rfl, rfl, hk, hp⟩
  have hTn := hT.1
  have hol := hp.length_eq
  rw [List.length_take] at hol
  refine w_seq ?_
  refine w_reg ?_
  refine wl_f (f_lss rfl rfl) ?_
  refine wl_end [(3, _), (4, _), (17, _), (18, _), (19, _), (20, _)] ⟨rfl, rfl, rfl, rfl, rfl, rfl, trivial⟩ ?_
  refine w_seq ?_
  refine w_ifd rfl (fun hc1 => ?_) (fun hc1 => ?_)
  · skip
    obtain ⟨t, ht⟩ : ∃ t, T[i]? = some t := ⟨T[i]'(by omega), List.getElem?_eq_getElem (by omega)⟩
    obtain ⟨hlt, het⟩ := List.getElem?_eq_some_iff.1 ht
    refine w_with fun hh => ?_
    obtain ⟨g, cap, e⟩ := row_form hh (i := 3) rfl (by omega)
    injection e with e1 _ e3
    subst e1; subst e3
    clear hh
    refine w_skip ?_
    refine w_seq ?_
    refine w_block ?_
    refine w_seq ?_
    refine w_reg ?_
    refine wl_f (f_indexAddr 2 rfl rfl Try.underlying22 (by kernel_rfl) rfl (by omega)) ?_
    refine wl_f (f_loadsr (cs := [.string t.1, .string t.2]) 3 rfl Try.underlying35 rfl (by kernel_rfl) rfl (by
      have := tc_get (T.take i) (T.drop (i + 1)) t (i := i) (by rw [List.length_take]; omega)
      rwa [← het, ← List.drop_eq_getElem_cons hlt, List.take_append_drop, het] at this)) ?_
    refine wl_e (e_allocs [.string ByteArray.empty, .string ByteArray.empty] (by kernel_rfl)) ?_
    rintro _ _ w6_2 ⟨b6_2, rfl, rfl⟩
    (first | refine wl_e0 (e_store0 (us := [_, _]) rfl rfl rfl (by kernel_rfl) (by simp [Value.oneCell']) rfl rfl) ?_ | refine wl_e0 (e_store1 (us := [_, _]) rfl rfl rfl (by kernel_rfl) (by simp [Value.oneCell']) rfl rfl) ?_ | refine wl_e0 (e_store2 (us := [_, _]) rfl rfl rfl (by kernel_rfl) (by simp [Value.oneCell']) rfl rfl) ?_ | refine wl_e0 (e_store3 (us := [_, _]) rfl rfl rfl (by kernel_rfl) (by simp [Value.oneCell']) rfl rfl) ?_)
    rintro _ _ w6_3 rfl
    refine wl_end [(3, _), (4, _), (6, _), (17, _), (18, _), (19, _)] ⟨rfl, rfl, rfl, rfl, rfl, rfl, trivial⟩ ?_
    refine w_reg ?_
    (first | refine wl_f (f_loadsb (cs := [_, _]) 0 rfl Try.underlying35 rfl (by kernel_rfl) rfl rfl) ?_ | refine wl_f (f_loadsb (cs := [_, _]) 1 rfl Try.underlying35 rfl (by kernel_rfl) rfl rfl) ?_ | refine wl_f (f_loadsb (cs := [_, _]) 2 rfl Try.underlying35 rfl (by kernel_rfl) rfl rfl) ?_ | refine wl_f (f_loadsb (cs := [_, _]) 3 rfl Try.underlying35 rfl (by kernel_rfl) rfl rfl) ?_ | refine wl_f (f_loadsb (cs := [_, _]) 4 rfl Try.underlying35 rfl (by kernel_rfl) rfl rfl) ?_ | refine wl_f (f_loadsb (cs := [_, _]) 5 rfl Try.underlying35 rfl (by kernel_rfl) rfl rfl) ?_ | refine wl_f (f_loadsb (cs := [_, _]) 6 rfl Try.underlying35 rfl (by kernel_rfl) rfl rfl) ?_)
    refine wl_e (e_lit1 (cs := [_, _]) t22 rfl rfl rfl (by omega)) ?_
    rintro _ _ w7_1 ⟨b7_1, rfl, rfl⟩
    refine wl_f (f_fieldAddr 0 rfl Try.underlying25 rfl rfl (by kernel_rfl)) ?_
    (first | refine wl_f (f_loadb 0 rfl Try.underlying22 rfl rfl rfl) ?_ | refine wl_f (f_loadb 1 rfl Try.underlying22 rfl rfl rfl) ?_ | refine wl_f (f_loadb 2 rfl Try.underlying22 rfl rfl rfl) ?_ | refine wl_f (f_loadb 3 rfl Try.underlying22 rfl rfl rfl) ?_ | refine wl_f (f_loadb 4 rfl Try.underlying22 rfl rfl rfl) ?_ | refine wl_f (f_loadb 5 rfl Try.underlying22 rfl rfl rfl) ?_ | refine wl_f (f_loadb 6 rfl Try.underlying22 rfl rfl rfl) ?_)
    refine wl_e (e_appS0 t22 rfl rfl (fun w hh => Rd.held0 hh (i := 2) rfl) (tcells_one out) (by omega) (by omega)) ?_
    rintro _ _ w6 ⟨⟨U', cu', rfl⟩, rfl⟩
    refine wl_f (f_fieldAddr 0 rfl Try.underlying25 rfl rfl (by kernel_rfl)) ?_
    (first | refine wl_e0 (e_store0 (us := [_]) rfl rfl rfl (by kernel_rfl) (by simp [Value.oneCell']) rfl rfl) ?_ | refine wl_e0 (e_store1 (us := [_]) rfl rfl rfl (by kernel_rfl) (by simp [Value.oneCell']) rfl rfl) ?_ | refine wl_e0 (e_store2 (us := [_]) rfl rfl rfl (by kernel_rfl) (by simp [Value.oneCell']) rfl rfl) ?_ | refine wl_e0 (e_store3 (us := [_]) rfl rfl rfl (by kernel_rfl) (by simp [Value.oneCell']) rfl rfl) ?_)
    rintro _ _ w7_6 rfl
    refine wl_pick [0, 2, 2, 2] rfl ?_
    refine wl_end [(3, _), (4, _), (17, _), (18, _), (19, _)] ⟨rfl, rfl, rfl, rfl, rfl, trivial⟩ ?_
    refine w_reg ?_
    refine wl_f (f_add rfl rfl (by omega)) ?_
    refine wl_f (f_move rfl) ?_
    refine wl_end [(3, _), (4, _), (17, _), (18, _), (19, _)] ⟨rfl, rfl, rfl, rfl, rfl, trivial⟩ ?_
    refine ⟨k - 1, by omega, i + 1, U', cu', t :: out, rfl, ?_, by omega, ?_⟩
    · rw [show (t :: out).length = 1 + out.length by simp; omega]
      rfl
    · rw [take_snoc T i t ht]
      exact (hp.cons t).trans (List.perm_append_singleton t _).symm
  · skip
    rw [List.take_of_length_le (by omega)] at hp
    have hsz : ∀ x ∈ T, x.1.size ≤ 140737488355328 := fun x hx => by have := (hT.2 x hx).1; omega
    refine w_exit0 ?_
    refine w_seq ?_
    refine w_reg ?_
    (first | refine wl_f (f_loadsb (cs := [_, _, _]) 0 rfl Try.underlying25 rfl (by kernel_rfl) rfl rfl) ?_ | refine wl_f (f_loadsb (cs := [_, _, _]) 1 rfl Try.underlying25 rfl (by kernel_rfl) rfl rfl) ?_ | refine wl_f (f_loadsb (cs := [_, _, _]) 2 rfl Try.underlying25 rfl (by kernel_rfl) rfl rfl) ?_ | refine wl_f (f_loadsb (cs := [_, _, _]) 3 rfl Try.underlying25 rfl (by kernel_rfl) rfl rfl) ?_ | refine wl_f (f_loadsb (cs := [_, _, _]) 4 rfl Try.underlying25 rfl (by kernel_rfl) rfl rfl) ?_ | refine wl_f (f_loadsb (cs := [_, _, _]) 5 rfl Try.underlying25 rfl (by kernel_rfl) rfl rfl) ?_ | refine wl_f (f_loadsb (cs := [_, _, _]) 6 rfl Try.underlying25 rfl (by kernel_rfl) rfl rfl) ?_)
    refine wl_e (e_call0 rfl Try.func40 (by kernel_rfl) (fun w hh => item_spec _ T 9 wt w (Rd.held0 hh (i := 3) rfl) (by omega) hsz)) ?_
    rintro _ _ w8 ⟨_, rfl, rfl, rfl⟩
    refine wl_f (f_move rfl) ?_
    refine wl_f (f_extract rfl rfl) ?_
    refine wl_f (f_extract rfl rfl) ?_
    refine wl_e (e_allocs [.string ByteArray.empty, .int .i64 0, .int .u64 0] (by kernel_rfl)) ?_
    rintro _ _ w9_5 ⟨b9_5, rfl, rfl⟩
    (first | refine wl_e0 (e_store0 (us := [_, _, _]) rfl rfl rfl (by kernel_rfl) (by simp [Value.oneCell']) rfl rfl) ?_ | refine wl_e0 (e_store1 (us := [_, _, _]) rfl rfl rfl (by kernel_rfl) (by simp [Value.oneCell']) rfl rfl) ?_ | refine wl_e0 (e_store2 (us := [_, _, _]) rfl rfl rfl (by kernel_rfl) (by simp [Value.oneCell']) rfl rfl) ?_ | refine wl_e0 (e_store3 (us := [_, _, _]) rfl rfl rfl (by kernel_rfl) (by simp [Value.oneCell']) rfl rfl) ?_)
    rintro _ _ w9_6 rfl
    refine wl_f (f_assign rfl) ?_
    refine wl_end [(4, _), (7, _), (8, _)] ⟨rfl, rfl, rfl, trivial⟩ ?_
    refine w_seq ?_
    refine w_reg ?_
    (first | refine wl_f (f_loadsb (cs := [_, _, _]) 0 rfl Try.underlying25 rfl (by kernel_rfl) rfl rfl) ?_ | refine wl_f (f_loadsb (cs := [_, _, _]) 1 rfl Try.underlying25 rfl (by kernel_rfl) rfl rfl) ?_ | refine wl_f (f_loadsb (cs := [_, _, _]) 2 rfl Try.underlying25 rfl (by kernel_rfl) rfl rfl) ?_ | refine wl_f (f_loadsb (cs := [_, _, _]) 3 rfl Try.underlying25 rfl (by kernel_rfl) rfl rfl) ?_ | refine wl_f (f_loadsb (cs := [_, _, _]) 4 rfl Try.underlying25 rfl (by kernel_rfl) rfl rfl) ?_ | refine wl_f (f_loadsb (cs := [_, _, _]) 5 rfl Try.underlying25 rfl (by kernel_rfl) rfl rfl) ?_ | refine wl_f (f_loadsb (cs := [_, _, _]) 6 rfl Try.underlying25 rfl (by kernel_rfl) rfl rfl) ?_)
    refine wl_e (e_call0 rfl Try.func40 (by kernel_rfl) (fun w hh => item_spec _ out 9 wt w (Rd.held0 hh (i := 1) rfl) (by omega) (fun x hx => hsz x (hp.mem_iff.1 hx)))) ?_
    rintro _ _ w9 ⟨_, rfl, rfl, rfl⟩
    rw [← itemOut_perm hp.symm hu]
    refine wl_f (f_move rfl) ?_
    refine wl_f (f_extract rfl rfl) ?_
    refine wl_f (f_extract rfl rfl) ?_
    refine wl_e (e_allocs [.string ByteArray.empty, .int .i64 0, .int .u64 0] (by kernel_rfl)) ?_
    rintro _ _ w10_5 ⟨b10_5, rfl, rfl⟩
    (first | refine wl_e0 (e_store0 (us := [_, _, _]) rfl rfl rfl (by kernel_rfl) (by simp [Value.oneCell']) rfl rfl) ?_ | refine wl_e0 (e_store1 (us := [_, _, _]) rfl rfl rfl (by kernel_rfl) (by simp [Value.oneCell']) rfl rfl) ?_ | refine wl_e0 (e_store2 (us := [_, _, _]) rfl rfl rfl (by kernel_rfl) (by simp [Value.oneCell']) rfl rfl) ?_ | refine wl_e0 (e_store3 (us := [_, _, _]) rfl rfl rfl (by kernel_rfl) (by simp [Value.oneCell']) rfl rfl) ?_)
    rintro _ _ w10_6 rfl
    refine wl_f (f_assign rfl) ?_
    refine wl_end [(7, _), (8, _), (9, _), (10, _)] ⟨rfl, rfl, rfl, rfl, trivial⟩ ?_
    refine w_seq ?_
    refine w_reg ?_
    (first | refine wl_f (f_loadsb (cs := [_, _, _]) 0 rfl Try.underlying69 rfl (by kernel_rfl) rfl rfl) ?_ | refine wl_f (f_loadsb (cs := [_, _, _]) 1 rfl Try.underlying69 rfl (by kernel_rfl) rfl rfl) ?_ | refine wl_f (f_loadsb (cs := [_, _, _]) 2 rfl Try.underlying69 rfl (by kernel_rfl) rfl rfl) ?_ | refine wl_f (f_loadsb (cs := [_, _, _]) 3 rfl Try.underlying69 rfl (by kernel_rfl) rfl rfl) ?_ | refine wl_f (f_loadsb (cs := [_, _, _]) 4 rfl Try.underlying69 rfl (by kernel_rfl) rfl rfl) ?_ | refine wl_f (f_loadsb (cs := [_, _, _]) 5 rfl Try.underlying69 rfl (by kernel_rfl) rfl rfl) ?_ | refine wl_f (f_loadsb (cs := [_, _, _]) 6 rfl Try.underlying69 rfl (by kernel_rfl) rfl rfl) ?_)
    (first | refine wl_f (f_loadsb (cs := [_, _, _]) 0 rfl Try.underlying69 rfl (by kernel_rfl) rfl rfl) ?_ | refine wl_f (f_loadsb (cs := [_, _, _]) 1 rfl Try.underlying69 rfl (by kernel_rfl) rfl rfl) ?_ | refine wl_f (f_loadsb (cs := [_, _, _]) 2 rfl Try.underlying69 rfl (by kernel_rfl) rfl rfl) ?_ | refine wl_f (f_loadsb (cs := [_, _, _]) 3 rfl Try.underlying69 rfl (by kernel_rfl) rfl rfl) ?_ | refine wl_f (f_loadsb (cs := [_, _, _]) 4 rfl Try.underlying69 rfl (by kernel_rfl) rfl rfl) ?_ | refine wl_f (f_loadsb (cs := [_, _, _]) 5 rfl Try.underlying69 rfl (by kernel_rfl) rfl rfl) ?_ | refine wl_f (f_loadsb (cs := [_, _, _]) 6 rfl Try.underlying69 rfl (by kernel_rfl) rfl rfl) ?_)
    refine wl_f (f_bin rfl rfl (fun w => run_eqGuard_agg w _ _ _ _ _ _ (by kernel_rfl)) (fun w => eql_item (itemOut T 9 wt).1 w)) ?_
    refine wl_f (f_move rfl) ?_
    refine wl_and (j := 3) (c := decide ((itemOut T 9 wt).2 = (itemOut T 9 wt).2)) 3 [] trivial rfl rfl rfl rfl rfl (fun hg11_7 => ?_) (fun w11_7 => ?_)
    · skip
      refine wl_gf rfl rfl (f_move rfl) ?_
      refine wl_gf rfl rfl (f_move rfl) ?_
      refine wl_gf rfl rfl (f_eql rfl rfl) ?_
      exact wl_pend rfl rfl trivial (List.Sublist.refl _)
    refine wl_f (f_move rfl) ?_
    refine wl_and (j := 8) (c := true) 1 [] trivial rfl rfl rfl rfl rfl (fun hg11_10 => ?_) (fun w11_10 => ?_)
    · skip
      refine wl_ge rfl rfl (e_call0 rfl Try.func16 (by kernel_rfl) (fun w hh => awake_spec w)) ?_
      rintro _ _ w10 ⟨_, rfl, rfl, rfl⟩
      exact wl_pend rfl rfl trivial (List.Sublist.refl _)
    refine wl_f (f_assign rfl) ?_
    refine wl_end [(2, _)] ⟨rfl, trivial⟩ ?_
    refine w_ret ?_
    refine ⟨_, _, fun a ha hh => results_tmps Try.results14 rfl a ha _, List.Sublist.refl _, ?_⟩
    simp [tup]
end Go.Proofs.Ythomfpfjcniknaa
