/- Tables of tracked keys: setting, dropping, finding a free number. -/
import Derived.Test.YtbcfdgnpdaaleaaS1
namespace Go.Proofs.Ytbcfdgnpdaaleaa
open Go.RowKit

theorem oins_free {m n : Nat} {E : List (Option En)} {l : Ord} {M : List (ByteArray × Int)} {c : Nat} (h : SInv m E l M) (hO : OInv m l) (hn : E[n]? = some none) (hc : c ≤ 9223372036854775808) : oins m l n c = (0, ins l n c) := by
  have hnl : n < E.length := (List.getElem?_eq_some_iff.1 hn).1
  have hni : (n : Int) ∉ ids l := fun hi => by
    obtain ⟨⟨z, c'⟩, hx, e⟩ := List.mem_map.1 hi
    have e : z = (n : Int) := e
    subst e
    obtain ⟨k, o, s, h1, _⟩ := (h.ord n c').1 hx
    rw [hn] at h1; cases h1
  rw [oins, if_neg (by have := h.len; omega), if_neg hni, if_neg (by omega)]
theorem keys_free {m : Nat} {E : List (Option En)} {l : Ord} {M : List (ByteArray × Int)} {k : ByteArray} (h : SInv m E l M) : k ∈ keys M ↔ ∃ (i o s : Nat), E[i]? = some (some (k, o, s)) := by
  rw [mem_keys]
  constructor
  · rintro ⟨z, hz⟩
    obtain ⟨i, o, s, _, hi⟩ := (h.idx k z).1 hz
    exact ⟨i, o, s, hi⟩
  · rintro ⟨i, o, s, hi⟩
    exact ⟨i, (h.idx k i).2 ⟨i, o, s, rfl, hi⟩⟩

set_option maxHeartbeats 2000000 in
theorem svset_spec (t m n : Nat) (E : List (Option En)) (base total : Nat) (k : ByteArray) (o s : Nat) (r : Res) (w : World) (hn : E[n]? = some none) (hk : small k) (hk0 : k ≠ ByteArray.empty)
    (hab : ∀ (i o' s' : Nat), E[i]? ≠ some (some (k, o', s'))) (hc : o + s ≤ 9223372036854775808) (hr : SvR t m E base total r) (hs : Holds w r.foot [r] w) :
    Spec Try.prog 27 [.pointer (some ⟨t, 0, .none⟩), .int .i64 (n : Int), .agg #[.string k, .int .u64 (o : Int), .int .u64 (s : Int)]] w r.foot fun _ H => SvL t m (E.set n (some (k, o, s))) base total H := by
  obtain ⟨L, rfl, hm1, hm2, bR, bX, eV, rR, rX, l, M, T, rfl, hR, hX, hI⟩ := hr
  have hEl := hI.len
  have hnl : n < E.length := (List.getElem?_eq_some_iff.1 hn).1
  have hins := oins_free hI hR.inv hn hc
  have hkM : k ∉ keys M := fun h => by obtain ⟨i, o', s', hi⟩ := (keys_free hI).1 h; exact hab i o' s' hi
  have hput := mput_new (v := (n : Int)) hkM (Nat.ne_of_lt (hI.room hX.nd hn))
  refine enter (n := 34) Try.func27 rfl rfl [(0, _), (1, _), (2, _)] rfl ⟨rfl, rfl, rfl, trivial⟩ hs ?_
  refine w_seq ?_
  refine w_reg ?_
  refine wl_e (e_box (cs := [_, _, _]) rfl rfl) ?_
  rintro _ _ w0_0 ⟨b0_0, rfl, rfl⟩
  refine wl_end [(0, _), (1, _), (5, _)] ⟨rfl, rfl, rfl, trivial⟩ ?_
  refine w_seq ?_
  refine w_pick [1, 0] rfl ?_
  refine w_unb (svl t m bR bX eV E base total rR rX) ?_
  refine w_with fun hh => ?_
  obtain ⟨g, cc, e2⟩ := row_form hh (i := 1) rfl (by omega)
  subst e2
  clear hh
  refine w_pick [1, 0, 2, 0, 0] rfl ?_
  refine w_drawk [(0, true), (1, true), (2, true), (3, true), (4, true), (5, true), (6, true), (7, false)] ([(_, some 7), (_, none), (_, none)]) ([_, _]) mixed (by kernel_rfl) (by kernel_rfl) rfl rfl (List.Perm.refl _) (fun w1_ => ?_)
  refine wk_f rfl (f_move rfl) ?_
  refine wk_f rfl (f_nilCheck rfl) ?_
  refine wk_f rfl (f_fieldAddr 3 rfl Try.underlying68 rfl rfl (by kernel_rfl)) ?_
  (first | refine wk_f rfl (f_loadb 0 rfl Try.underlying43 rfl rfl rfl) ?_ | refine wk_f rfl (f_loadb 1 rfl Try.underlying43 rfl rfl rfl) ?_ | refine wk_f rfl (f_loadb 2 rfl Try.underlying43 rfl rfl rfl) ?_ | refine wk_f rfl (f_loadb 3 rfl Try.underlying43 rfl rfl rfl) ?_ | refine wk_f rfl (f_loadb 4 rfl Try.underlying43 rfl rfl rfl) ?_ | refine wk_f rfl (f_loadb 5 rfl Try.underlying43 rfl rfl rfl) ?_ | refine wk_f rfl (f_loadb 6 rfl Try.underlying43 rfl rfl rfl) ?_)
  refine wk_f rfl (f_move rfl) ?_
  (first | refine wk_f rfl (f_loadsb (cs := [_, _, _]) 0 rfl Try.underlying34 rfl (by kernel_rfl) rfl rfl) ?_ | refine wk_f rfl (f_loadsb (cs := [_, _, _]) 1 rfl Try.underlying34 rfl (by kernel_rfl) rfl rfl) ?_ | refine wk_f rfl (f_loadsb (cs := [_, _, _]) 2 rfl Try.underlying34 rfl (by kernel_rfl) rfl rfl) ?_ | refine wk_f rfl (f_loadsb (cs := [_, _, _]) 3 rfl Try.underlying34 rfl (by kernel_rfl) rfl rfl) ?_ | refine wk_f rfl (f_loadsb (cs := [_, _, _]) 4 rfl Try.underlying34 rfl (by kernel_rfl) rfl rfl) ?_ | refine wk_f rfl (f_loadsb (cs := [_, _, _]) 5 rfl Try.underlying34 rfl (by kernel_rfl) rfl rfl) ?_ | refine wk_f rfl (f_loadsb (cs := [_, _, _]) 6 rfl Try.underlying34 rfl (by kernel_rfl) rfl rfl) ?_)
  refine wk_f rfl (f_indexAddr 3 (i := n) rfl rfl Try.underlying43 (by kernel_rfl) rfl (by omega)) ?_
  refine wk_e0 rfl (e_storerN 0 (us := ecell (some (k, o, s))) (xs' := ecells (E.set n (some (k, o, s)))) rfl rfl rfl rfl (by kernel_rfl) (by simp [ecell, Value.oneCell']) (by rw [ecells_len]; show 0 + n * 3 + 3 ≤ _; omega) (ecells_set _ hnl)) ?_
  rintro _ _ w1 rfl
  refine ⟨_, pick_perm [1, 1] _ rfl, ?_⟩
  refine wk_end [(0, _), (1, _), (5, _)] ⟨rfl, rfl, rfl, trivial⟩ ?_
  refine w_seq ?_
  refine w_pick [0, 0, 0, 1, 0] rfl ?_
  refine w_draw [(0, true), (1, true), (2, true), (3, true), (4, true), (5, true), (6, true), (7, true), (8, true), (9, true), (10, true), (11, false)] ([_, _, _, _]) ([_]) mixed (by kernel_rfl) (by kernel_rfl) rfl (List.Perm.refl _) (fun w2_ => ?_)
  refine wd_f rfl (f_move rfl) ?_
  refine wd_f rfl (f_nilCheck rfl) ?_
  refine wd_f rfl (f_fieldAddr 0 rfl Try.underlying68 rfl rfl (by kernel_rfl)) ?_
  refine wd_f rfl (f_fieldAddr 0 rfl Try.underlying64 rfl rfl (by kernel_rfl)) ?_
  (first | refine wd_f rfl (f_loadb 0 rfl Try.underlying56 rfl rfl rfl) ?_ | refine wd_f rfl (f_loadb 1 rfl Try.underlying56 rfl rfl rfl) ?_ | refine wd_f rfl (f_loadb 2 rfl Try.underlying56 rfl rfl rfl) ?_ | refine wd_f rfl (f_loadb 3 rfl Try.underlying56 rfl rfl rfl) ?_ | refine wd_f rfl (f_loadb 4 rfl Try.underlying56 rfl rfl rfl) ?_ | refine wd_f rfl (f_loadb 5 rfl Try.underlying56 rfl rfl rfl) ?_ | refine wd_f rfl (f_loadb 6 rfl Try.underlying56 rfl rfl rfl) ?_)
  refine wd_f rfl (f_move rfl) ?_
  refine wd_f rfl (f_fieldAddr 1 rfl Try.underlying34 rfl rfl (by kernel_rfl)) ?_
  (first | refine wd_f rfl (f_loadb 0 rfl Try.underlying30 rfl rfl rfl) ?_ | refine wd_f rfl (f_loadb 1 rfl Try.underlying30 rfl rfl rfl) ?_ | refine wd_f rfl (f_loadb 2 rfl Try.underlying30 rfl rfl rfl) ?_ | refine wd_f rfl (f_loadb 3 rfl Try.underlying30 rfl rfl rfl) ?_ | refine wd_f rfl (f_loadb 4 rfl Try.underlying30 rfl rfl rfl) ?_ | refine wd_f rfl (f_loadb 5 rfl Try.underlying30 rfl rfl rfl) ?_ | refine wd_f rfl (f_loadb 6 rfl Try.underlying30 rfl rfl rfl) ?_)
  refine wd_f rfl (f_fieldAddr 2 rfl Try.underlying34 rfl rfl (by kernel_rfl)) ?_
  (first | refine wd_f rfl (f_loadb 0 rfl Try.underlying30 rfl rfl rfl) ?_ | refine wd_f rfl (f_loadb 1 rfl Try.underlying30 rfl rfl rfl) ?_ | refine wd_f rfl (f_loadb 2 rfl Try.underlying30 rfl rfl rfl) ?_ | refine wd_f rfl (f_loadb 3 rfl Try.underlying30 rfl rfl rfl) ?_ | refine wd_f rfl (f_loadb 4 rfl Try.underlying30 rfl rfl rfl) ?_ | refine wd_f rfl (f_loadb 5 rfl Try.underlying30 rfl rfl rfl) ?_ | refine wd_f rfl (f_loadb 6 rfl Try.underlying30 rfl rfl rfl) ?_)
  refine wd_f rfl (f_eqv (v' := .int .u64 ((o + s : Nat) : Int)) (f_addu rfl rfl (by omega)) (by rw [Int.natCast_add])) ?_
  refine wd_e rfl (e_call1 rR [_, _, _, _] rfl Try.func44 (by kernel_rfl) (pk1 4 rfl) (fun w hh hs' => rkinsert_spec bR m l rR n (o + s) w hR hs')) ?_
  rw [hins]
  rintro _ _ w2 ⟨_, rfl, rfl, rR2, rfl, hR2⟩
  refine ⟨_, List.perm_append_comm, ?_⟩
  refine wd_end [(0, _), (1, _), (5, _)] ⟨rfl, rfl, rfl, trivial⟩ ?_
  refine w_pick [0, 0, 0, 1, 0] rfl ?_
  refine w_draw [(0, true), (1, true), (2, true), (3, true), (4, true), (5, true), (6, true), (7, true), (8, false)] ([_, _, _, _]) ([_]) mixed (by kernel_rfl) (by kernel_rfl) rfl (List.Perm.refl _) (fun w3_ => ?_)
  refine wd_f rfl (f_move rfl) ?_
  refine wd_f rfl (f_nilCheck rfl) ?_
  refine wd_f rfl (f_fieldAddr 1 rfl Try.underlying68 rfl rfl (by kernel_rfl)) ?_
  refine wd_f rfl (f_fieldAddr 0 rfl Try.underlying66 rfl rfl (by kernel_rfl)) ?_
  (first | refine wd_f rfl (f_loadb 0 rfl Try.underlying59 rfl rfl rfl) ?_ | refine wd_f rfl (f_loadb 1 rfl Try.underlying59 rfl rfl rfl) ?_ | refine wd_f rfl (f_loadb 2 rfl Try.underlying59 rfl rfl rfl) ?_ | refine wd_f rfl (f_loadb 3 rfl Try.underlying59 rfl rfl rfl) ?_ | refine wd_f rfl (f_loadb 4 rfl Try.underlying59 rfl rfl rfl) ?_ | refine wd_f rfl (f_loadb 5 rfl Try.underlying59 rfl rfl rfl) ?_ | refine wd_f rfl (f_loadb 6 rfl Try.underlying59 rfl rfl rfl) ?_)
  refine wd_f rfl (f_fieldAddr 0 rfl Try.underlying34 rfl rfl (by kernel_rfl)) ?_
  (first | refine wd_f rfl (f_loadb 0 rfl Try.underlying9 rfl rfl rfl) ?_ | refine wd_f rfl (f_loadb 1 rfl Try.underlying9 rfl rfl rfl) ?_ | refine wd_f rfl (f_loadb 2 rfl Try.underlying9 rfl rfl rfl) ?_ | refine wd_f rfl (f_loadb 3 rfl Try.underlying9 rfl rfl rfl) ?_ | refine wd_f rfl (f_loadb 4 rfl Try.underlying9 rfl rfl rfl) ?_ | refine wd_f rfl (f_loadb 5 rfl Try.underlying9 rfl rfl rfl) ?_ | refine wd_f rfl (f_loadb 6 rfl Try.underlying9 rfl rfl rfl) ?_)
  refine wd_f rfl (f_move rfl) ?_
  refine wd_e rfl (e_call1 rX [_, _, _, _] rfl Try.func45 (by kernel_rfl) (pk1 4 rfl) (fun w hh hs' => ixput_spec bX m T 0 M rX k (n : Int) w hk hX hs')) ?_
  rw [hput]
  rintro _ _ w3 ⟨_, rfl, rfl, rX2, rfl, hX2⟩
  refine ⟨_, List.perm_append_comm, ?_⟩
  refine wd_endp [] [0, 1, 1, 1] trivial rfl ?_
  refine ⟨_, _, fun a ha hh => results_tmps (l := []) Try.results27 rfl a ha _, List.Sublist.refl _, ?_⟩
  exact ⟨hm1, hm2, bR, bX, _, rR2, rX2, _, _, T, rfl, hR2, hX2, hI.set hn hk hk0⟩

set_option maxHeartbeats 2000000 in
theorem svdrop_spec (t m n : Nat) (E : List (Option En)) (base total : Nat) (k : ByteArray) (o s : Nat) (r : Res) (w : World) (hn : E[n]? = some (some (k, o, s))) (hr : SvR t m E base total r) (hs : Holds w r.foot [r] w) :
    Spec Try.prog 30 [.pointer (some ⟨t, 0, .none⟩), .int .i64 (n : Int)] w r.foot fun v H => v = .agg #[.string k, .int .u64 (o : Int), .int .u64 (s : Int)] ∧ ∃ r', H = [r'] ∧ SvR t m (E.set n none) base total r' := by
  obtain ⟨L, rfl, hm1, hm2, bR, bX, eV, rR, rX, l, M, T, rfl, hR, hX, hI⟩ := hr
  have hEl := hI.len
  have hnl : n < E.length := (List.getElem?_eq_some_iff.1 hn).1
  have hO := hR.inv
  have hlk := look_of_mem hO.nd ((hI.ord n (o + s)).2 ⟨k, o, s, hn, rfl⟩)
  have hrem : orem l (n : Int) = (o + s, 0, rem l n) := by simp only [orem, hlk]
  have hk := (hI.sm n k o s hn).1
  refine enter (n := 36) Try.func30 rfl rfl [(0, _), (1, _)] rfl ⟨rfl, rfl, trivial⟩ hs ?_
  refine w_seq ?_
  refine w_reg ?_
  refine wl_e (e_allocs [.string ByteArray.empty, .int .u64 0, .int .u64 0] (by kernel_rfl)) ?_
  rintro _ _ w0_0 ⟨b0_0, rfl, rfl⟩
  refine wl_end [(0, _), (1, _), (4, _)] ⟨rfl, rfl, rfl, trivial⟩ ?_
  refine w_seq ?_
  refine w_pick [1, 0] rfl ?_
  refine w_unb (svl t m bR bX eV E base total rR rX) ?_
  refine w_with fun hh => ?_
  obtain ⟨g, cc, e2⟩ := row_form hh (i := 1) rfl (by omega)
  subst e2
  clear hh
  refine w_reg ?_
  refine wl_f (f_move rfl) ?_
  refine wl_f (f_nilCheck rfl) ?_
  refine wl_f (f_fieldAddr 3 rfl Try.underlying68 rfl rfl (by kernel_rfl)) ?_
  (first | refine wl_f (f_loadb 0 rfl Try.underlying43 rfl rfl rfl) ?_ | refine wl_f (f_loadb 1 rfl Try.underlying43 rfl rfl rfl) ?_ | refine wl_f (f_loadb 2 rfl Try.underlying43 rfl rfl rfl) ?_ | refine wl_f (f_loadb 3 rfl Try.underlying43 rfl rfl rfl) ?_ | refine wl_f (f_loadb 4 rfl Try.underlying43 rfl rfl rfl) ?_ | refine wl_f (f_loadb 5 rfl Try.underlying43 rfl rfl rfl) ?_ | refine wl_f (f_loadb 6 rfl Try.underlying43 rfl rfl rfl) ?_)
  refine wl_f (f_move rfl) ?_
  refine wl_f (f_indexAddr 3 (i := n) rfl rfl Try.underlying43 (by kernel_rfl) rfl (by omega)) ?_
  refine wl_f (f_loadsr (cs := ecell (some (k, o, s))) 1 rfl Try.underlying34 rfl (by kernel_rfl) rfl (ecells_get hn)) ?_
  refine wl_e (e_allocs [.string ByteArray.empty, .int .u64 0, .int .u64 0] (by kernel_rfl)) ?_
  rintro _ _ w1_7 ⟨b1_7, rfl, rfl⟩
  (first | refine wl_e0 (e_store0 (us := [_, _, _]) rfl rfl rfl (by kernel_rfl) (by simp [Value.oneCell']) rfl rfl) ?_ | refine wl_e0 (e_store1 (us := [_, _, _]) rfl rfl rfl (by kernel_rfl) (by simp [Value.oneCell']) rfl rfl) ?_ | refine wl_e0 (e_store2 (us := [_, _, _]) rfl rfl rfl (by kernel_rfl) (by simp [Value.oneCell']) rfl rfl) ?_ | refine wl_e0 (e_store3 (us := [_, _, _]) rfl rfl rfl (by kernel_rfl) (by simp [Value.oneCell']) rfl rfl) ?_)
  rintro _ _ w1_8 rfl
  refine wl_end [(0, _), (1, _), (4, _), (5, _)] ⟨rfl, rfl, rfl, rfl, trivial⟩ ?_
  refine w_seq ?_
  refine w_reg ?_
  refine wl_f (f_move rfl) ?_
  refine wl_f (f_nilCheck rfl) ?_
  refine wl_f (f_fieldAddr 3 rfl Try.underlying68 rfl rfl (by kernel_rfl)) ?_
  (first | refine wl_f (f_loadb 0 rfl Try.underlying43 rfl rfl rfl) ?_ | refine wl_f (f_loadb 1 rfl Try.underlying43 rfl rfl rfl) ?_ | refine wl_f (f_loadb 2 rfl Try.underlying43 rfl rfl rfl) ?_ | refine wl_f (f_loadb 3 rfl Try.underlying43 rfl rfl rfl) ?_ | refine wl_f (f_loadb 4 rfl Try.underlying43 rfl rfl rfl) ?_ | refine wl_f (f_loadb 5 rfl Try.underlying43 rfl rfl rfl) ?_ | refine wl_f (f_loadb 6 rfl Try.underlying43 rfl rfl rfl) ?_)
  refine wl_f (f_move rfl) ?_
  refine wl_f (f_build rfl build_entry0) ?_
  refine wl_f (f_indexAddr 3 (i := n) rfl rfl Try.underlying43 (by kernel_rfl) rfl (by omega)) ?_
  refine wl_e0 (e_storerN 2 (us := ecell none) (xs' := ecells (E.set n none)) rfl rfl rfl rfl (by kernel_rfl) (by simp [ecell, Value.oneCell']) (by rw [ecells_len]; show 0 + n * 3 + 3 ≤ _; omega) (ecells_set _ hnl)) ?_
  rintro _ _ w2_7 rfl
  refine wl_end [(0, _), (1, _), (4, _), (5, _)] ⟨rfl, rfl, rfl, rfl, trivial⟩ ?_
  refine w_seq ?_
  refine w_reg ?_
  refine wl_f (f_move rfl) ?_
  refine wl_f (f_nilCheck rfl) ?_
  refine wl_f (f_fieldAddr 0 rfl Try.underlying68 rfl rfl (by kernel_rfl)) ?_
  refine wl_f (f_fieldAddr 0 rfl Try.underlying64 rfl rfl (by kernel_rfl)) ?_
  (first | refine wl_f (f_loadb 0 rfl Try.underlying56 rfl rfl rfl) ?_ | refine wl_f (f_loadb 1 rfl Try.underlying56 rfl rfl rfl) ?_ | refine wl_f (f_loadb 2 rfl Try.underlying56 rfl rfl rfl) ?_ | refine wl_f (f_loadb 3 rfl Try.underlying56 rfl rfl rfl) ?_ | refine wl_f (f_loadb 4 rfl Try.underlying56 rfl rfl rfl) ?_ | refine wl_f (f_loadb 5 rfl Try.underlying56 rfl rfl rfl) ?_ | refine wl_f (f_loadb 6 rfl Try.underlying56 rfl rfl rfl) ?_)
  refine wl_f (f_move rfl) ?_
  refine wl_e (e_call1 rR [_, _, _, _, _] rfl Try.func48 (by kernel_rfl) (pk1 3 rfl) (fun w hh hs' => rkremove_spec bR m l rR n w hR hs')) ?_
  rw [hrem]
  rintro _ _ w3 ⟨_, rfl, rfl, rR2, rfl, hR2⟩
  refine wl_end [(0, _), (4, _), (5, _)] ⟨rfl, rfl, rfl, trivial⟩ ?_
  refine w_seq ?_
  refine w_pick [0, 0, 0, 0, 1, 0] rfl ?_
  refine w_draw [(0, true), (1, true), (2, true), (3, true), (4, true), (5, true), (6, true), (7, false)] ([_, _, _, _, _]) ([_]) mixed (by kernel_rfl) (by kernel_rfl) rfl (List.Perm.refl _) (fun w4_ => ?_)
  refine wd_f rfl (f_move rfl) ?_
  refine wd_f rfl (f_nilCheck rfl) ?_
  refine wd_f rfl (f_fieldAddr 1 rfl Try.underlying68 rfl rfl (by kernel_rfl)) ?_
  refine wd_f rfl (f_fieldAddr 0 rfl Try.underlying66 rfl rfl (by kernel_rfl)) ?_
  (first | refine wd_f rfl (f_loadb 0 rfl Try.underlying59 rfl rfl rfl) ?_ | refine wd_f rfl (f_loadb 1 rfl Try.underlying59 rfl rfl rfl) ?_ | refine wd_f rfl (f_loadb 2 rfl Try.underlying59 rfl rfl rfl) ?_ | refine wd_f rfl (f_loadb 3 rfl Try.underlying59 rfl rfl rfl) ?_ | refine wd_f rfl (f_loadb 4 rfl Try.underlying59 rfl rfl rfl) ?_ | refine wd_f rfl (f_loadb 5 rfl Try.underlying59 rfl rfl rfl) ?_ | refine wd_f rfl (f_loadb 6 rfl Try.underlying59 rfl rfl rfl) ?_)
  refine wd_f rfl (f_fieldAddr 0 rfl Try.underlying34 rfl rfl (by kernel_rfl)) ?_
  (first | refine wd_f rfl (f_loadb 0 rfl Try.underlying9 rfl rfl rfl) ?_ | refine wd_f rfl (f_loadb 1 rfl Try.underlying9 rfl rfl rfl) ?_ | refine wd_f rfl (f_loadb 2 rfl Try.underlying9 rfl rfl rfl) ?_ | refine wd_f rfl (f_loadb 3 rfl Try.underlying9 rfl rfl rfl) ?_ | refine wd_f rfl (f_loadb 4 rfl Try.underlying9 rfl rfl rfl) ?_ | refine wd_f rfl (f_loadb 5 rfl Try.underlying9 rfl rfl rfl) ?_ | refine wd_f rfl (f_loadb 6 rfl Try.underlying9 rfl rfl rfl) ?_)
  refine wd_e rfl (e_call1 rX [_, _, _, _, _] rfl Try.func49 (by kernel_rfl) (pk1 5 rfl) (fun w hh hs' => ixdelete_spec bX m T 0 M rX k w hk hX hs')) ?_
  rintro _ _ w4 ⟨_, rfl, rfl, rX2, rfl, hX2⟩
  refine ⟨_, List.perm_append_comm, ?_⟩
  refine wd_end [(4, _), (5, _)] ⟨rfl, rfl, trivial⟩ ?_
  refine w_seq ?_
  refine w_reg ?_
  (first | refine wl_f (f_loadsb (cs := [_, _, _]) 0 rfl Try.underlying34 rfl (by kernel_rfl) rfl rfl) ?_ | refine wl_f (f_loadsb (cs := [_, _, _]) 1 rfl Try.underlying34 rfl (by kernel_rfl) rfl rfl) ?_ | refine wl_f (f_loadsb (cs := [_, _, _]) 2 rfl Try.underlying34 rfl (by kernel_rfl) rfl rfl) ?_ | refine wl_f (f_loadsb (cs := [_, _, _]) 3 rfl Try.underlying34 rfl (by kernel_rfl) rfl rfl) ?_ | refine wl_f (f_loadsb (cs := [_, _, _]) 4 rfl Try.underlying34 rfl (by kernel_rfl) rfl rfl) ?_ | refine wl_f (f_loadsb (cs := [_, _, _]) 5 rfl Try.underlying34 rfl (by kernel_rfl) rfl rfl) ?_ | refine wl_f (f_loadsb (cs := [_, _, _]) 6 rfl Try.underlying34 rfl (by kernel_rfl) rfl rfl) ?_)
  refine wl_e0 (e_storeN 4 (us := [_, _, _]) rfl rfl rfl rfl (by kernel_rfl) (by simp [Value.oneCell']) rfl rfl) ?_
  rintro _ _ w5_1 rfl
  refine wl_end [(4, _)] ⟨rfl, trivial⟩ ?_
  refine w_pick [2, 2, 0, 2, 1] rfl ?_
  refine w_bun (H := [_]) [_, _, _, _] ?_
  refine w_pick [1, 0] rfl ?_
  refine w_ret ?_
  refine ⟨_, _, fun a ha hh => results_cell 0 Try.results30 rfl a ha hh Try.underlying34 rfl (by kernel_rfl) rfl, List.sublist_cons_self .., ?_⟩
  exact ⟨rfl, _, rfl, _, rfl, hm1, hm2, bR, bX, _, rR2, rX2, _, _, T, rfl, hR2, hX2, hI.drop hO.nd hX.nd hn⟩

def ek (o : Option En) : ByteArray := match o with
  | none => ByteArray.empty
  | some x => x.1
def eo (o : Option En) : Nat := match o with
  | none => 0
  | some x => x.2.1
def es (o : Option En) : Nat := match o with
  | none => 0
  | some x => x.2.2
theorem ecell_eq (o : Option En) : ecell o = [.string (ek o), .int .u64 (eo o : Int), .int .u64 (es o : Int)] := by cases o <;> rfl
/-- What finding a free number leaves. -/
def FreeG (m : Nat) (E : List (Option En)) (base : Nat) (n : Nat) (E' : List (Option En)) (base' : Nat) : Prop :=
  n < m ∧ E'[n]? = some none ∧ ((E' = E ∧ base' = base ∧ ∀ j < n, ∃ x, E[j]? = some (some x)) ∨
    ((∀ i < m, ∃ x, E[i]? = some (some x)) ∧ ∃ (k : ByteArray) (o s : Nat), E[n]? = some (some (k, o, s)) ∧ E' = E.set n none ∧ base' = o + s ∧ ∀ (i : Nat) (k' : ByteArray) (o' s' : Nat), E[i]? = some (some (k', o', s')) → o + s ≤ o' + s'))

set_option maxHeartbeats 2000000 in
theorem svfree_spec (t m : Nat) (E : List (Option En)) (base total : Nat) (r : Res) (w : World) (hr : SvR t m E base total r) (hs : Holds w r.foot [r] w) :
    Spec Try.prog 26 [.pointer (some ⟨t, 0, .none⟩)] w r.foot fun v H => ∃ (n : Nat) (E' : List (Option En)) (base' : Nat) (r' : Res), v = .int .i64 (n : Int) ∧ H = [r'] ∧ SvR t m E' base' total r' ∧ FreeG m E base n E' base' := by
  have hr0 := hr
  obtain ⟨L, rfl, hm1, hm2, bR, bX, eV, rR, rX, l, M, T, rfl, hR, hX, hI⟩ := hr
  have hEl := hI.len
  have hO := hR.inv
  refine enter (n := 41) Try.func26 rfl rfl [(0, _)] rfl ⟨rfl, trivial⟩ hs ?_
  refine w_with fun hh => ?_
  obtain ⟨g, cc, e2⟩ := rowB_form hh (i := 0) (j := 1) rfl rfl (by omega)
  subst e2
  clear hh
  refine w_seq ?_
  refine w_reg ?_
  refine wl_f (f_assign rfl) ?_
  refine wl_end [(0, _)] ⟨rfl, trivial⟩ ?_
  refine w_seq ?_
  refine w_seq ?_
  refine w_reg ?_
  refine wl_f (f_move rfl) ?_
  refine wl_f (f_nilCheck rfl) ?_
  refine wl_f (f_fieldAddr 3 rfl Try.underlying68 rfl rfl (by kernel_rfl)) ?_
  refine wl_f (f_loadB 0 0 rfl rfl rfl Try.underlying43 rfl rfl) ?_
  refine wl_f (f_len rfl Try.underlying43) ?_
  refine wl_f (f_move rfl) ?_
  refine wl_end [(0, _), (11, _), (12, _), (13, _)] ⟨rfl, rfl, rfl, rfl, trivial⟩ ?_
  refine w_block ?_
  refine w_loop (fun kk m' H w => ∃ i : Nat, m' = [(0, .pointer (some ⟨t, 0, .none⟩)), (11, .slice (some ⟨g, 0, .none⟩) m cc), (12, .int .i64 m), (13, .int .i64 i)] ∧ H = [bun (svl t m bR bX (.slice (some ⟨g, 0, .none⟩) m cc) E base total rR rX)] ∧ kk + i = m ∧
    ∀ j < i, ∃ x, E[j]? = some (some x)) m ⟨0, rfl, rfl, rfl, by simp⟩ ?_
  rintro kk _ _ w1 ⟨i, rfl, rfl, hkk, hall⟩
  refine w_seq ?_
  refine w_reg ?_
  refine wl_f (f_lss rfl rfl) ?_
  refine wl_end [(0, _), (11, _), (12, _), (13, _), (14, _)] ⟨rfl, rfl, rfl, rfl, rfl, trivial⟩ ?_
  refine w_seq ?_
  refine w_ifd rfl (fun hc1 => ?_) (fun hc1 => ?_)
  · skip
    have hi : i < m := by
      have : (i : Int) < (m : Int) := hc1
      omega
    obtain ⟨x, hx⟩ : ∃ x, E[i]? = some x := ⟨_, List.getElem?_eq_getElem (by omega)⟩
    refine w_skip ?_
    refine w_seq ?_
    refine w_block ?_
    refine w_seq ?_
    refine w_reg ?_
    refine wl_f (f_move rfl) ?_
    refine wl_f (f_indexAddr 3 (i := i) rfl rfl Try.underlying43 (by kernel_rfl) rfl hi) ?_
    refine wl_f (f_loadsBr (cs := [.string (ek x), .int .u64 (eo x : Int), .int .u64 (es x : Int)]) 0 1 rfl rfl rfl Try.underlying34 rfl (by kernel_rfl) (by have := ecells_get hx; rw [ecell_eq] at this; exact this)) ?_
    refine wl_e (e_allocs [.string ByteArray.empty, .int .u64 0, .int .u64 0] (by kernel_rfl)) ?_
    rintro _ _ w3_3 ⟨b3_3, rfl, rfl⟩
    refine wl_f (f_assign rfl) ?_
    (first | refine wl_e0 (e_store0 (us := [_, _, _]) rfl rfl rfl (by kernel_rfl) (by simp [Value.oneCell']) rfl rfl) ?_ | refine wl_e0 (e_store1 (us := [_, _, _]) rfl rfl rfl (by kernel_rfl) (by simp [Value.oneCell']) rfl rfl) ?_ | refine wl_e0 (e_store2 (us := [_, _, _]) rfl rfl rfl (by kernel_rfl) (by simp [Value.oneCell']) rfl rfl) ?_ | refine wl_e0 (e_store3 (us := [_, _, _]) rfl rfl rfl (by kernel_rfl) (by simp [Value.oneCell']) rfl rfl) ?_)
    rintro _ _ w3_5 rfl
    refine wl_end [(0, _), (3, _), (4, _), (11, _), (12, _), (13, _)] ⟨rfl, rfl, rfl, rfl, rfl, rfl, trivial⟩ ?_
    refine w_seq ?_
    refine w_reg ?_
    refine wl_f (f_fieldAddr 0 rfl Try.underlying34 rfl rfl (by kernel_rfl)) ?_
    (first | refine wl_f (f_loadb 0 rfl Try.underlying9 rfl rfl rfl) ?_ | refine wl_f (f_loadb 1 rfl Try.underlying9 rfl rfl rfl) ?_ | refine wl_f (f_loadb 2 rfl Try.underlying9 rfl rfl rfl) ?_ | refine wl_f (f_loadb 3 rfl Try.underlying9 rfl rfl rfl) ?_ | refine wl_f (f_loadb 4 rfl Try.underlying9 rfl rfl rfl) ?_ | refine wl_f (f_loadb 5 rfl Try.underlying9 rfl rfl rfl) ?_ | refine wl_f (f_loadb 6 rfl Try.underlying9 rfl rfl rfl) ?_)
    refine wl_f (f_eqls rfl rfl) ?_
    refine wl_end [(0, _), (3, _), (11, _), (12, _), (13, _), (20, _)] ⟨rfl, rfl, rfl, rfl, rfl, rfl, trivial⟩ ?_
    refine w_ifd rfl (fun hc2 => ?_) (fun hc2 => ?_)
    · skip
      have hxn : x = none := by
        cases x with
        | none => rfl
        | some y => exact absurd hc2 (hI.sm i y.1 y.2.1 y.2.2 hx).2
      subst hxn
      refine w_seq ?_
      refine w_reg ?_
      refine wl_f (f_move rfl) ?_
      refine wl_f (f_assign rfl) ?_
      refine wl_end [(2, _)] ⟨rfl, trivial⟩ ?_
      refine w_pick [1] rfl ?_
      refine w_ret ?_
      refine ⟨_, _, fun a ha hh => results_tmps Try.results26 rfl a ha _, List.Sublist.refl _, ?_⟩
      exact ⟨i, E, base, _, rfl, rfl, hr0, hi, hx, .inl ⟨rfl, rfl, hall⟩⟩
    · skip
      obtain ⟨y, rfl⟩ : ∃ y, x = some y := by
        cases x with
        | none => exact absurd rfl hc2
        | some y => exact ⟨y, rfl⟩
      refine w_rm0 ?_
      refine w_skip ?_
      refine w_reg ?_
      refine wl_f (f_add rfl rfl (by omega)) ?_
      refine wl_f (f_move rfl) ?_
      refine wl_end [(0, _), (11, _), (12, _), (13, _)] ⟨rfl, rfl, rfl, rfl, trivial⟩ ?_
      refine ⟨kk - 1, by omega, i + 1, rfl, rfl, by omega, fun j hj => ?_⟩
      rcases Nat.lt_or_eq_of_le (Nat.le_of_lt_succ hj) with h | rfl
      · exact hall j h
      · exact ⟨y, hx⟩
  · skip
    obtain rfl : i = m := by
      have : ¬ (i : Int) < (m : Int) := hc1
      omega
    obtain ⟨⟨k0, o0, s0⟩, hx0⟩ := hall 0 (by omega)
    have hl0 := (hI.ord 0 (o0 + s0)).2 ⟨k0, o0, s0, hx0, rfl⟩
    obtain ⟨⟨z, c⟩, l', rfl⟩ : ∃ p l', l = p :: l' := by
      cases l with
      | nil => cases hl0
      | cons p l' => exact ⟨p, l', rfl⟩
    have hz := hO.rng z (by simp [ids])
    obtain ⟨n, rfl⟩ : ∃ n : Nat, z = n := ⟨z.toNat, by omega⟩
    obtain ⟨k, o, s, hn, rfl⟩ := (hI.ord n c).1 (List.mem_cons_self ..)
    have hnl : n < E.length := (List.getElem?_eq_some_iff.1 hn).1
    have hleast : ∀ (j : Nat) (k' : ByteArray) (o' s' : Nat), E[j]? = some (some (k', o', s')) → o + s ≤ o' + s' := fun j k' o' s' hj => by
      have := (hI.ord j (o' + s')).2 ⟨k', o', s', hj, rfl⟩
      rcases List.mem_cons.1 this with e | hm
      · injection e with _ e; omega
      · have ha := hO.asc
        rw [List.map_cons, List.pairwise_cons] at ha
        exact ha.1 _ (List.mem_map_of_mem hm)
    refine w_exit0 ?_
    refine w_seq ?_
    refine w_unb (svl t i bR bX _ E base total rR rX) ?_
    refine w_reg ?_
    refine wl_f (f_move rfl) ?_
    refine wl_f (f_nilCheck rfl) ?_
    refine wl_f (f_fieldAddr 0 rfl Try.underlying68 rfl rfl (by kernel_rfl)) ?_
    refine wl_f (f_fieldAddr 0 rfl Try.underlying64 rfl rfl (by kernel_rfl)) ?_
    (first | refine wl_f (f_loadb 0 rfl Try.underlying56 rfl rfl rfl) ?_ | refine wl_f (f_loadb 1 rfl Try.underlying56 rfl rfl rfl) ?_ | refine wl_f (f_loadb 2 rfl Try.underlying56 rfl rfl rfl) ?_ | refine wl_f (f_loadb 3 rfl Try.underlying56 rfl rfl rfl) ?_ | refine wl_f (f_loadb 4 rfl Try.underlying56 rfl rfl rfl) ?_ | refine wl_f (f_loadb 5 rfl Try.underlying56 rfl rfl rfl) ?_ | refine wl_f (f_loadb 6 rfl Try.underlying56 rfl rfl rfl) ?_)
    refine wl_e (e_call1 rR [_, _, _] rfl Try.func43 (by kernel_rfl) (pk1 2 rfl) (fun w hh hs' => rkleast_spec bR i _ rR w hR hs')) ?_
    rintro _ _ w7 ⟨_, rfl, rfl, rfl⟩
    refine wl_pick [1, 1, 0, 0] rfl ?_
    refine wl_bun (H := []) [_, _, _, _] ?_
    refine wl_f (f_move rfl) ?_
    refine wl_f (f_extract rfl rfl) ?_
    refine wl_f (f_extract rfl rfl) ?_
    refine wl_f (f_extract rfl rfl) ?_
    refine wl_f (f_assign rfl) ?_
    refine wl_f (f_assign rfl) ?_
    refine wl_f (f_assign rfl) ?_
    refine wl_end [(0, _), (5, _), (6, _)] ⟨rfl, rfl, rfl, trivial⟩ ?_
    refine w_seq ?_
    refine w_reg ?_
    refine wl_f (f_move rfl) ?_
    refine wl_f (f_move rfl) ?_
    refine wl_e (e_call1 (bun (svl t i bR bX (.slice (some ⟨g, 0, .none⟩) i cc) E base total rR rX)) [] rfl Try.func30 (by kernel_rfl) (List.Perm.refl _) (fun w hh hs' => svdrop_spec t i n E base total k o s _ w hn hr0 hs')) ?_
    rintro _ _ w8 ⟨_, rfl, rfl, r2, rfl, hr2⟩
    obtain ⟨L2, rfl, _, _, bR2, bX2, eV2, rR2, rX2, l2, M2, T2, rfl, hR2, hX2, hI2⟩ := hr2
    refine wl_end [(0, _), (5, _), (6, _)] ⟨rfl, rfl, rfl, trivial⟩ ?_
    refine w_seq ?_
    refine w_unb (H := []) (svl t i bR2 bX2 eV2 _ base total rR2 rX2) ?_
    refine w_reg ?_
    refine wl_f (f_move rfl) ?_
    refine wl_f (f_move rfl) ?_
    refine wl_f (f_nilCheck rfl) ?_
    refine wl_f (f_fieldAddr 4 rfl Try.underlying68 rfl rfl (by kernel_rfl)) ?_
    (first | refine wl_e0 (e_store0 (us := [_]) rfl rfl rfl (by kernel_rfl) (by simp [Value.oneCell']) rfl rfl) ?_ | refine wl_e0 (e_store1 (us := [_]) rfl rfl rfl (by kernel_rfl) (by simp [Value.oneCell']) rfl rfl) ?_ | refine wl_e0 (e_store2 (us := [_]) rfl rfl rfl (by kernel_rfl) (by simp [Value.oneCell']) rfl rfl) ?_ | refine wl_e0 (e_store3 (us := [_]) rfl rfl rfl (by kernel_rfl) (by simp [Value.oneCell']) rfl rfl) ?_)
    rintro _ _ w9_4 rfl
    refine wl_end [(5, _)] ⟨rfl, trivial⟩ ?_
    refine w_seq ?_
    refine w_reg ?_
    refine wl_f (f_move rfl) ?_
    refine wl_f (f_assign rfl) ?_
    refine wl_end [(2, _)] ⟨rfl, trivial⟩ ?_
    refine w_bun (H := []) [_, _, _, _] ?_
    refine w_ret ?_
    refine ⟨_, _, fun a ha hh => results_tmps Try.results26 rfl a ha _, List.Sublist.refl _, ?_⟩
    exact ⟨n, E.set n none, o + s, _, rfl, rfl, ⟨_, rfl, hm1, hm2, bR2, bX2, eV2, rR2, rX2, l2, M2, T2, rfl, hR2, hX2, hI2⟩, by omega, List.getElem?_set_self hnl, .inr ⟨hall, k, o, s, hn, rfl, rfl, hleast⟩⟩
end Go.Proofs.Ytbcfdgnpdaaleaa
