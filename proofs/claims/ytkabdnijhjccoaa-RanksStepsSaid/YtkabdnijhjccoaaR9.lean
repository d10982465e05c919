/- Orders by count: all elements in order. -/
import Derived.Test.YtkabdnijhjccoaaR8
namespace Go.Proofs.Ytkabdnijhjccoaa
open Go.RowKit

theorem ids_len (l : Ord) : (ids l).length = l.length := by simp [ids]
set_option maxHeartbeats 2000000 in
theorem rkorder_spec (b n : Nat) (l : Ord) (r : Res) (w : World) (hr : RkO b n l r) (hs : Holds w r.foot [r] w) :
    Spec Try.prog 48 [.pointer (some ⟨b, 0, .none⟩)] w r.foot fun v H => H = [row v 3 1 l.length (iv (ids l)), r] := by
  obtain ⟨S, rfl, hr⟩ := hr
  obtain ⟨hn1, hn2, B, pV, pl, rB, rs, rfl, hrB, hrs, hI⟩ := id hr
  have hln : (flat S).length ≤ n := by
    have := range_len hI.nid hI.rng
    simpa [ids] using this
  have hSn := hrB.len
  rw [bks_len] at hSn
  refine enter (n := 25) Try.func48 rfl rfl [(0, _)] rfl ⟨rfl, trivial⟩ hs ?_
  refine w_seq ?_
  refine w_reg ?_
  refine wl_f (f_assign rfl) ?_
  refine wl_end [(0, _)] ⟨rfl, trivial⟩ ?_
  refine w_seq ?_
  refine w_seq ?_
  refine w_reg ?_
  refine wl_f (f_move rfl) ?_
  refine wl_f (f_eqlnil rfl rfl Try.underlying59) ?_
  refine wl_end [(0, _), (7, _)] ⟨rfl, rfl, trivial⟩ ?_
  refine w_iff rfl ?_
  refine w_skip ?_
  refine w_seq ?_
  refine w_reg ?_
  refine wl_f (f_assign rfl) ?_
  refine wl_end [(0, _), (3, _)] ⟨rfl, rfl, trivial⟩ ?_
  refine w_seq ?_
  refine w_seq ?_
  refine w_unb (rkg b n _ B pV pl rB rs) ?_
  refine w_reg ?_
  refine wl_f (f_move rfl) ?_
  refine wl_f (f_nilCheck rfl) ?_
  refine wl_f (f_fieldAddr 2 rfl Try.underlying95 rfl rfl (by kernel_rfl)) ?_
  (first | refine wl_f (f_loadb 0 rfl Try.underlying88 rfl rfl rfl) ?_ | refine wl_f (f_loadb 1 rfl Try.underlying88 rfl rfl rfl) ?_ | refine wl_f (f_loadb 2 rfl Try.underlying88 rfl rfl rfl) ?_ | refine wl_f (f_loadb 3 rfl Try.underlying88 rfl rfl rfl) ?_ | refine wl_f (f_loadb 4 rfl Try.underlying88 rfl rfl rfl) ?_ | refine wl_f (f_loadb 5 rfl Try.underlying88 rfl rfl rfl) ?_ | refine wl_f (f_loadb 6 rfl Try.underlying88 rfl rfl rfl) ?_)
  refine wl_e (e_call1 rB [_, _, _] rfl Try.func72 (by kernel_rfl) (pk1 2 rfl) (fun w hh hs' => bvalues_spec B n _ rB w hn2 hrB hs')) ?_
  rintro u _ w4 ⟨_, rfl, rfl⟩
  refine wl_with fun hh => ?_
  obtain ⟨Au, cu, rfl⟩ := row_slice hh (i := 0) rfl
  clear hh
  rw [bks_len]
  refine wl_f (f_len rfl Try.underlying103) ?_
  refine wl_f (f_move rfl) ?_
  refine wl_end [(3, _), (12, _), (13, _), (14, _)] ⟨rfl, rfl, rfl, rfl, trivial⟩ ?_
  refine w_block ?_
  refine w_nilrow 3 1 ?_
  refine w_loop (fun k m H w => ∃ (v : Value) (A C : List Bk), m = [(3, v), (12, .slice Au S.length cu), (13, .int .i64 (S.length : Int)), (14, .int .i64 (A.length : Int))] ∧
    H = [row v 3 1 (flat A).length (iv (ids (flat A))), row (.slice Au S.length cu) 92 2 S.length (vcells kBuc ((bks S).map Prod.snd)), rB,
      blk b [.int .i64 (n : Int), .int .i64 ((flat S).length : Int), .pointer (some ⟨B, 0, .none⟩), pV] 95, row pV 99 3 n (pcells pl), bun rs] ∧ k = C.length ∧ S = A ++ C) S.length ⟨_, [], S, rfl, rfl, rfl, rfl⟩ ?_
  rintro k _ _ w5 ⟨v, A, C, rfl, rfl, rfl, hS⟩
  refine w_seq ?_
  refine w_reg ?_
  refine wl_f (f_lss rfl rfl) ?_
  refine wl_end [(3, _), (12, _), (13, _), (14, _), (15, _)] ⟨rfl, rfl, rfl, rfl, rfl, trivial⟩ ?_
  refine w_seq ?_
  refine w_ifd rfl (fun hc2 => ?_) (fun hc2 => ?_)
  · skip
    subst hS
    have hlt : A.length < (A ++ C).length := by
      have : (A.length : Int) < ((A ++ C).length : Int) := hc2
      omega
    obtain ⟨s, C2, rfl⟩ : ∃ s C2, C = s :: C2 := by
      cases C with
      | nil => simp at hlt
      | cons s C2 => exact ⟨s, C2, rfl⟩
    obtain ⟨ra, rb, rfl, hra, hrb⟩ := hrs.split
    obtain ⟨ri, rc, rfl, hri, hrc⟩ := hrb.cons_inv
    have hfl : (flat (A ++ s :: C2)).length = (flat A).length + s.2.2.2.length + (flat C2).length := by
      rw [flat_mid]; simp [bfl]; omega
    have hgs : ((bks (A ++ s :: C2)).map Prod.snd)[A.length]? = some (s.2.1, some s.2.2.1) := by simp [bks]
    refine w_with fun hh => ?_
    obtain ⟨g, cp, e⟩ := row_form hh (i := 1) rfl (by omega)
    cases e
    clear hh
    refine w_skip ?_
    refine w_seq ?_
    refine w_block ?_
    refine w_seq ?_
    refine w_reg ?_
    refine wl_f (f_indexAddr 2 (i := A.length) rfl rfl Try.underlying103 (by kernel_rfl) rfl hlt) ?_
    refine wl_f (f_loadsr (cs := kBuc.cells (s.2.1, some s.2.2.1)) 1 rfl Try.underlying92 rfl (by kernel_rfl) rfl (vcells_get kBuc kBuc_len hgs)) ?_
    refine wl_e (e_allocs [.int .u64 0, .pointer .none] (by kernel_rfl)) ?_
    rintro _ _ w6_2 ⟨b6_2, rfl, rfl⟩
    (first | refine wl_e0 (e_store0 (us := [_, _]) rfl rfl rfl (by kernel_rfl) (by simp [Value.oneCell']) rfl rfl) ?_ | refine wl_e0 (e_store1 (us := [_, _]) rfl rfl rfl (by kernel_rfl) (by simp [Value.oneCell']) rfl rfl) ?_ | refine wl_e0 (e_store2 (us := [_, _]) rfl rfl rfl (by kernel_rfl) (by simp [Value.oneCell']) rfl rfl) ?_ | refine wl_e0 (e_store3 (us := [_, _]) rfl rfl rfl (by kernel_rfl) (by simp [Value.oneCell']) rfl rfl) ?_)
    rintro _ _ w6_3 rfl
    refine wl_end [(3, _), (5, _), (12, _), (13, _), (14, _)] ⟨rfl, rfl, rfl, rfl, rfl, trivial⟩ ?_
    refine w_pick [6, 0, 0, 0, 0, 0, 0] rfl ?_
    refine w_mid ?_
    refine w_reg ?_
    refine wl_f (f_move rfl) ?_
    refine wl_f (f_fieldAddr 1 rfl Try.underlying92 rfl rfl (by kernel_rfl)) ?_
    (first | refine wl_f (f_loadb 0 rfl Try.underlying34 rfl rfl rfl) ?_ | refine wl_f (f_loadb 1 rfl Try.underlying34 rfl rfl rfl) ?_ | refine wl_f (f_loadb 2 rfl Try.underlying34 rfl rfl rfl) ?_ | refine wl_f (f_loadb 3 rfl Try.underlying34 rfl rfl rfl) ?_ | refine wl_f (f_loadb 4 rfl Try.underlying34 rfl rfl rfl) ?_ | refine wl_f (f_loadb 5 rfl Try.underlying34 rfl rfl rfl) ?_ | refine wl_f (f_loadb 6 rfl Try.underlying34 rfl rfl rfl) ?_)
    refine wl_e (e_call1 ri [_, _, _, _, _, _, _] rfl Try.func38 (by kernel_rfl) (pk1 0 rfl) (fun w hh hs' => ivalues_spec s.2.2.1 n s.2.2.2 ri w hn2 hri hs')) ?_
    rintro u2 _ w7 ⟨_, rfl, rfl⟩
    rw [vcells_int]
    refine wl_e (e_appN 4 t33 rfl rfl rfl (fun w hh => Rd.held0 hh (i := 0) rfl) (by intro u hu; obtain ⟨z, _, rfl⟩ := List.mem_map.1 hu; rfl) (by omega) (by omega)) ?_
    rintro v2 _ w8 ⟨_, rfl⟩
    refine wl_f (f_assign rfl) ?_
    refine wl_pick [1, 1, 2, 2, 2, 2, 2] rfl ?_
    refine wl_amid ?_
    refine wl_pick [1, 1, 1, 1, 1, 0] rfl ?_
    refine wl_end [(3, _), (12, _), (13, _), (14, _)] ⟨rfl, rfl, rfl, rfl, trivial⟩ ?_
    refine w_reg ?_
    refine wl_f (f_add rfl rfl (by omega)) ?_
    refine wl_f (f_move rfl) ?_
    refine wl_end [(3, _), (12, _), (13, _), (14, _)] ⟨rfl, rfl, rfl, rfl, trivial⟩ ?_
    refine ⟨C2.length, Nat.lt_succ_self _, v2, A ++ [s], C2, ?_, ?_, rfl, (List.append_assoc A [s] C2).symm⟩
    · rw [show ((A ++ [s]).length : Int) = (A.length : Int) + 1 by simp]
    · have e1 : flat (A ++ [s]) = flat A ++ bfl s := by rw [flat_app, flat_cons]; simp [flat]
      have e2 : iv (ids (flat (A ++ [s]))) = iv (ids (flat A)) ++ iv (s.2.2.2.map Prod.snd) := by rw [e1]; simp [iv, ids, bfl]
      have e3 : (flat (A ++ [s])).length = (flat A).length + s.2.2.2.length := by rw [e1]; simp [bfl]
      rw [e2, e3]
  · skip
    obtain rfl : C = [] := by
      refine Classical.byContradiction fun h => hc2 ?_
      have := List.length_pos_iff.2 h
      show (A.length : Int) < (S.length : Int)
      rw [hS, List.length_append]
      omega
    rw [List.append_nil] at hS
    subst hS
    refine w_exit0 ?_
    refine w_seq ?_
    refine w_reg ?_
    refine wl_f (f_move rfl) ?_
    refine wl_f (f_assign rfl) ?_
    refine wl_end [(2, _)] ⟨rfl, trivial⟩ ?_
    refine w_pick [3, 3, 2, 2, 0] rfl ?_
    refine w_bun (H := [_]) [_, _, _, _] ?_
    refine w_pick [1, 0] rfl ?_
    refine w_ret ?_
    refine ⟨_, _, fun a ha hh => results_tmps Try.results48 rfl a ha _, List.Sublist.refl _, ?_⟩
    rfl
end Go.Proofs.Ytkabdnijhjccoaa
