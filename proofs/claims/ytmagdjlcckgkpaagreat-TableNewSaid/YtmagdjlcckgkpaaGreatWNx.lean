/- The law TableNew: the call returns true. -/
import Derived.Test.YtmagdjlcckgkpaaGreatMB11
import Derived.Test.YtmagdjlcckgkpaaGreatK20x
namespace Go.Proofs.YtmagdjlcckgkpaaGreat
open Go.RowKit

abbrev II := Int × Int
def pcs (l : List II) : List Value := l.flatMap fun p => [.int .i64 p.1, .int .i64 p.2]
theorem build_pair (a b : Int) (w : World) : (Instr.build 57 [(0, .int .i64 a), (1, .int .i64 b)].toArray).run Tryz.prog w = .ok (.agg [.int .i64 a, .int .i64 b].toArray) w := by kernel_rfl
theorem lit_p3 (a b c d e f : Int) (w : World) : (Instr.buildSlice 58 3 [(0, .agg [.int .i64 a, .int .i64 b].toArray), (1, .agg [.int .i64 c, .int .i64 d].toArray), (2, .agg [.int .i64 e, .int .i64 f].toArray)].toArray).run Tryz.prog w =
    .ok (.slice (some ⟨w.heap.size, 0, .none⟩) 3 3) (w.alloc (.cells (pcs [(a, b), (c, d), (e, f)]).toArray 57)) := by kernel_rfl
theorem build_entryk (k : ByteArray) (w : World) : (Instr.build 46 [(0, .string k)].toArray).run Tryz.prog w = .ok (.agg [.string k, .int .u64 0, .int .u64 0].toArray) w := by kernel_rfl
theorem pcs_get {l : List II} {i : Nat} {p : II} (h : l[i]? = some p) (hl : l.length = 3) : ((pcs l).drop (0 + i * 2)).take 2 = [.int .i64 p.1, .int .i64 p.2] := by
  match l, hl with
  | [a, b, c], _ =>
    match i, h with
    | 0, h => simp at h; subst h; rfl
    | 1, h => simp at h; subst h; rfl
    | 2, h => simp at h; subst h; rfl
    | i + 3, h => simp at h
theorem rlimit_spec (mode n : Int) (total : Nat) (w : World) (ht : total < 18446744073709551616) : Spec Tryz.prog 23 [.int .i64 mode, .int .i64 n, .int .u64 (total : Int)] w Nil fun r H => r = .int .u64 (tabL mode n total : Nat) ∧ H = [] := by
  refine enter (n := 31) Tryz.func23 rfl rfl [(0, _), (1, _), (2, _)] rfl ⟨rfl, rfl, rfl, trivial⟩ (Holds.start _ _) ?_
  refine w_seq (w_reg (wl_f (f_assign rfl) (wl_end [(0, _), (1, _), (2, _)] ⟨rfl, rfl, rfl, trivial⟩ ?_)))
  refine w_seq (w_block ?_)
  refine w_seq (w_reg (wl_f (f_move rfl) (wl_f (f_lss rfl rfl) ?_)))
  refine wl_f (f_move rfl) ?_
  refine wl_or (j := 2) (c := decide (64 < n)) 2 [(0, _), (1, _), (2, _)] ⟨rfl, rfl, rfl, trivial⟩ rfl rfl rfl rfl rfl (fun hg1_5 => ?_) (fun w1_5 => ?_)
  · skip
    refine wl_gf rfl rfl (f_move rfl) ?_
    refine wl_gf rfl rfl (f_gtr rfl rfl) ?_
    exact wl_pend rfl rfl ⟨rfl, rfl, rfl, trivial⟩ (List.Sublist.refl _)
  refine wl_f (f_assign rfl) (wl_end [(0, _), (1, _), (2, _), (7, _)] ⟨rfl, rfl, rfl, rfl, trivial⟩ ?_)
  refine w_ifb rfl (fun hc1 => ?_) (fun hc1 => ?_)
  · skip
    have h : n < 1 ∨ 64 < n := by simpa [Bool.or_eq_true] using hc1
    refine w_seq (w_reg (wl_f (f_move rfl) (wl_f (f_assign rfl) (wl_end [(6, _)] ⟨rfl, trivial⟩ ?_))))
    refine w_ret ?_
    refine ⟨_, _, fun a ha hh => results_tmps Tryz.results23 rfl a ha _, List.Sublist.refl _, ?_⟩
    have e : tabL mode n total = total := if_pos h
    rw [e]; exact ⟨rfl, rfl⟩
  · skip
    have h : ¬ (n < 1 ∨ 64 < n) := by simpa [Bool.or_eq_true] using hc1
    obtain ⟨k, rfl⟩ : ∃ k : Nat, n = k := ⟨n.toNat, by omega⟩
    refine w_seq (w_reg (wl_f (f_move rfl) (wl_f (f_eql rfl rfl) ?_)))
    refine wl_f (f_assign rfl) (wl_end [(0, _), (1, _), (2, _), (15, _)] ⟨rfl, rfl, rfl, rfl, trivial⟩ ?_)
    refine w_ifd rfl (fun hc2 => ?_) (fun hc2 => ?_)
    · skip
      refine w_seq (w_reg (wl_f (f_move rfl) (wl_f (f_move rfl) (wl_f (f_convu rfl Tryz.underlying3 Tryz.underlying33 (by omega)) ?_))))
      refine wl_f (f_quou rfl rfl (by omega)) ?_
      refine wl_f (f_assign rfl) (wl_end [(6, _)] ⟨rfl, trivial⟩ ?_)
      refine w_ret ?_
      refine ⟨_, _, fun a ha hh => results_tmps Tryz.results23 rfl a ha _, List.Sublist.refl _, ?_⟩
      have e : tabL mode k total = total / k := (if_neg h).trans (if_pos hc2)
      rw [e, Int.natCast_ediv]; exact ⟨rfl, rfl⟩
    · skip
      refine w_seq (w_reg (wl_f (f_move rfl) (wl_f (f_eql rfl rfl) ?_)))
      refine wl_f (f_assign rfl) (wl_end [(1, _), (2, _), (22, _)] ⟨rfl, rfl, rfl, trivial⟩ ?_)
      refine w_ifd rfl (fun hc3 => ?_) (fun hc3 => ?_)
      · skip
        refine w_seq (w_reg (wl_f (f_move rfl) (wl_f (f_move rfl) (wl_f (f_eqv (v' := .int .i64 ((k + 1 : Nat) : Int)) (f_add rfl rfl (by omega)) (by congr 1)) ?_))))
        refine wl_f (f_convu rfl Tryz.underlying3 Tryz.underlying33 (by omega)) ?_
        refine wl_f (f_quou rfl rfl (by omega)) ?_
        refine wl_f (f_assign rfl) (wl_end [(6, _)] ⟨rfl, trivial⟩ ?_)
        refine w_ret ?_
        refine ⟨_, _, fun a ha hh => results_tmps Tryz.results23 rfl a ha _, List.Sublist.refl _, ?_⟩
        have e : tabL mode k total = total / (k + 1) := (if_neg h).trans ((if_neg hc2).trans (if_pos hc3))
        rw [e, Int.natCast_ediv]; exact ⟨rfl, rfl⟩
      · skip
        refine w_skip ?_
        refine w_seq (w_reg (wl_f (f_move rfl) (wl_f (f_assign rfl) (wl_end [(6, _)] ⟨rfl, trivial⟩ ?_))))
        refine w_ret ?_
        refine ⟨_, _, fun a ha hh => results_tmps Tryz.results23 rfl a ha _, List.Sublist.refl _, ?_⟩
        have e : tabL mode k total = total := (if_neg h).trans ((if_neg hc2).trans (if_neg hc3))
        rw [e]; exact ⟨rfl, rfl⟩
set_option maxHeartbeats 4000000 in
theorem tableNew_spec (mode n : Int) (total : Nat) (w : World) (ht : total < 18446744073709551616) : Spec Tryz.prog 6 [.int .i64 mode, .int .i64 n, .int .u64 (total : Int)] w Nil fun r _ => r = .bool true := by
  refine enter (n := 151) Tryz.func6 rfl rfl [(0, _), (1, _), (2, _)] rfl ⟨rfl, rfl, rfl, trivial⟩ (Holds.start _ _) ?_
  refine w_seq (w_reg (wl_f (f_assign rfl) (wl_end [(0, _), (1, _), (2, _)] ⟨rfl, rfl, rfl, trivial⟩ ?_)))
  refine w_seq (w_seq (w_reg (wl_f (f_move rfl) (wl_f (f_move rfl) (wl_f (f_build rfl (fun w => build_pair _ _ w)) ?_)))))
  refine wl_f (f_move rfl) (wl_f (f_and rfl rfl rfl) ?_)
  refine wl_f (f_move rfl) (wl_f (f_and rfl rfl rfl) ?_)
  refine wl_f (f_build rfl (fun w => build_pair _ _ w)) ?_
  refine wl_f (f_move rfl) (wl_f (f_and rfl rfl rfl) ?_)
  refine wl_f (f_move rfl) (wl_f (f_build rfl (fun w => build_pair _ _ w)) ?_)
  refine wl_e (e_litrow (e := 57) (sz := 2) (us := [(0, .agg [.int .i64 mode, .int .i64 n].toArray), (1, .agg [.int .i64 (bits .and .i64 mode 3), .int .i64 (bits .and .i64 n 127)].toArray), (2, .agg [.int .i64 (bits .and .i64 mode 3), .int .i64 n].toArray)]) (cs := pcs [(mode, n), (bits .and .i64 mode 3, bits .and .i64 n 127), (bits .and .i64 mode 3, n)]) rfl (by intro w; exact lit_p3 _ _ _ _ _ _ w) rfl (by decide)) ?_
  rintro _ _ w1_12 ⟨b1_12, rfl, rfl⟩
  refine wl_f (f_len rfl Tryz.underlying58) ?_
  refine wl_f (f_move rfl) (wl_end [(2, _), (34, _), (35, _), (36, _)] ⟨rfl, rfl, rfl, rfl, trivial⟩ ?_)
  refine w_block ?_
  generalize hks : ([(mode, n), (bits .and .i64 mode 3, bits .and .i64 n 127), (bits .and .i64 mode 3, n)] : List II) = ks
  have hkl : ks.length = 3 := by rw [← hks]; rfl
  refine w_loop (fun k m H w' => ∃ i : Nat, m = [(2, .int .u64 (total : Int)), (34, .slice (some ⟨b1_12, 0, .none⟩) 3 3), (35, .int .i64 3), (36, .int .i64 i)] ∧ H = [row (.slice (some ⟨b1_12, 0, .none⟩) 3 3) 57 2 3 (pcs ks)] ∧ k + i = 3) 3 ⟨0, rfl, rfl, rfl⟩ ?_
  rintro k _ _ w1 ⟨i, rfl, rfl, hk⟩
  refine w_seq (w_reg (wl_f (f_lss rfl rfl) ?_))
  refine wl_end [(2, _), (34, _), (35, _), (36, _), (37, _)] ⟨rfl, rfl, rfl, rfl, rfl, trivial⟩ ?_
  refine w_seq ?_
  refine w_ifd rfl (fun hc1 => ?_) (fun hc1 => ?_)
  · skip
    obtain ⟨x, hx⟩ : ∃ x, ks[i]? = some x := ⟨ks[i]'(by omega), List.getElem?_eq_getElem (by omega)⟩
    obtain ⟨a, c⟩ := x
    refine w_skip ?_
    refine w_seq (w_block ?_)
    refine w_seq (w_reg (wl_f (f_indexAddr 2 (i := i) rfl rfl Tryz.underlying58 (by kernel_rfl) rfl (by omega)) ?_))
    refine wl_f (f_loadsr (cs := [.int .i64 a, .int .i64 c]) 0 rfl Tryz.underlying57 rfl (by kernel_rfl) rfl (pcs_get hx hkl)) ?_
    refine wl_e (e_allocs [.int .i64 0, .int .i64 0] (by kernel_rfl)) ?_
    rintro _ _ w3_2 ⟨b3_2, rfl, rfl⟩
    refine wl_e0 (e_store0 (us := [_, _]) rfl rfl rfl (by kernel_rfl) (by simp [Value.oneCell']) rfl rfl) ?_
    rintro _ _ w3_3 rfl
    refine wl_end [(2, _), (8, _), (34, _), (35, _), (36, _)] ⟨rfl, rfl, rfl, rfl, rfl, trivial⟩ ?_
    refine w_seq (w_reg (wl_f (f_indexArr 1 (i := 0) rfl rfl Tryz.underlying57 (by kernel_rfl) rfl (by decide)) ?_))
    refine wl_f (f_loadb 0 rfl Tryz.underlying3 rfl rfl rfl) ?_
    refine wl_f (f_indexArr 1 (i := 1) rfl rfl Tryz.underlying57 (by kernel_rfl) rfl (by decide)) ?_
    refine wl_f (f_loadb 0 rfl Tryz.underlying3 rfl rfl rfl) ?_
    refine wl_e (e_call0 rfl Tryz.func8 (by kernel_rfl) (fun w hh => tnew_form a c w)) ?_
    rintro _ _ w2 ⟨H1, rfl, p, rfl, hp⟩
    refine wl_drop _ (List.sublist_append_right _ _) ?_
    refine wl_f (f_move rfl) (wl_f (f_extract rfl rfl) ?_)
    refine wl_f (f_extract rfl rfl) ?_
    refine wl_f (f_assign rfl) (wl_f (f_assign rfl) (wl_end [(2, _), (8, _), (9, _), (10, _), (34, _), (35, _), (36, _)] ⟨rfl, rfl, rfl, rfl, rfl, rfl, rfl, trivial⟩ ?_))
    refine w_seq (w_reg (wl_f (f_indexArr 1 (i := 0) rfl rfl Tryz.underlying57 (by kernel_rfl) rfl (by decide)) ?_))
    refine wl_f (f_loadb 0 rfl Tryz.underlying3 rfl rfl rfl) ?_
    refine wl_f (f_indexArr 1 (i := 1) rfl rfl Tryz.underlying57 (by kernel_rfl) rfl (by decide)) ?_
    refine wl_f (f_loadb 0 rfl Tryz.underlying3 rfl rfl rfl) ?_
    refine wl_e (e_call0 rfl Tryz.func22 (by kernel_rfl) (fun w hh => rnew_form a c w)) ?_
    rintro _ _ w3 ⟨H2, rfl, p2, rfl⟩
    refine wl_drop _ (List.sublist_append_right _ _) ?_
    refine wl_f (f_move rfl) (wl_f (f_extract rfl rfl) ?_)
    refine wl_f (f_extract rfl rfl) ?_
    refine wl_f (f_assign rfl) (wl_f (f_assign rfl) (wl_end [(2, _), (8, _), (9, _), (10, _), (12, _), (34, _), (35, _), (36, _)] ⟨rfl, rfl, rfl, rfl, rfl, rfl, rfl, rfl, trivial⟩ ?_))
    refine w_seq ?_
    refine w_draw [(0, true), (1, true), (2, true), (3, true), (4, true), (5, true), (6, true), (7, true), (8, true), (9, true), (10, true), (11, true), (12, true), (13, true), (14, true), (15, true), (17, true), (18, true), (19, true), (20, true), (21, true), (16, false), (22, false), (23, true), (24, true)] (_) ([]) mixed (by kernel_rfl) (by kernel_rfl) rfl (perm_all _) (fun w6_ => ?_)
    refine wd_f rfl (f_move rfl) (wd_f rfl (f_move rfl) (wd_f rfl (f_eqv (v' := .bool false) (f_neq rfl rfl) (by simp)) ?_))
    refine wd_f rfl (f_move rfl) (wd_gf rfl rfl rfl (f_move rfl) ?_)
    refine wd_gf rfl rfl rfl (f_eqlnil rfl rfl Tryz.underlying24) ?_
    refine wd_gf rfl rfl rfl (f_move rfl) ?_
    refine wd_gf rfl rfl rfl (f_neq rfl rfl) ?_
    refine wd_gf rfl rfl rfl (f_eqv (v' := .bool false) (f_neqb rfl rfl Tryz.underlying4) (by rw [hp]; simp)) ?_
    refine wd_f rfl (f_pick0 rfl rfl) ?_
    refine wd_f rfl (f_move rfl) (wd_gf rfl rfl rfl (f_indexArr 1 (i := 0) rfl rfl Tryz.underlying57 (by kernel_rfl) rfl (by decide)) ?_)
    refine wd_gf rfl rfl rfl (f_loadb 0 rfl Tryz.underlying3 rfl rfl rfl) ?_
    refine wd_gf rfl rfl rfl (f_indexArr 1 (i := 1) rfl rfl Tryz.underlying57 (by kernel_rfl) rfl (by decide)) ?_
    refine wd_gf rfl rfl rfl (f_loadb 0 rfl Tryz.underlying3 rfl rfl rfl) ?_
    refine wd_gf rfl rfl rfl (f_move rfl) ?_
    refine wd_gf rfl rfl rfl (f_indexArr 1 (i := 0) rfl rfl Tryz.underlying57 (by kernel_rfl) rfl (by decide)) ?_
    refine wd_gf rfl rfl rfl (f_loadb 0 rfl Tryz.underlying3 rfl rfl rfl) ?_
    refine wd_gf rfl rfl rfl (f_indexArr 1 (i := 1) rfl rfl Tryz.underlying57 (by kernel_rfl) rfl (by decide)) ?_
    refine wd_gf rfl rfl rfl (f_loadb 0 rfl Tryz.underlying3 rfl rfl rfl) ?_
    refine wd_gf rfl rfl rfl (f_move rfl) ?_
    refine wd_ge rfl rfl rfl (e_call0 rfl Tryz.func21 (by kernel_rfl) (fun w hh => tlimit_spec a c total w ht)) ?_
    rintro _ _ w4 ⟨_, rfl, rfl, rfl⟩
    refine ⟨_, List.Perm.refl _, ?_⟩
    refine wd_ge rfl rfl rfl (e_call0 rfl Tryz.func23 (by kernel_rfl) (fun w hh => rlimit_spec a c total w ht)) ?_
    rintro _ _ w5 ⟨_, rfl, rfl, rfl⟩
    refine ⟨_, List.Perm.refl _, ?_⟩
    refine wd_gf rfl rfl rfl (f_eqv (v' := .bool false) (f_neq rfl rfl) (by simp)) ?_
    refine wd_f rfl (f_pick0 rfl rfl) ?_
    refine wd_endp [(2, _), (34, _), (35, _), (36, _), (80, _)] [1] ⟨rfl, rfl, rfl, rfl, rfl, trivial⟩ rfl ?_
    refine w_iff rfl ?_
    refine w_skip ?_
    refine w_reg (wl_f (f_add rfl rfl (by omega)) ?_)
    refine wl_f (f_move rfl) (wl_end [(2, _), (34, _), (35, _), (36, _)] ⟨rfl, rfl, rfl, rfl, trivial⟩ ?_)
    exact ⟨k - 1, by omega, i + 1, rfl, rfl, by omega⟩
  · skip
    refine w_drop [] (List.nil_sublist _) ?_
    refine w_exit0 ?_
    refine w_seq (w_reg (wl_f (f_assign rfl) (wl_end [(13, _)] ⟨rfl, trivial⟩ ?_)))
    refine w_seq (w_reg (wl_f (f_move rfl) (wl_e (e_call0 rfl Tryz.func24 (by kernel_rfl) (fun w hh => tget_nil _ w)) ?_)))
    rintro _ _ w4 ⟨_, rfl, rfl⟩
    refine wl_drop _ (List.sublist_append_right _ _) ?_
    refine wl_f (f_move rfl) (wl_f (f_extract rfl rfl) ?_)
    refine wl_f (f_extract rfl rfl) ?_
    refine wl_e (e_allocs [.string ByteArray.empty, .int .u64 0, .int .u64 0] (by kernel_rfl)) ?_
    rintro _ _ w10_5 ⟨b10_5, rfl, rfl⟩
    (first | refine wl_e0 (e_store0 (us := [_, _, _]) rfl rfl rfl (by kernel_rfl) (by simp [Value.oneCell']) rfl rfl) ?_ | refine wl_e0 (e_store1 (us := [_, _, _]) rfl rfl rfl (by kernel_rfl) (by simp [Value.oneCell']) rfl rfl) ?_ | refine wl_e0 (e_store2 (us := [_, _, _]) rfl rfl rfl (by kernel_rfl) (by simp [Value.oneCell']) rfl rfl) ?_ | refine wl_e0 (e_store3 (us := [_, _, _]) rfl rfl rfl (by kernel_rfl) (by simp [Value.oneCell']) rfl rfl) ?_)
    rintro _ _ w10_6 rfl
    refine wl_f (f_assign rfl) (wl_pick [] rfl ?_)
    refine wl_end [(13, _), (15, _)] ⟨rfl, rfl, trivial⟩ ?_
    refine w_seq (w_reg (wl_f (f_move rfl) (wl_e (e_call0 rfl Tryz.func17 (by kernel_rfl) (fun w hh => ttake_nil _ w)) ?_)))
    rintro _ _ w5 ⟨_, rfl, rfl⟩
    refine wl_drop _ (List.sublist_append_right _ _) ?_
    refine wl_f (f_move rfl) (wl_f (f_extract rfl rfl) ?_)
    refine wl_f (f_extract rfl rfl) ?_
    refine wl_e (e_allocs [.string ByteArray.empty, .int .u64 0, .int .u64 0] (by kernel_rfl)) ?_
    rintro _ _ w11_5 ⟨b11_5, rfl, rfl⟩
    (first | refine wl_e0 (e_store0 (us := [_, _, _]) rfl rfl rfl (by kernel_rfl) (by simp [Value.oneCell']) rfl rfl) ?_ | refine wl_e0 (e_store1 (us := [_, _, _]) rfl rfl rfl (by kernel_rfl) (by simp [Value.oneCell']) rfl rfl) ?_ | refine wl_e0 (e_store2 (us := [_, _, _]) rfl rfl rfl (by kernel_rfl) (by simp [Value.oneCell']) rfl rfl) ?_ | refine wl_e0 (e_store3 (us := [_, _, _]) rfl rfl rfl (by kernel_rfl) (by simp [Value.oneCell']) rfl rfl) ?_)
    rintro _ _ w11_6 rfl
    refine wl_f (f_assign rfl) (wl_pick [] rfl ?_)
    refine wl_end [(13, _), (15, _), (17, _)] ⟨rfl, rfl, rfl, trivial⟩ ?_
    refine w_seq (w_reg (wl_f (f_move rfl) (wl_f (f_build rfl (fun w => build_entryk _ w)) ?_)))
    refine wl_e (e_call0 rfl Tryz.func20 (by kernel_rfl) (fun w hh => tswap_nil _ _ _ _ w)) ?_
    rintro _ _ w6 ⟨_, rfl, rfl⟩
    refine wl_drop _ (List.sublist_append_right _ _) ?_
    refine wl_f (f_move rfl) (wl_f (f_extract rfl rfl) ?_)
    refine wl_f (f_extract rfl rfl) ?_
    refine wl_e (e_allocs [.string ByteArray.empty, .int .u64 0, .int .u64 0] (by kernel_rfl)) ?_
    rintro _ _ w12_6 ⟨b12_6, rfl, rfl⟩
    (first | refine wl_e0 (e_store0 (us := [_, _, _]) rfl rfl rfl (by kernel_rfl) (by simp [Value.oneCell']) rfl rfl) ?_ | refine wl_e0 (e_store1 (us := [_, _, _]) rfl rfl rfl (by kernel_rfl) (by simp [Value.oneCell']) rfl rfl) ?_ | refine wl_e0 (e_store2 (us := [_, _, _]) rfl rfl rfl (by kernel_rfl) (by simp [Value.oneCell']) rfl rfl) ?_ | refine wl_e0 (e_store3 (us := [_, _, _]) rfl rfl rfl (by kernel_rfl) (by simp [Value.oneCell']) rfl rfl) ?_)
    rintro _ _ w12_7 rfl
    refine wl_f (f_assign rfl) (wl_pick [] rfl ?_)
    refine wl_end [(13, _), (15, _), (17, _), (19, _)] ⟨rfl, rfl, rfl, rfl, trivial⟩ ?_
    refine w_seq (w_reg (wl_f (f_move rfl) (wl_e (e_call0 rfl Tryz.func12 (by kernel_rfl) (fun w hh => tbounds_nil _ w)) ?_)))
    rintro _ _ w7 ⟨_, rfl, rfl⟩
    refine wl_drop _ (List.sublist_append_right _ _) ?_
    refine wl_f (f_move rfl) (wl_f (f_extract rfl rfl) ?_)
    refine wl_f (f_extract rfl rfl) ?_
    refine wl_e (e_allocs [.int .u64 0, .int .u64 0] (by kernel_rfl)) ?_
    rintro _ _ w13_5 ⟨b13_5, rfl, rfl⟩
    refine wl_e0 (e_store0 (us := [_, _]) rfl rfl rfl (by kernel_rfl) (by simp [Value.oneCell']) rfl rfl) ?_
    rintro _ _ w13_6 rfl
    refine wl_f (f_assign rfl) (wl_end [(13, _), (15, _), (17, _), (19, _), (20, _), (21, _)] ⟨rfl, rfl, rfl, rfl, rfl, rfl, trivial⟩ ?_)
    refine w_seq (w_reg (wl_f (f_move rfl) (wl_e (e_call0 rfl Tryz.func11 (by kernel_rfl) (fun w hh => tadd_nil _ _ w)) ?_)))
    rintro _ _ w8 ⟨_, rfl, rfl⟩
    refine wl_drop _ (List.sublist_append_right _ _) ?_
    refine wl_f (f_eql rfl rfl) ?_
    refine wl_f (f_move rfl) ?_
    refine wl_and (j := 3) (c := true) 2 [(13, _), (17, _), (19, _), (20, _), (21, _)] ⟨rfl, rfl, rfl, rfl, rfl, trivial⟩ rfl rfl rfl rfl rfl (fun hg14_6 => ?_) (fun w14_6 => ?_)
    · skip
      refine wl_gf rfl rfl (f_move rfl) ?_
      refine wl_gf rfl rfl (f_not rfl rfl) ?_
      exact wl_pend rfl rfl ⟨rfl, rfl, rfl, rfl, rfl, trivial⟩ (List.Sublist.refl _)
    refine wl_f (f_move rfl) ?_
    refine wl_and (j := 7) (c := true) 2 [(13, _), (19, _), (20, _), (21, _)] ⟨rfl, rfl, rfl, rfl, trivial⟩ rfl rfl rfl rfl rfl (fun hg14_10 => ?_) (fun w14_10 => ?_)
    · skip
      refine wl_gf rfl rfl (f_move rfl) ?_
      refine wl_gf rfl rfl (f_not rfl rfl) ?_
      exact wl_pend rfl rfl ⟨rfl, rfl, rfl, rfl, trivial⟩ (List.Sublist.refl _)
    refine wl_f (f_move rfl) ?_
    refine wl_and (j := 11) (c := true) 2 [(13, _), (20, _), (21, _)] ⟨rfl, rfl, rfl, trivial⟩ rfl rfl rfl rfl rfl (fun hg14_14 => ?_) (fun w14_14 => ?_)
    · skip
      refine wl_gf rfl rfl (f_move rfl) ?_
      refine wl_gf rfl rfl (f_eql rfl rfl) ?_
      exact wl_pend rfl rfl ⟨rfl, rfl, rfl, trivial⟩ (List.Sublist.refl _)
    refine wl_f (f_move rfl) ?_
    refine wl_and (j := 15) (c := true) 3 [(13, _), (21, _)] ⟨rfl, rfl, trivial⟩ rfl rfl rfl rfl rfl (fun hg14_19 => ?_) (fun w14_19 => ?_)
    · skip
      refine wl_gf rfl rfl (f_loadsb (cs := [_, _]) 0 rfl Tryz.underlying36 rfl (by kernel_rfl) rfl rfl) ?_
      refine wl_gf rfl rfl (f_build rfl (fun w => build_bounds0 w)) ?_
      refine wl_gf rfl rfl (f_eqv (v' := .bool true) (f_bin rfl rfl (fun w => run_eqGuard_agg w _ _ _ _ _ _ (by kernel_rfl)) (fun w => eqlBn _ _ _ _ w)) (by simp)) ?_
      exact wl_pend rfl rfl ⟨rfl, rfl, trivial⟩ (List.Sublist.refl _)
    refine wl_f (f_move rfl) ?_
    refine wl_and (j := 20) (c := true) 2 [(13, _)] ⟨rfl, trivial⟩ rfl rfl rfl rfl rfl (fun hg14_23 => ?_) (fun w14_23 => ?_)
    · skip
      refine wl_gf rfl rfl (f_move rfl) ?_
      refine wl_gf rfl rfl (f_not rfl rfl) ?_
      exact wl_pend rfl rfl ⟨rfl, trivial⟩ (List.Sublist.refl _)
    refine wl_f (f_move rfl) ?_
    refine wl_and (j := 24) (c := true) 3 [(13, _)] ⟨rfl, trivial⟩ rfl rfl rfl rfl rfl (fun hg14_28 => ?_) (fun w14_28 => ?_)
    · skip
      refine wl_gf rfl rfl (f_move rfl) ?_
      refine wl_ge rfl rfl (e_call0 rfl Tryz.func15 (by kernel_rfl) (fun w hh => tuntracked_nil w)) ?_
      rintro _ _ w9 ⟨_, rfl, rfl⟩
      refine wl_drop _ (List.sublist_append_right _ _) ?_
      refine wl_gf rfl rfl (f_eql rfl rfl) ?_
      exact wl_pend rfl rfl ⟨rfl, trivial⟩ (List.Sublist.refl _)
    refine wl_f (f_move rfl) ?_
    refine wl_and (j := 29) (c := true) 3 [(13, _)] ⟨rfl, trivial⟩ rfl rfl rfl rfl rfl (fun hg14_33 => ?_) (fun w14_33 => ?_)
    · skip
      refine wl_gf rfl rfl (f_move rfl) ?_
      refine wl_ge rfl rfl (e_call0 rfl Tryz.func16 (by kernel_rfl) (fun w hh => ttotal_nil w)) ?_
      rintro _ _ w10 ⟨_, rfl, rfl⟩
      refine wl_drop _ (List.sublist_append_right _ _) ?_
      refine wl_gf rfl rfl (f_eql rfl rfl) ?_
      exact wl_pend rfl rfl ⟨rfl, trivial⟩ (List.Sublist.refl _)
    refine wl_f (f_move rfl) ?_
    refine wl_and (j := 34) (c := true) 3 [(13, _)] ⟨rfl, trivial⟩ rfl rfl rfl rfl rfl (fun hg14_38 => ?_) (fun w14_38 => ?_)
    · skip
      refine wl_gf rfl rfl (f_move rfl) ?_
      refine wl_ge rfl rfl (e_call0 rfl Tryz.func25 (by kernel_rfl) (fun w hh => tlen_nil w)) ?_
      rintro _ _ w11 ⟨_, rfl, rfl⟩
      refine wl_drop _ (List.sublist_append_right _ _) ?_
      refine wl_gf rfl rfl (f_eql rfl rfl) ?_
      exact wl_pend rfl rfl ⟨rfl, trivial⟩ (List.Sublist.refl _)
    refine wl_f (f_move rfl) ?_
    refine wl_and (j := 39) (c := true) 4 [] trivial rfl rfl rfl rfl rfl (fun hg14_44 => ?_) (fun w14_44 => ?_)
    · skip
      refine wl_gf rfl rfl (f_move rfl) ?_
      refine wl_ge rfl rfl (e_call0 rfl Tryz.func14 (by kernel_rfl) (fun w hh => tentries_nil w)) ?_
      rintro _ _ w12 ⟨_, rfl, rfl⟩
      refine wl_drop _ (List.sublist_append_right _ _) ?_
      refine wl_gf rfl rfl (f_len rfl Tryz.underlying42) ?_
      refine wl_gf rfl rfl (f_eql rfl rfl) ?_
      exact wl_pend rfl rfl trivial (List.Sublist.refl _)
    refine wl_f (f_move rfl) ?_
    refine wl_and (j := 45) (c := true) 1 [] trivial rfl rfl rfl rfl rfl (fun hg14_47 => ?_) (fun w14_47 => ?_)
    · skip
      refine wl_ge rfl rfl (e_call0 rfl Tryz.func13 (by kernel_rfl) (fun w hh => awake15_spec w)) ?_
      rintro _ _ w13 ⟨_, rfl, rfl⟩
      refine wl_drop _ (List.sublist_append_right _ _) ?_
      exact wl_pend rfl rfl trivial (List.Sublist.refl _)
    refine wl_f (f_assign rfl) (wl_end [(6, _)] ⟨rfl, trivial⟩ ?_)
    refine w_ret ?_
    refine ⟨_, _, fun a ha hh => results_tmps Tryz.results6 rfl a ha _, List.Sublist.refl _, ?_⟩
    rfl
end Go.Proofs.YtmagdjlcckgkpaaGreat
