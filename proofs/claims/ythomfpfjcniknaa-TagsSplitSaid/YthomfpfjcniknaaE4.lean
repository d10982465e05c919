/- The law TagsKey: the call returns true. -/
import Derived.Test.YthomfpfjcniknaaE3
namespace Go.Proofs.Ythomfpfjcniknaa
open Go.RowKit

theorem lit_sl3 (A1 A2 A3 : Option Addr) (l1 l2 l3 c1 c2 c3 : Nat) (w : World) :
    (Instr.buildSlice 55 3 [(0, .slice A1 l1 c1), (1, .slice A2 l2 c2), (2, .slice A3 l3 c3)].toArray).run Try.prog w =
      .ok (.slice (some ⟨w.heap.size, 0, .none⟩) 3 3) (w.alloc (.cells [.slice A1 l1 c1, .slice A2 l2 c2, .slice A3 l3 c3].toArray 22)) := by kernel_rfl

set_option maxHeartbeats 2000000 in
theorem tagsKey_spec (A : Option Addr) (c : Nat) (raw : List Tg) (D : Option Addr) (dc : Nat) (L : List Int) (at_ : Int) (nm vl : ByteArray) (w : World)
    (hr : Rd w Nil 2 (.slice A raw.length c) raw.length (tcells raw)) (hrn : raw.length ≤ 140737488355328) (hd : Rd w Nil 1 (.slice D L.length dc) L.length (iv L)) (hL : L.length ≤ 140737488355328)
    (hn : nm.size ≤ 140737488355328) (hv : vl.size ≤ 140737488355328) :
    Spec Try.prog 8 [.slice A raw.length c, .slice D L.length dc, .int .i64 at_, .string nm, .string vl] w Nil fun r _ => r = .bool true := by
  obtain ⟨_, _, hrc, _, hcap, hA⟩ := id hr
  injection hrc with e1 _ e3
  subst e1; subst e3
  refine enter (n := 102) Try.func8 rfl rfl [(0, _), (1, _), (2, _), (3, _), (4, _)] rfl ⟨rfl, rfl, rfl, rfl, rfl, trivial⟩ (Holds.start _ _) ?_
  refine w_seq ?_
  refine w_reg ?_
  refine wl_f (f_assign rfl) ?_
  refine wl_end [(0, _), (1, _), (2, _), (3, _), (4, _)] ⟨rfl, rfl, rfl, rfl, rfl, trivial⟩ ?_
  refine w_seq ?_
  refine w_seq ?_
  refine w_reg ?_
  refine wl_f (f_move rfl) ?_
  refine wl_f (f_len rfl Try.underlying22) ?_
  refine wl_f (f_gtr rfl rfl) ?_
  refine wl_end [(0, _), (1, _), (2, _), (3, _), (4, _), (25, _)] ⟨rfl, rfl, rfl, rfl, rfl, rfl, trivial⟩ ?_
  refine w_ifd rfl (fun hc1 => ?_) (fun hc1 => ?_)
  · skip
    refine w_seq ?_
    refine w_reg ?_
    refine wl_e (e_call0 rfl Try.func30 (by kernel_rfl) (fun w hh => awake3_spec w)) ?_
    rintro _ _ w1 ⟨_, rfl, rfl, rfl⟩
    refine wl_f (f_assign rfl) ?_
    refine wl_end [(10, _)] ⟨rfl, trivial⟩ ?_
    refine w_ret ?_
    refine ⟨_, _, fun a ha hh => results_tmps Try.results8 rfl a ha _, List.Sublist.refl _, ?_⟩
    rfl
  · skip
    refine w_skip ?_
    refine w_seq ?_
    refine w_seq ?_
    refine w_reg ?_
    refine wl_f (f_move rfl) ?_
    refine wl_f (f_len rfl Try.underlying22) ?_
    refine wl_f (f_move rfl) ?_
    refine wl_end [(0, _), (1, _), (2, _), (3, _), (4, _), (27, _), (28, _), (29, _)] ⟨rfl, rfl, rfl, rfl, rfl, rfl, rfl, rfl, trivial⟩ ?_
    refine w_block ?_
    refine w_loop (fun k m H w => ∃ i : Nat, m = [(0, .slice A raw.length c), (1, .slice D L.length dc), (2, .int .i64 at_), (3, .string nm), (4, .string vl), (27, .slice A raw.length c), (28, .int .i64 raw.length), (29, .int .i64 i)] ∧ H = [] ∧
      k + i = raw.length ∧ ∀ t ∈ raw.take i, t.1.size ≤ 100) raw.length ⟨0, rfl, rfl, rfl, by simp⟩ ?_
    rintro k _ _ w1 ⟨i, rfl, rfl, hk, hok⟩
    refine w_seq ?_
    refine w_reg ?_
    refine wl_f (f_lss rfl rfl) ?_
    refine wl_end [(0, _), (1, _), (2, _), (3, _), (4, _), (27, _), (28, _), (29, _), (30, _)] ⟨rfl, rfl, rfl, rfl, rfl, rfl, rfl, rfl, rfl, trivial⟩ ?_
    refine w_seq ?_
    refine w_ifd rfl (fun hc2 => ?_) (fun hc2 => ?_)
    · skip
      obtain ⟨t, ht⟩ : ∃ t, raw[i]? = some t := ⟨raw[i]'(by omega), List.getElem?_eq_getElem (by omega)⟩
      obtain ⟨b, off, rfl, _, _, hcell⟩ := hA.resolve_left (by omega)
      refine w_skip ?_
      refine w_seq ?_
      refine w_block ?_
      refine w_seq ?_
      refine w_reg ?_
      refine wl_f (f_indexAddr 2 rfl rfl Try.underlying22 (by kernel_rfl) rfl (by omega)) ?_
      refine wl_f (f_loadso (cs := [.string t.1, .string t.2]) rfl Try.underlying35 rfl (by kernel_rfl) (tcells_at hcell ht) id) ?_
      refine wl_e (e_allocs [.string ByteArray.empty, .string ByteArray.empty] (by kernel_rfl)) ?_
      rintro _ _ w5_2 ⟨b5_2, rfl, rfl⟩
      (first | refine wl_e0 (e_store0 (us := [_, _]) rfl rfl rfl (by kernel_rfl) (by simp [Value.oneCell']) rfl rfl) ?_ | refine wl_e0 (e_store1 (us := [_, _]) rfl rfl rfl (by kernel_rfl) (by simp [Value.oneCell']) rfl rfl) ?_ | refine wl_e0 (e_store2 (us := [_, _]) rfl rfl rfl (by kernel_rfl) (by simp [Value.oneCell']) rfl rfl) ?_ | refine wl_e0 (e_store3 (us := [_, _]) rfl rfl rfl (by kernel_rfl) (by simp [Value.oneCell']) rfl rfl) ?_)
      rintro _ _ w5_3 rfl
      refine wl_end [(0, _), (1, _), (2, _), (3, _), (4, _), (12, _), (27, _), (28, _), (29, _)] ⟨rfl, rfl, rfl, rfl, rfl, rfl, rfl, rfl, rfl, trivial⟩ ?_
      refine w_seq ?_
      refine w_reg ?_
      refine wl_f (f_fieldAddr 0 rfl Try.underlying35 rfl rfl (by kernel_rfl)) ?_
      (first | refine wl_f (f_loadb 0 rfl Try.underlying9 rfl rfl rfl) ?_ | refine wl_f (f_loadb 1 rfl Try.underlying9 rfl rfl rfl) ?_ | refine wl_f (f_loadb 2 rfl Try.underlying9 rfl rfl rfl) ?_ | refine wl_f (f_loadb 3 rfl Try.underlying9 rfl rfl rfl) ?_ | refine wl_f (f_loadb 4 rfl Try.underlying9 rfl rfl rfl) ?_ | refine wl_f (f_loadb 5 rfl Try.underlying9 rfl rfl rfl) ?_ | refine wl_f (f_loadb 6 rfl Try.underlying9 rfl rfl rfl) ?_)
      refine wl_f (f_lens rfl Try.underlying9) ?_
      refine wl_f (f_gtr rfl rfl) ?_
      refine wl_f (f_move rfl) ?_
      refine wl_or (j := 4) (c := decide (100 < (t.2.size : Int))) 4 [(0, _), (1, _), (2, _), (3, _), (4, _), (27, _), (28, _), (29, _)] ⟨rfl, rfl, rfl, rfl, rfl, rfl, rfl, rfl, trivial⟩ rfl rfl rfl rfl rfl (fun hg6_9 => ?_) (fun w6_9 => ?_)
      · skip
        refine wl_gf rfl rfl (f_fieldAddr 1 rfl Try.underlying35 rfl rfl (by kernel_rfl)) ?_
        (first | refine wl_gf rfl rfl (f_loadb 0 rfl Try.underlying9 rfl rfl rfl) ?_ | refine wl_gf rfl rfl (f_loadb 1 rfl Try.underlying9 rfl rfl rfl) ?_ | refine wl_gf rfl rfl (f_loadb 2 rfl Try.underlying9 rfl rfl rfl) ?_ | refine wl_gf rfl rfl (f_loadb 3 rfl Try.underlying9 rfl rfl rfl) ?_ | refine wl_gf rfl rfl (f_loadb 4 rfl Try.underlying9 rfl rfl rfl) ?_ | refine wl_gf rfl rfl (f_loadb 5 rfl Try.underlying9 rfl rfl rfl) ?_ | refine wl_gf rfl rfl (f_loadb 6 rfl Try.underlying9 rfl rfl rfl) ?_)
        refine wl_gf rfl rfl (f_lens rfl Try.underlying9) ?_
        refine wl_gf rfl rfl (f_gtr rfl rfl) ?_
        exact wl_pend rfl rfl ⟨rfl, rfl, rfl, rfl, rfl, rfl, rfl, rfl, trivial⟩ (List.Sublist.refl _)
      refine wl_end [(0, _), (1, _), (2, _), (3, _), (4, _), (27, _), (28, _), (29, _), (42, _)] ⟨rfl, rfl, rfl, rfl, rfl, rfl, rfl, rfl, rfl, trivial⟩ ?_
      refine w_ifb rfl (fun hc3 => ?_) (fun hc3 => ?_)
      · skip
        refine w_drop [] (List.nil_sublist _) ?_
        refine w_seq ?_
        refine w_reg ?_
        refine wl_e (e_call0 rfl Try.func30 (by kernel_rfl) (fun w hh => awake3_spec w)) ?_
        rintro _ _ w2 ⟨_, rfl, rfl, rfl⟩
        refine wl_f (f_assign rfl) ?_
        refine wl_end [(10, _)] ⟨rfl, trivial⟩ ?_
        refine w_ret ?_
        refine ⟨_, _, fun a ha hh => results_tmps Try.results8 rfl a ha _, List.Sublist.refl _, ?_⟩
        rfl
      · skip
        refine w_drop [] (List.nil_sublist _) ?_
        simp only [Bool.or_eq_true, decide_eq_true_eq] at hc3
        refine w_skip ?_
        refine w_reg ?_
        refine wl_f (f_add rfl rfl (by omega)) ?_
        refine wl_f (f_move rfl) ?_
        refine wl_end [(0, _), (1, _), (2, _), (3, _), (4, _), (27, _), (28, _), (29, _)] ⟨rfl, rfl, rfl, rfl, rfl, rfl, rfl, rfl, trivial⟩ ?_
        refine ⟨k - 1, by omega, i + 1, rfl, rfl, by omega, ?_⟩
        rw [take_snoc raw i t ht]
        intro x hx
        rcases List.mem_append.1 hx with hx | hx
        · exact hok x hx
        · rw [List.mem_singleton] at hx; subst hx; omega
    · skip
      rw [List.take_of_length_le (by omega)] at hok
      refine w_exit0 ?_
      refine w_seq ?_
      refine w_seq ?_
      refine w_reg ?_
      refine wl_f (f_move rfl) ?_
      refine wl_f (f_move rfl) ?_
      refine wl_e (e_call0 rfl Try.func31 (by kernel_rfl) (fun w hh => list_spec D _ dc L 0 ⟨#[]⟩ ⟨#[]⟩ w (hd.old0 hh) hL)) ?_
      rintro v1 _ w3 ⟨_, rfl, T1, rfl, hT1, _, hS1⟩
      refine wl_with fun hh => ?_
      obtain ⟨A1, c1, rfl⟩ := row_slice hh (i := 0) rfl
      clear hh
      refine wl_f (f_move rfl) ?_
      refine wl_f (f_move rfl) ?_
      refine wl_f (f_move rfl) ?_
      refine wl_e (e_call0 rfl Try.func27 (by kernel_rfl) (fun w hh => short_spec nm w hn)) ?_
      rintro _ _ w4 ⟨_, rfl, nm', rfl, hn', rfl⟩
      refine wl_f (f_move rfl) ?_
      refine wl_e (e_call0 rfl Try.func27 (by kernel_rfl) (fun w hh => short_spec vl w hv)) ?_
      rintro _ _ w5 ⟨_, rfl, vl', rfl, hv', rfl⟩
      refine wl_e (e_call0 rfl Try.func31 (by kernel_rfl) (fun w hh => list_spec D _ dc L at_ nm' vl' w (hd.old0 hh) hL)) ?_
      rintro v2 _ w6 ⟨_, rfl, T2, rfl, hT2, _, hS2⟩
      refine wl_with fun hh => ?_
      obtain ⟨A2, c2, rfl⟩ := row_slice hh (i := 0) rfl
      clear hh
      refine wl_e (e_litrow (e := 22) (sz := 1) rfl (fun w => lit_sl3 _ _ _ _ _ _ _ _ _ w) rfl (by decide)) ?_
      rintro _ _ w9_10 ⟨b9_10, rfl, rfl⟩
      refine wl_f (f_len rfl Try.underlying55) ?_
      refine wl_f (f_move rfl) ?_
      refine wl_end [(55, _), (56, _), (57, _)] ⟨rfl, rfl, rfl, trivial⟩ ?_
      refine w_block ?_
      refine w_loop (fun q m H w => ∃ i : Nat, m = [(55, .slice (some ⟨b9_10, 0, .none⟩) 3 3), (56, .int .i64 3), (57, .int .i64 i)] ∧
        H = [row (.slice (some ⟨b9_10, 0, .none⟩) 3 3) 22 1 3 [.slice A raw.length c, .slice A1 T1.length c1, .slice A2 T2.length c2], row (.slice A2 T2.length c2) 35 2 T2.length (tcells T2), row (.slice A1 T1.length c1) 35 2 T1.length (tcells T1)] ∧ q + i = 3) 3 ⟨0, rfl, rfl, rfl⟩ ?_
      rintro q _ _ w7 ⟨i, rfl, rfl, hq⟩
      refine w_seq ?_
      refine w_reg ?_
      refine wl_f (f_lss rfl rfl) ?_
      refine wl_end [(55, _), (56, _), (57, _), (58, _)] ⟨rfl, rfl, rfl, rfl, trivial⟩ ?_
      refine w_seq ?_
      refine w_ifd rfl (fun hc4 => ?_) (fun hc4 => ?_)
      · skip
        obtain ⟨v, T, hvi, hrd, hTn, hTs⟩ : ∃ (v : Value) (T : List Tg), ([.slice A raw.length c, .slice A1 T1.length c1, .slice A2 T2.length c2] : List Value)[0 + i * 1]? = some v ∧
            (∀ H0 w', Holds w Nil (H0 ++ [row (.slice A2 T2.length c2) 35 2 T2.length (tcells T2), row (.slice A1 T1.length c1) 35 2 T1.length (tcells T1)]) w' → Rd w' Nil 2 v T.length (tcells T)) ∧
            T.length ≤ 140737488355328 ∧ ∀ t ∈ T, t.1.size ≤ 140737488355328 := by
          match i, hc4 with
          | 0, _ => exact ⟨_, raw, rfl, fun _ _ hh => hr.old0 hh, hrn, fun t ht => by have := hok t ht; omega⟩
          | 1, _ => exact ⟨_, T1, rfl, fun H0 _ hh => Rd.held0 (e := 35) hh (i := H0.length + 1) (by simp), by omega, fun t ht => by have := hS1 t ht; have : (⟨#[]⟩ : ByteArray).size = 0 := rfl; omega⟩
          | 2, _ => exact ⟨_, T2, rfl, fun H0 _ hh => Rd.held0 (e := 35) hh (i := H0.length) (by simp), by omega, fun t ht => by have := hS2 t ht; omega⟩
          | i + 3, h => omega
        refine w_skip ?_
        refine w_seq ?_
        refine w_block ?_
        refine w_seq ?_
        refine w_reg ?_
        refine wl_f (f_indexAddr 1 rfl rfl Try.underlying55 (by kernel_rfl) rfl (by omega)) ?_
        refine wl_f (f_loadr (v := v) 0 rfl Try.underlying22 rfl rfl hvi) ?_
        refine wl_f (f_assign rfl) ?_
        refine wl_end [(14, _), (55, _), (56, _), (57, _)] ⟨rfl, rfl, rfl, rfl, trivial⟩ ?_
        refine w_seq ?_
        refine w_reg ?_
        refine wl_f (f_move rfl) ?_
        refine wl_e (e_call0 rfl Try.func32 (by kernel_rfl) (fun w hh => sort_spec v T w (hrd [_] w hh) hTn hTs)) ?_
        rintro _ _ w8 ⟨_, rfl, u1, rfl, rfl⟩
        refine wl_f (f_move rfl) ?_
        refine wl_f (f_extract rfl rfl) ?_
        refine wl_f (f_extract rfl rfl) ?_
        refine wl_f (f_assign rfl) ?_
        refine wl_f (f_assign rfl) ?_
        refine wl_end [(14, _), (15, _), (16, _), (55, _), (56, _), (57, _)] ⟨rfl, rfl, rfl, rfl, rfl, rfl, trivial⟩ ?_
        refine w_seq ?_
        refine w_reg ?_
        refine wl_f (f_move rfl) ?_
        refine wl_e (e_call0 rfl Try.func33 (by kernel_rfl) (fun w hh => rsort_spec v T w (hrd [_, _] w hh) hTn hTs)) ?_
        rintro _ _ w9 ⟨_, rfl, u2, rfl, rfl⟩
        refine wl_f (f_move rfl) ?_
        refine wl_f (f_extract rfl rfl) ?_
        refine wl_f (f_extract rfl rfl) ?_
        refine wl_f (f_assign rfl) ?_
        refine wl_f (f_assign rfl) ?_
        refine wl_end [(14, _), (15, _), (16, _), (17, _), (18, _), (55, _), (56, _), (57, _)] ⟨rfl, rfl, rfl, rfl, rfl, rfl, rfl, rfl, trivial⟩ ?_
        refine w_seq ?_
        refine w_reg ?_
        refine wl_f (f_move rfl) ?_
        refine wl_e (e_call0 rfl Try.func34 (by kernel_rfl) (fun w hh => key_spec v T w (hrd [_, _, _] w hh) hTn hTs)) ?_
        rintro _ _ w10 ⟨_, rfl, rfl, rfl⟩
        refine wl_f (f_move rfl) ?_
        refine wl_f (f_extract rfl rfl) ?_
        refine wl_f (f_extract rfl rfl) ?_
        refine wl_f (f_assign rfl) ?_
        refine wl_f (f_assign rfl) ?_
        refine wl_end [(14, _), (15, _), (16, _), (17, _), (18, _), (19, _), (20, _), (55, _), (56, _), (57, _)] ⟨rfl, rfl, rfl, rfl, rfl, rfl, rfl, rfl, rfl, rfl, trivial⟩ ?_
        refine w_seq ?_
        refine w_reg ?_
        refine wl_f (f_move rfl) ?_
        refine wl_e (e_call0 rfl Try.func35 (by kernel_rfl) (fun w hh => rkey_spec v T w (hrd [_, _, _] w hh) hTn hTs)) ?_
        rintro _ _ w11 ⟨_, rfl, rfl, rfl⟩
        refine wl_f (f_move rfl) ?_
        refine wl_f (f_extract rfl rfl) ?_
        refine wl_f (f_extract rfl rfl) ?_
        refine wl_f (f_assign rfl) ?_
        refine wl_f (f_assign rfl) ?_
        refine wl_end [(15, _), (16, _), (17, _), (18, _), (19, _), (20, _), (21, _), (22, _), (55, _), (56, _), (57, _)] ⟨rfl, rfl, rfl, rfl, rfl, rfl, rfl, rfl, rfl, rfl, rfl, trivial⟩ ?_
        refine w_seq ?_
        refine w_reg ?_
        refine wl_f (f_move rfl) ?_
        refine wl_f (f_move rfl) ?_
        have hso : (sortOut T).length ≤ 140737488355328 := by
          unfold sortOut
          split
          · rw [(isort_perm T).length_eq]; exact hTn
          · simp
        refine wl_e (e_call0 rfl Try.func36 (by kernel_rfl) (fun w hh => sameTags_spec _ _ _ _ w (Rd.held0 hh (i := 1) rfl) (Rd.held0 hh (i := 0) rfl) hso hso)) ?_
        rintro _ _ w12 ⟨_, rfl, rfl, rfl⟩
        refine wl_f (f_not rfl rfl) ?_
        refine wl_f (f_move rfl) ?_
        refine wl_or (j := 4) (c := decide (sortErr T ≠ sortErr T)) 3 [(19, _), (20, _), (21, _), (22, _), (55, _), (56, _), (57, _)] ⟨rfl, rfl, rfl, rfl, rfl, rfl, rfl, trivial⟩ rfl rfl rfl rfl rfl (fun hg16_8 => ?_) (fun w16_8 => ?_)
        · skip
          refine wl_gf rfl rfl (f_move rfl) ?_
          refine wl_gf rfl rfl (f_move rfl) ?_
          refine wl_gf rfl rfl (f_neq rfl rfl) ?_
          exact wl_pend rfl rfl ⟨rfl, rfl, rfl, rfl, rfl, rfl, rfl, trivial⟩ (List.Sublist.refl _)
        refine wl_f (f_move rfl) ?_
        refine wl_or (j := 9) (c := decide (str (keyOut T).1 ≠ str (keyOut T).1)) 3 [(20, _), (22, _), (55, _), (56, _), (57, _)] ⟨rfl, rfl, rfl, rfl, rfl, trivial⟩ rfl rfl rfl rfl rfl (fun hg16_13 => ?_) (fun w16_13 => ?_)
        · skip
          refine wl_gf rfl rfl (f_move rfl) ?_
          refine wl_gf rfl rfl (f_move rfl) ?_
          refine wl_gf rfl rfl (f_neqs rfl rfl) ?_
          exact wl_pend rfl rfl ⟨rfl, rfl, rfl, rfl, rfl, trivial⟩ (List.Sublist.refl _)
        refine wl_f (f_move rfl) ?_
        refine wl_or (j := 14) (c := decide ((keyOut T).2 ≠ (keyOut T).2)) 3 [(55, _), (56, _), (57, _)] ⟨rfl, rfl, rfl, trivial⟩ rfl rfl rfl rfl rfl (fun hg16_18 => ?_) (fun w16_18 => ?_)
        · skip
          refine wl_gf rfl rfl (f_move rfl) ?_
          refine wl_gf rfl rfl (f_move rfl) ?_
          refine wl_gf rfl rfl (f_neq rfl rfl) ?_
          exact wl_pend rfl rfl ⟨rfl, rfl, rfl, trivial⟩ (List.Sublist.refl _)
        refine wl_end [(55, _), (56, _), (57, _), (99, _)] ⟨rfl, rfl, rfl, rfl, trivial⟩ ?_
        refine w_ifb rfl (fun h => absurd h (by simp)) (fun _ => w_rm0 (w_rm0 ?_))
        refine w_skip ?_
        refine w_reg ?_
        refine wl_f (f_add rfl rfl (by omega)) ?_
        refine wl_f (f_move rfl) ?_
        refine wl_end [(55, _), (56, _), (57, _)] ⟨rfl, rfl, rfl, trivial⟩ ?_
        exact ⟨q - 1, by omega, i + 1, rfl, rfl, by omega⟩
      · skip
        refine w_exit0 ?_
        refine w_seq ?_
        refine w_reg ?_
        refine wl_e (e_call0 rfl Try.func30 (by kernel_rfl) (fun w hh => awake3_spec w)) ?_
        rintro _ _ w13 ⟨_, rfl, rfl, rfl⟩
        refine wl_f (f_assign rfl) ?_
        refine wl_end [(10, _)] ⟨rfl, trivial⟩ ?_
        refine w_ret ?_
        refine ⟨_, _, fun a ha hh => results_tmps Try.results8 rfl a ha _, List.Sublist.refl _, ?_⟩
        rfl
end Go.Proofs.Ythomfpfjcniknaa
