/- Two lists of bytes are compared; is an event short; the sanity check. -/
import Derived.Test.YthomfpfjcniknaaD3
namespace Go.Proofs.Ythomfpfjcniknaa
open Go.RowKit

theorem bv_get1 (l : List Nat) (i : Nat) (h : i < l.length) : (bv l)[i * 1]? = some (.int .u8 (l[i] : Int)) := by rw [Nat.mul_one]; exact bv_get l i h

theorem same_spec (v1 v2 : Value) (xs ys : List Nat) (w : World) (h1 : Rd w Nil 1 v1 xs.length (bv xs)) (h2 : Rd w Nil 1 v2 ys.length (bv ys)) (hx : xs.length ≤ 1000000000) (hy : ys.length ≤ 1000000000) :
    Spec Try.prog 21 [v1, v2] w Nil fun r H => r = .bool (decide (xs = ys)) ∧ H = [] := by
  obtain ⟨A1, c1, rfl, -, hc1', g1⟩ := h1
  obtain ⟨A2, c2, rfl, -, hc2', g2⟩ := h2
  refine enter (n := 26) Try.func21 rfl rfl [(0, _), (1, _)] rfl ⟨rfl, rfl, trivial⟩ (Holds.start _ _) ?_
  refine w_seq ?_
  refine w_reg ?_
  refine wl_f (f_assign rfl) ?_
  refine wl_end [(0, _), (1, _)] ⟨rfl, rfl, trivial⟩ ?_
  refine w_seq ?_
  refine w_seq ?_
  refine w_reg ?_
  refine wl_f (f_move rfl) ?_
  refine wl_f (f_len rfl Try.underlying33) ?_
  refine wl_f (f_move rfl) ?_
  refine wl_f (f_len rfl Try.underlying33) ?_
  refine wl_f (f_neq rfl rfl) ?_
  refine wl_end [(0, _), (1, _), (10, _)] ⟨rfl, rfl, rfl, trivial⟩ ?_
  refine w_ifd rfl (fun hc1 => ?_) (fun hc1 => ?_)
  · skip
    refine w_seq ?_
    refine w_reg ?_
    refine wl_f (f_assign rfl) ?_
    refine wl_end [(4, _)] ⟨rfl, trivial⟩ ?_
    refine w_ret ?_
    refine ⟨_, _, fun a ha hh => results_tmps Try.results21 rfl a ha _, List.Sublist.refl _, ?_⟩
    exact ⟨by rw [decide_eq_false (fun e => hc1 (by rw [e]))]; rfl, rfl⟩
  · skip
    refine w_skip ?_
    refine w_seq ?_
    refine w_seq ?_
    refine w_reg ?_
    refine wl_f (f_move rfl) ?_
    refine wl_f (f_len rfl Try.underlying33) ?_
    refine wl_f (f_move rfl) ?_
    refine wl_end [(0, _), (1, _), (12, _), (13, _)] ⟨rfl, rfl, rfl, rfl, trivial⟩ ?_
    refine w_block ?_
    refine w_loop (fun k m H w => ∃ i : Nat, m = [(0, .slice A1 xs.length c1), (1, .slice A2 ys.length c2), (12, .int .i64 xs.length), (13, .int .i64 i)] ∧ H = [] ∧ k + i = xs.length ∧ xs.take i = ys.take i) xs.length ⟨0, rfl, rfl, rfl, rfl⟩ ?_
    rintro k _ _ w' ⟨i, rfl, rfl, hk, ht⟩
    refine w_seq ?_
    refine w_reg ?_
    refine wl_f (f_lss rfl rfl) ?_
    refine wl_end [(0, _), (1, _), (12, _), (13, _), (14, _)] ⟨rfl, rfl, rfl, rfl, rfl, trivial⟩ ?_
    refine w_seq ?_
    refine w_ifd rfl (fun hc2 => ?_) (fun hc2 => ?_)
    · skip
      have hlen : xs.length = ys.length := by omega
      have hi1 : i < xs.length := by omega
      have hi2 : i < ys.length := by omega
      obtain ⟨b1, o1, rfl, -, -, d1⟩ := g1.resolve_left (by omega)
      obtain ⟨b2, o2, rfl, -, -, d2⟩ := g2.resolve_left (by omega)
      refine w_skip ?_
      refine w_seq ?_
      refine w_block ?_
      refine w_seq ?_
      refine w_reg ?_
      refine wl_f (f_move rfl) ?_
      refine wl_f (f_assign rfl) ?_
      refine wl_end [(0, _), (1, _), (5, _), (12, _), (13, _)] ⟨rfl, rfl, rfl, rfl, rfl, trivial⟩ ?_
      refine w_seq ?_
      refine w_draw [(0, true), (1, true), (2, true), (3, true), (4, true), (5, true), (6, true), (7, true), (8, true)] (_) ([]) mixed (by kernel_rfl) (by kernel_rfl) rfl (perm_all _) (fun w6_ => ?_)
      refine wd_f rfl (f_move rfl) ?_
      refine wd_f rfl (f_move rfl) ?_
      refine wd_f rfl (f_indexAddr 1 rfl rfl Try.underlying33 (by kernel_rfl) rfl (by omega)) ?_
      refine wd_f rfl (f_loado rfl Try.underlying5 rfl (d1 (i * 1) _ (bv_get1 xs i hi1)) id) ?_
      refine wd_f rfl (f_move rfl) ?_
      refine wd_f rfl (f_move rfl) ?_
      refine wd_f rfl (f_indexAddr 1 rfl rfl Try.underlying33 (by kernel_rfl) rfl (by omega)) ?_
      refine wd_f rfl (f_loado rfl Try.underlying5 rfl (d2 (i * 1) _ (bv_get1 ys i hi2)) id) ?_
      refine wd_f rfl (f_neq rfl rfl) ?_
      refine wd_end [(0, _), (1, _), (12, _), (13, _), (24, _)] ⟨rfl, rfl, rfl, rfl, rfl, trivial⟩ ?_
      refine w_ifd rfl (fun hc3 => ?_) (fun hc3 => ?_)
      · skip
        refine w_seq ?_
        refine w_reg ?_
        refine wl_f (f_assign rfl) ?_
        refine wl_end [(4, _)] ⟨rfl, trivial⟩ ?_
        refine w_ret ?_
        refine ⟨_, _, fun a ha hh => results_tmps Try.results21 rfl a ha _, List.Sublist.refl _, ?_⟩
        exact ⟨by rw [decide_eq_false (fun e => hc3 (by subst e; rfl))]; rfl, rfl⟩
      · skip
        refine w_skip ?_
        refine w_reg ?_
        refine wl_f (f_add rfl rfl (by omega)) ?_
        refine wl_f (f_move rfl) ?_
        refine wl_end [(0, _), (1, _), (12, _), (13, _)] ⟨rfl, rfl, rfl, rfl, trivial⟩ ?_
        refine ⟨k - 1, by omega, i + 1, rfl, rfl, by omega, ?_⟩
        rw [List.take_succ_eq_append_getElem hi1, List.take_succ_eq_append_getElem hi2, ht, show xs[i] = ys[i] from by omega]
    · skip
      refine w_exit0 ?_
      refine w_seq ?_
      refine w_reg ?_
      refine wl_f (f_assign rfl) ?_
      refine wl_end [(4, _)] ⟨rfl, trivial⟩ ?_
      refine w_ret ?_
      refine ⟨_, _, fun a ha hh => results_tmps Try.results21 rfl a ha _, List.Sublist.refl _, ?_⟩
      exact ⟨by rw [decide_eq_true (by rw [List.take_of_length_le (by omega), List.take_of_length_le (by omega)] at ht; exact ht)]; rfl, rfl⟩

def plainOk (tags : List Tg) : Prop := tags.length ≤ 12 ∧ ∀ t ∈ tags, t.1.size ≤ 200 ∧ t.2.size ≤ 200

theorem plain_spec (sl : Value) (tags : List Tg) (t : Int) (wt : Nat) (w : World) (hrd : Rd w Nil 2 sl tags.length (tcells tags)) (hn : tags.length ≤ 140737488355328) :
    Spec Try.prog 15 [.agg #[sl, .int .i64 t, .int .u64 wt]] w Nil fun r H => ∃ b, r = .bool b ∧ (b = true → plainOk tags) ∧ H = [] := by
  obtain ⟨A, c, rfl, hlen, hcap, hA⟩ := hrd
  refine enter (n := 27) Try.func15 rfl rfl [(0, _)] rfl ⟨rfl, trivial⟩ (Holds.start _ _) ?_
  refine w_seq ?_
  refine w_reg ?_
  refine wl_e (e_box (cs := [_, _, _]) rfl rfl) ?_
  rintro _ _ w0_0 ⟨b0_0, rfl, rfl⟩
  refine wl_f (f_assign rfl) ?_
  refine wl_end [(1, _)] ⟨rfl, trivial⟩ ?_
  refine w_seq ?_
  refine w_seq ?_
  refine w_reg ?_
  refine wl_f (f_fieldAddr 0 rfl Try.underlying25 rfl rfl (by kernel_rfl)) ?_
  (first | refine wl_f (f_loadb 0 rfl Try.underlying22 rfl rfl rfl) ?_ | refine wl_f (f_loadb 1 rfl Try.underlying22 rfl rfl rfl) ?_ | refine wl_f (f_loadb 2 rfl Try.underlying22 rfl rfl rfl) ?_ | refine wl_f (f_loadb 3 rfl Try.underlying22 rfl rfl rfl) ?_ | refine wl_f (f_loadb 4 rfl Try.underlying22 rfl rfl rfl) ?_ | refine wl_f (f_loadb 5 rfl Try.underlying22 rfl rfl rfl) ?_ | refine wl_f (f_loadb 6 rfl Try.underlying22 rfl rfl rfl) ?_)
  refine wl_f (f_len rfl Try.underlying22) ?_
  refine wl_f (f_gtr rfl rfl) ?_
  refine wl_end [(1, _), (8, _)] ⟨rfl, rfl, trivial⟩ ?_
  refine w_ifd rfl (fun hc1 => ?_) (fun hc1 => ?_)
  · skip
    refine w_seq ?_
    refine w_reg ?_
    refine wl_f (f_assign rfl) ?_
    refine wl_end [(2, _)] ⟨rfl, trivial⟩ ?_
    refine w_rm0 ?_
    refine w_ret ?_
    refine ⟨_, _, fun a ha hh => results_tmps Try.results15 rfl a ha _, List.Sublist.refl _, ?_⟩
    exact ⟨false, rfl, (fun h => by cases h), rfl⟩
  · skip
    refine w_skip ?_
    refine w_seq ?_
    refine w_seq ?_
    refine w_reg ?_
    refine wl_f (f_fieldAddr 0 rfl Try.underlying25 rfl rfl (by kernel_rfl)) ?_
    (first | refine wl_f (f_loadb 0 rfl Try.underlying22 rfl rfl rfl) ?_ | refine wl_f (f_loadb 1 rfl Try.underlying22 rfl rfl rfl) ?_ | refine wl_f (f_loadb 2 rfl Try.underlying22 rfl rfl rfl) ?_ | refine wl_f (f_loadb 3 rfl Try.underlying22 rfl rfl rfl) ?_ | refine wl_f (f_loadb 4 rfl Try.underlying22 rfl rfl rfl) ?_ | refine wl_f (f_loadb 5 rfl Try.underlying22 rfl rfl rfl) ?_ | refine wl_f (f_loadb 6 rfl Try.underlying22 rfl rfl rfl) ?_)
    refine wl_f (f_len rfl Try.underlying22) ?_
    refine wl_f (f_move rfl) ?_
    refine wl_end [(10, _), (11, _), (12, _)] ⟨rfl, rfl, rfl, trivial⟩ ?_
    refine w_block ?_
    refine w_rm0 ?_
    refine w_loop (fun k m H w => ∃ i : Nat, m = [(10, .slice A tags.length c), (11, .int .i64 tags.length), (12, .int .i64 i)] ∧ H = [] ∧ k + i = tags.length ∧ ∀ t ∈ tags.take i, t.1.size ≤ 200 ∧ t.2.size ≤ 200) tags.length ⟨0, rfl, rfl, rfl, by simp⟩ ?_
    rintro k _ _ w' ⟨i, rfl, rfl, hk, hok⟩
    refine w_seq ?_
    refine w_reg ?_
    refine wl_f (f_lss rfl rfl) ?_
    refine wl_end [(10, _), (11, _), (12, _), (13, _)] ⟨rfl, rfl, rfl, rfl, trivial⟩ ?_
    refine w_seq ?_
    refine w_ifd rfl (fun hc2 => ?_) (fun hc2 => ?_)
    · skip
      obtain ⟨tg, htg⟩ : ∃ tg, tags[i]? = some tg := ⟨tags[i]'(by omega), List.getElem?_eq_getElem (by omega)⟩
      obtain ⟨b, off, rfl, _, _, hcell⟩ := hA.resolve_left (by omega)
      refine w_skip ?_
      refine w_seq ?_
      refine w_block ?_
      refine w_seq ?_
      refine w_reg ?_
      refine wl_f (f_indexAddr 2 rfl rfl Try.underlying22 (by kernel_rfl) rfl (by omega)) ?_
      refine wl_f (f_loadso (cs := [.string tg.1, .string tg.2]) rfl Try.underlying35 rfl (by kernel_rfl) (tcells_at hcell htg) id) ?_
      refine wl_e (e_allocs [.string ByteArray.empty, .string ByteArray.empty] (by kernel_rfl)) ?_
      rintro _ _ w5_2 ⟨b5_2, rfl, rfl⟩
      (first | refine wl_e0 (e_store0 (us := [_, _]) rfl rfl rfl (by kernel_rfl) (by simp [Value.oneCell']) rfl rfl) ?_ | refine wl_e0 (e_store1 (us := [_, _]) rfl rfl rfl (by kernel_rfl) (by simp [Value.oneCell']) rfl rfl) ?_ | refine wl_e0 (e_store2 (us := [_, _]) rfl rfl rfl (by kernel_rfl) (by simp [Value.oneCell']) rfl rfl) ?_ | refine wl_e0 (e_store3 (us := [_, _]) rfl rfl rfl (by kernel_rfl) (by simp [Value.oneCell']) rfl rfl) ?_)
      rintro _ _ w5_3 rfl
      refine wl_end [(4, _), (10, _), (11, _), (12, _)] ⟨rfl, rfl, rfl, rfl, trivial⟩ ?_
      refine w_seq ?_
      refine w_reg ?_
      refine wl_f (f_fieldAddr 0 rfl Try.underlying35 rfl rfl (by kernel_rfl)) ?_
      (first | refine wl_f (f_loadb 0 rfl Try.underlying9 rfl rfl rfl) ?_ | refine wl_f (f_loadb 1 rfl Try.underlying9 rfl rfl rfl) ?_ | refine wl_f (f_loadb 2 rfl Try.underlying9 rfl rfl rfl) ?_ | refine wl_f (f_loadb 3 rfl Try.underlying9 rfl rfl rfl) ?_ | refine wl_f (f_loadb 4 rfl Try.underlying9 rfl rfl rfl) ?_ | refine wl_f (f_loadb 5 rfl Try.underlying9 rfl rfl rfl) ?_ | refine wl_f (f_loadb 6 rfl Try.underlying9 rfl rfl rfl) ?_)
      refine wl_f (f_lens rfl Try.underlying9) ?_
      refine wl_f (f_gtr rfl rfl) ?_
      refine wl_f (f_move rfl) ?_
      refine wl_or (j := 4) (c := decide (200 < (tg.2.size : Int))) 4 [(10, _), (11, _), (12, _)] ⟨rfl, rfl, rfl, trivial⟩ rfl rfl rfl rfl rfl (fun hg6_9 => ?_) (fun w6_9 => ?_)
      · skip
        refine wl_gf rfl rfl (f_fieldAddr 1 rfl Try.underlying35 rfl rfl (by kernel_rfl)) ?_
        (first | refine wl_gf rfl rfl (f_loadb 0 rfl Try.underlying9 rfl rfl rfl) ?_ | refine wl_gf rfl rfl (f_loadb 1 rfl Try.underlying9 rfl rfl rfl) ?_ | refine wl_gf rfl rfl (f_loadb 2 rfl Try.underlying9 rfl rfl rfl) ?_ | refine wl_gf rfl rfl (f_loadb 3 rfl Try.underlying9 rfl rfl rfl) ?_ | refine wl_gf rfl rfl (f_loadb 4 rfl Try.underlying9 rfl rfl rfl) ?_ | refine wl_gf rfl rfl (f_loadb 5 rfl Try.underlying9 rfl rfl rfl) ?_ | refine wl_gf rfl rfl (f_loadb 6 rfl Try.underlying9 rfl rfl rfl) ?_)
        refine wl_gf rfl rfl (f_lens rfl Try.underlying9) ?_
        refine wl_gf rfl rfl (f_gtr rfl rfl) ?_
        exact wl_pend rfl rfl ⟨rfl, rfl, rfl, trivial⟩ (List.Sublist.refl _)
      refine wl_end [(10, _), (11, _), (12, _), (25, _)] ⟨rfl, rfl, rfl, rfl, trivial⟩ ?_
      refine w_ifb rfl (fun hc3 => ?_) (fun hc3 => ?_)
      · skip
        refine w_rm0 ?_
        refine w_seq ?_
        refine w_reg ?_
        refine wl_f (f_assign rfl) ?_
        refine wl_end [(2, _)] ⟨rfl, trivial⟩ ?_
        refine w_ret ?_
        refine ⟨_, _, fun a ha hh => results_tmps Try.results15 rfl a ha _, List.Sublist.refl _, ?_⟩
        exact ⟨false, rfl, (fun h => by cases h), rfl⟩
      · skip
        simp only [Bool.or_eq_true, decide_eq_true_eq] at hc3
        refine w_rm0 ?_
        refine w_skip ?_
        refine w_reg ?_
        refine wl_f (f_add rfl rfl (by omega)) ?_
        refine wl_f (f_move rfl) ?_
        refine wl_end [(10, _), (11, _), (12, _)] ⟨rfl, rfl, rfl, trivial⟩ ?_
        refine ⟨k - 1, by omega, i + 1, rfl, rfl, by omega, ?_⟩
        rw [take_snoc tags i tg htg]
        intro x hx
        rcases List.mem_append.1 hx with hx | hx
        · exact hok x hx
        · simp at hx; subst hx; omega
    · skip
      refine w_exit0 ?_
      refine w_seq ?_
      refine w_reg ?_
      refine wl_f (f_assign rfl) ?_
      refine wl_end [(2, _)] ⟨rfl, trivial⟩ ?_
      refine w_ret ?_
      refine ⟨_, _, fun a ha hh => results_tmps Try.results15 rfl a ha _, List.Sublist.refl _, ?_⟩
      exact ⟨true, rfl, (fun _ => ⟨by omega, by rw [List.take_of_length_le (by omega)] at hok; exact hok⟩), rfl⟩

theorem build_tag (a b : ByteArray) (w : World) : (Instr.build 35 [(0, .string a), (1, .string b)].toArray).run Try.prog w = .ok (.agg [.string a, .string b].toArray) w := by kernel_rfl
theorem build_ev (A : Option Addr) (l c : Nat) (t wt : Int) (w : World) : (Instr.build 25 [(0, .slice A l c), (1, .int .i64 t), (2, .int .u64 wt)].toArray).run Try.prog w = .ok (.agg [.slice A l c, .int .i64 t, .int .u64 wt].toArray) w := by kernel_rfl
def tg1 : Tg := (⟨#[97]⟩, ⟨#[98]⟩)
theorem enc1 : encEv [tg1] 5 300 = ([5, 172, 2, 1, 1, 97, 1, 98], 0) := by decide +kernel

set_option maxHeartbeats 400000 in
theorem awake_spec (w : World) : Spec Try.prog 16 [] w Nil fun r H => r = .bool true ∧ H = [] := by
  refine enter (n := 17) Try.func16 rfl rfl [] rfl trivial (Holds.start _ _) ?_
  refine w_seq ?_
  refine w_reg ?_
  refine wl_f (f_assign rfl) ?_
  refine wl_end [] trivial ?_
  refine w_seq ?_
  refine w_reg ?_
  refine wl_f (f_build rfl (fun w => build_tag _ _ w)) ?_
  refine wl_e (e_lit1 (cs := [_, _]) t22 rfl rfl rfl (by omega)) ?_
  rintro _ _ w1_1 ⟨b1_1, rfl, rfl⟩
  refine wl_f (f_build rfl (fun w => build_ev _ _ _ _ _ w)) ?_
  refine wl_e (e_call0 rfl Try.func19 (by kernel_rfl) (fun w hh => encode_spec _ [tg1] 5 300 w (Rd.held0 hh (i := 0) rfl) (by decide) (by decide) (by decide))) ?_
  rintro _ _ w1 ⟨_, rfl, v1, rfl, rfl, -⟩
  refine wl_f (f_move rfl) ?_
  refine wl_f (f_extract rfl rfl) ?_
  refine wl_f (f_extract rfl rfl) ?_
  refine wl_f (f_assign rfl) ?_
  refine wl_f (f_assign rfl) ?_
  refine wl_end [(1, _), (2, _)] ⟨rfl, rfl, trivial⟩ ?_
  refine w_seq ?_
  refine w_reg ?_
  refine wl_f (f_move rfl) ?_
  refine wl_f (f_eql rfl rfl) ?_
  refine wl_f (f_move rfl) ?_
  refine wl_and (j := 2) (c := decide ((encEv [tg1] 5 300).1 = [5, 172, 2, 1, 1, 97, 1, 98])) 3 [] trivial rfl rfl rfl rfl rfl (fun hg2_6 => ?_) (fun w2_6 => ?_)
  · skip
    refine wl_gf rfl rfl (f_move rfl) ?_
    refine wl_ge rfl rfl (e_litrow (e := 5) (sz := 1) (us := [(0, .int .u8 5), (1, .int .u8 172), (2, .int .u8 2), (3, .int .u8 1), (4, .int .u8 1), (5, .int .u8 97), (6, .int .u8 1), (7, .int .u8 98)]) (cs := bv [5, 172, 2, 1, 1, 97, 1, 98]) rfl (fun w => by kernel_rfl) rfl (by decide)) ?_
    rintro _ _ w2_4 ⟨b2_4, rfl, rfl⟩
    refine wl_ge rfl rfl (e_call0 rfl Try.func21 (by kernel_rfl) (fun w hh => same_spec _ _ _ [5, 172, 2, 1, 1, 97, 1, 98] w (Rd.held0 hh (i := 1) rfl) (Rd.held0 hh (i := 0) rfl) (by decide) (by decide))) ?_
    rintro _ _ w3 ⟨_, rfl, rfl, rfl⟩
    exact wl_pend rfl rfl trivial (List.sublist_cons_self ..)
  refine wl_f (f_assign rfl) ?_
  refine wl_end [(0, _)] ⟨rfl, trivial⟩ ?_
  refine w_drop [] (List.nil_sublist _) ?_
  refine w_ret ?_
  refine ⟨_, _, fun a ha hh => results_tmps Try.results16 rfl a ha _, List.Sublist.refl _, ?_⟩
  exact ⟨by rw [enc1]; rfl, rfl⟩
end Go.Proofs.Ythomfpfjcniknaa
