/- The reference's orders: inserting, raising. -/
import Derived.Test.YtkabdnijhjccoaaRR2
namespace Go.Proofs.Ytkabdnijhjccoaa
open Go.RowKit

theorem rfits_spec (a b : Nat) (w : World) (ha : a < 18446744073709551616) (hb : b < 18446744073709551616) : Spec Try.prog 76 [.int .u64 (a : Int), .int .u64 (b : Int)] w Nil fun r H =>
    r = .bool (decide (a + b ≤ 9223372036854775808)) ∧ H = [] := by
  refine enter (n := 13) Try.func76 rfl rfl [(0, _), (1, _)] rfl ⟨rfl, rfl, trivial⟩ (Holds.start _ _) ?_
  refine w_seq ?_
  refine w_reg ?_
  refine wl_f (f_assign rfl) ?_
  refine wl_end [(0, _), (1, _)] ⟨rfl, rfl, trivial⟩ ?_
  refine w_seq ?_
  refine w_reg ?_
  refine wl_f (f_move rfl) ?_
  refine wl_f (f_leq rfl rfl) ?_
  refine wl_f (f_move rfl) ?_
  refine wl_and (j := 2) (c := decide ((b : Int) ≤ 9223372036854775808 - a)) 4 [] trivial rfl rfl rfl rfl rfl (fun hg1_7 => ?_) (fun w1_7 => ?_)
  · skip
    refine wl_gf rfl rfl (f_move rfl) ?_
    refine wl_gf rfl rfl (f_move rfl) ?_
    have ha2 : (a : Int) ≤ 9223372036854775808 := of_decide_eq_true hg1_7
    refine wl_gf rfl rfl (f_subu rfl rfl (by omega)) ?_
    refine wl_gf rfl rfl (f_leq rfl rfl) ?_
    exact wl_pend rfl rfl trivial (List.Sublist.refl _)
  refine wl_f (f_assign rfl) ?_
  refine wl_end [(4, _)] ⟨rfl, trivial⟩ ?_
  refine w_ret ?_
  refine ⟨_, _, fun a ha hh => results_tmps Try.results76 rfl a ha _, List.Sublist.refl _, ?_⟩
  refine ⟨?_, rfl⟩
  show Value.bool _ = _
  congr 1
  rw [Bool.eq_iff_iff]
  simp only [Bool.and_eq_true, decide_eq_true_eq]
  omega
theorem orai_none {l : Ord} {z : Int} {k : Nat} (h : z ∉ ids l) : orai l z k = (8, l) := by simp only [orai, look_none.2 h]
theorem orai_some {A B : Ord} {z : Int} {c k : Nat} (h : z ∉ ids A) : orai (A ++ (z, c) :: B) z k = if c + k ≤ 9223372036854775808 then if k = 0 then (0, A ++ (z, c) :: B) else (0, ins (A ++ B) z (c + k)) else (12, A ++ (z, c) :: B) := by
  simp only [orai, look_at h, rem_at h]

set_option maxHeartbeats 2000000 in
theorem rfinsert_spec (q n : Nat) (l : Ord) (z : Int) (c : Nat) (r : Res) (w : World) (hl : l.length ≤ 8192) (hr : RfR q n l r) (hs : Holds w r.foot [r] w) :
    Spec Try.prog 56 [.pointer (some ⟨q, 0, .none⟩), .int .i64 z, .int .u64 (c : Int)] w r.foot fun v H => v = .int .i64 (oins n l z c).1 ∧ ∃ r', H = [r'] ∧ RfR q n (oins n l z c).2 r' := by
  obtain ⟨IV, CV, rfl⟩ := id hr
  refine enter (n := 27) Try.func56 rfl rfl [(0, _), (1, _), (2, _)] rfl ⟨rfl, rfl, rfl, trivial⟩ hs ?_
  refine w_seq ?_
  refine w_reg ?_
  refine wl_f (f_assign rfl) ?_
  refine wl_end [(0, _), (1, _), (2, _)] ⟨rfl, rfl, rfl, trivial⟩ ?_
  refine w_seq ?_
  refine w_seq ?_
  refine w_reg ?_
  refine wl_f (f_move rfl) ?_
  refine wl_f (f_lss rfl rfl) ?_
  refine wl_f (f_move rfl) ?_
  refine wl_or (j := 2) (c := decide ((n : Int) ≤ z)) 6 [(0, _), (1, _), (2, _)] ⟨rfl, rfl, rfl, trivial⟩ rfl rfl rfl rfl rfl (fun hg1_9 => ?_) (fun w1_9 => ?_)
  · skip
    refine wl_gf rfl rfl (f_move rfl) ?_
    refine wl_gf rfl rfl (f_move rfl) ?_
    refine wl_gf rfl rfl (f_nilCheck rfl) ?_
    refine wl_gf rfl rfl (f_fieldAddr 0 rfl Try.underlying79 rfl rfl (by kernel_rfl)) ?_
    refine wl_gf rfl rfl (f_loadB 0 0 rfl rfl rfl Try.underlying3 rfl rfl) ?_
    refine wl_gf rfl rfl (f_geq rfl rfl) ?_
    exact wl_pend rfl rfl ⟨rfl, rfl, rfl, trivial⟩ (List.Sublist.refl _)
  refine wl_end [(0, _), (1, _), (2, _), (16, _)] ⟨rfl, rfl, rfl, rfl, trivial⟩ ?_
  refine w_ifb rfl (fun hc1 => ?_) (fun hc1 => ?_)
  · skip
    have h1 : z < 0 ∨ (n : Int) ≤ z := by simpa [Bool.or_eq_true] using hc1
    have e1 : oins n l z c = (1, l) := if_pos h1
    refine w_seq ?_
    refine w_reg ?_
    refine wl_f (f_assign rfl) ?_
    refine wl_end [(6, _)] ⟨rfl, trivial⟩ ?_
    refine w_ret ?_
    refine ⟨_, _, fun a ha hh => results_tmps Try.results56 rfl a ha _, List.Sublist.refl _, ?_⟩
    rw [e1]; exact ⟨rfl, _, rfl, hr⟩
  · skip
    have h1 : ¬ (z < 0 ∨ (n : Int) ≤ z) := by simpa [Bool.or_eq_true] using hc1
    refine w_skip ?_
    refine w_seq ?_
    refine w_seq ?_
    refine w_reg ?_
    refine wl_f (f_move rfl) ?_
    refine wl_f (f_move rfl) ?_
    refine wl_e (e_call1 _ [] rfl Try.func74 (by kernel_rfl) (List.Perm.refl _) (fun w hh hs' => rfplace_spec q n l _ z w hl hr hs')) ?_
    rintro _ _ w3 ⟨_, rfl, rfl, y, rfl, hy⟩
    refine wl_f (f_geq rfl rfl) ?_
    refine wl_end [(0, _), (1, _), (2, _), (20, _)] ⟨rfl, rfl, rfl, rfl, trivial⟩ ?_
    refine w_ifd rfl (fun hc2 => ?_) (fun hc2 => ?_)
    · skip
      have h2 : z ∈ ids l := by
        obtain ⟨A, c', B, rfl, _, _⟩ := rpl_at hy (by omega)
        simp [ids]
      have e1 : oins n l z c = (10, l) := (if_neg h1).trans (if_pos h2)
      refine w_seq ?_
      refine w_reg ?_
      refine wl_f (f_assign rfl) ?_
      refine wl_end [(6, _)] ⟨rfl, trivial⟩ ?_
      refine w_ret ?_
      refine ⟨_, _, fun a ha hh => results_tmps Try.results56 rfl a ha _, List.Sublist.refl _, ?_⟩
      rw [e1]; exact ⟨rfl, _, rfl, hr⟩
    · skip
      have h2 : z ∉ ids l := rpl_no hy (by omega)
      refine w_skip ?_
      refine w_seq ?_
      refine w_seq ?_
      refine w_reg ?_
      refine wl_f (f_move rfl) ?_
      refine wl_f (f_gtr rfl rfl) ?_
      refine wl_end [(0, _), (1, _), (2, _), (22, _)] ⟨rfl, rfl, rfl, rfl, trivial⟩ ?_
      refine w_ifd rfl (fun hc3 => ?_) (fun hc3 => ?_)
      · skip
        have h3 : 9223372036854775808 < c := by
          have : (9223372036854775808 : Int) < c := hc3
          omega
        have e1 : oins n l z c = (12, l) := (if_neg h1).trans ((if_neg h2).trans (if_pos h3))
        refine w_seq ?_
        refine w_reg ?_
        refine wl_f (f_assign rfl) ?_
        refine wl_end [(6, _)] ⟨rfl, trivial⟩ ?_
        refine w_ret ?_
        refine ⟨_, _, fun a ha hh => results_tmps Try.results56 rfl a ha _, List.Sublist.refl _, ?_⟩
        rw [e1]; exact ⟨rfl, _, rfl, hr⟩
      · skip
        have h3 : ¬ 9223372036854775808 < c := fun h => hc3 (show (9223372036854775808 : Int) < c by omega)
        have e1 : oins n l z c = (0, ins l z c) := (if_neg h1).trans ((if_neg h2).trans (if_neg h3))
        refine w_skip ?_
        refine w_seq ?_
        refine w_reg ?_
        refine wl_f (f_move rfl) ?_
        refine wl_f (f_move rfl) ?_
        refine wl_f (f_move rfl) ?_
        refine wl_e (e_call1 _ [] rfl Try.func75 (by kernel_rfl) (List.Perm.refl _) (fun w hh hs' => rfput_spec q n l z c _ w hl hr hs')) ?_
        rintro _ _ w7 ⟨_, rfl, IV2, CV2, rfl⟩
        refine wl_bun (H := []) (rrs q n (ins l z c) IV2 CV2) ?_
        refine wl_end [] trivial ?_
        refine w_seq ?_
        refine w_reg ?_
        refine wl_f (f_assign rfl) ?_
        refine wl_end [(6, _)] ⟨rfl, trivial⟩ ?_
        refine w_ret ?_
        refine ⟨_, _, fun a ha hh => results_tmps Try.results56 rfl a ha _, List.Sublist.refl _, ?_⟩
        rw [e1]; exact ⟨rfl, _, rfl, _, _, rfl⟩

set_option maxHeartbeats 2000000 in
theorem rfraise_spec (q n : Nat) (l : Ord) (z : Int) (k : Nat) (r : Res) (w : World) (hk : k < 18446744073709551616) (hl : l.length ≤ 8192) (hcl : ∀ p ∈ l, p.2 ≤ 9223372036854775808) (hr : RfR q n l r) (hs : Holds w r.foot [r] w) :
    Spec Try.prog 57 [.pointer (some ⟨q, 0, .none⟩), .int .i64 z, .int .u64 (k : Int)] w r.foot fun v H => v = .int .i64 (orai l z k).1 ∧ ∃ r', H = [r'] ∧ RfR q n (orai l z k).2 r' := by
  obtain ⟨IV, CV, rfl⟩ := id hr
  refine enter (n := 39) Try.func57 rfl rfl [(0, _), (1, _), (2, _)] rfl ⟨rfl, rfl, rfl, trivial⟩ hs ?_
  refine w_seq ?_
  refine w_reg ?_
  refine wl_f (f_assign rfl) ?_
  refine wl_end [(0, _), (1, _), (2, _)] ⟨rfl, rfl, rfl, trivial⟩ ?_
  refine w_seq ?_
  refine w_reg ?_
  refine wl_f (f_move rfl) ?_
  refine wl_f (f_move rfl) ?_
  refine wl_e (e_call1 _ [] rfl Try.func74 (by kernel_rfl) (List.Perm.refl _) (fun w hh hs' => rfplace_spec q n l _ z w hl hr hs')) ?_
  rintro _ _ w1 ⟨_, rfl, rfl, y, rfl, hy⟩
  refine wl_f (f_assign rfl) ?_
  refine wl_end [(0, _), (1, _), (2, _), (7, _)] ⟨rfl, rfl, rfl, rfl, trivial⟩ ?_
  refine w_seq ?_
  refine w_seq ?_
  refine w_reg ?_
  refine wl_f (f_move rfl) ?_
  refine wl_f (f_lss rfl rfl) ?_
  refine wl_end [(0, _), (1, _), (2, _), (7, _), (14, _)] ⟨rfl, rfl, rfl, rfl, rfl, trivial⟩ ?_
  refine w_ifd rfl (fun hc1 => ?_) (fun hc1 => ?_)
  · skip
    have e1 := orai_none (k := k) (rpl_no hy hc1)
    refine w_seq ?_
    refine w_reg ?_
    refine wl_f (f_assign rfl) ?_
    refine wl_end [(6, _)] ⟨rfl, trivial⟩ ?_
    refine w_ret ?_
    refine ⟨_, _, fun a ha hh => results_tmps Try.results57 rfl a ha _, List.Sublist.refl _, ?_⟩
    rw [e1]; exact ⟨rfl, _, rfl, hr⟩
  · skip
    obtain ⟨A, c, B, rfl, hzA, rfl⟩ := rpl_at hy hc1
    have hAl : (A ++ (z, c) :: B).length = A.length + B.length + 1 := by simp; omega
    have hc : c ≤ 9223372036854775808 := hcl (z, c) (by simp)
    have e0 := orai_some (B := B) (c := c) (k := k) hzA
    refine w_with fun hh => ?_
    obtain ⟨g, cap, e⟩ := rowB_form hh (i := 0) (j := 2) rfl rfl (by omega)
    subst e
    clear hh
    refine w_skip ?_
    refine w_seq ?_
    refine w_seq ?_
    refine w_reg ?_
    refine wl_f (f_move rfl) ?_
    refine wl_f (f_nilCheck rfl) ?_
    refine wl_f (f_fieldAddr 2 rfl Try.underlying79 rfl rfl (by kernel_rfl)) ?_
    refine wl_f (f_loadB 0 0 rfl rfl rfl Try.underlying77 rfl rfl) ?_
    refine wl_f (f_move rfl) ?_
    refine wl_f (f_indexAddr 1 (i := A.length) rfl rfl Try.underlying77 (by kernel_rfl) rfl (by omega)) ?_
    refine wl_f (f_loadBr (v := .int .u64 c) 0 2 rfl rfl rfl Try.underlying63 rfl (map_get (fun c : Nat => Value.int .u64 (c : Int)) get_cnt)) ?_
    refine wl_f (f_move rfl) ?_
    refine wl_e (e_call0 rfl Try.func76 (by kernel_rfl) (fun w hh => rfits_spec c k w (by omega) hk)) ?_
    rintro _ _ w4 ⟨_, rfl, rfl, rfl⟩
    refine wl_f (f_not rfl rfl) ?_
    refine wl_end [(0, _), (1, _), (2, _), (24, _)] ⟨rfl, rfl, rfl, rfl, trivial⟩ ?_
    refine w_ifb rfl (fun hc2 => ?_) (fun hc2 => ?_)
    · skip
      have h2 : ¬ c + k ≤ 9223372036854775808 := by simpa using hc2
      rw [if_neg h2] at e0
      refine w_seq ?_
      refine w_reg ?_
      refine wl_f (f_assign rfl) ?_
      refine wl_end [(6, _)] ⟨rfl, trivial⟩ ?_
      refine w_ret ?_
      refine ⟨_, _, fun a ha hh => results_tmps Try.results57 rfl a ha _, List.Sublist.refl _, ?_⟩
      rw [e0]; exact ⟨rfl, _, rfl, hr⟩
    · skip
      have h2 : c + k ≤ 9223372036854775808 := by simpa using hc2
      rw [if_pos h2] at e0
      refine w_skip ?_
      refine w_seq ?_
      refine w_seq ?_
      refine w_reg ?_
      refine wl_f (f_move rfl) ?_
      refine wl_f (f_gtr rfl rfl) ?_
      refine wl_end [(0, _), (1, _), (2, _), (26, _)] ⟨rfl, rfl, rfl, rfl, trivial⟩ ?_
      refine w_post (fun m H w' => ∃ r', m = [] ∧ H = [r'] ∧ RfR q n (orai (A ++ (z, c) :: B) z k).2 r' ∧ (orai (A ++ (z, c) :: B) z k).1 = 0) ?_ ?_
      · skip
        refine w_ifd rfl (fun hc3 => ?_) (fun hc3 => ?_)
        · skip
          have h3 : ¬ k = 0 := by
            have : (0 : Int) < (k : Int) := hc3
            omega
          rw [if_neg h3] at e0
          have erem : orem (A ++ (z, c) :: B) z = (c, 0, A ++ B) := by simp only [orem, look_at hzA, rem_at hzA]
          refine w_seq ?_
          refine w_reg ?_
          refine wl_f (f_move rfl) ?_
          refine wl_f (f_move rfl) ?_
          refine wl_e (e_call1 _ [] rfl Try.func58 (by kernel_rfl) (List.Perm.refl _) (fun w hh hs' => rfremove_spec q n _ z _ w hl hr hs')) ?_
          rw [erem]
          rintro _ _ w7 ⟨_, rfl, rfl, r2, rfl, hr2⟩
          refine wl_f (f_move rfl) ?_
          refine wl_f (f_extract rfl rfl) ?_
          refine wl_f (f_extract rfl rfl) ?_
          refine wl_f (f_assign rfl) ?_
          refine wl_f (f_assign rfl) ?_
          refine wl_end [(0, _), (1, _), (2, _), (8, _)] ⟨rfl, rfl, rfl, rfl, trivial⟩ ?_
          refine w_reg ?_
          refine wl_f (f_move rfl) ?_
          refine wl_f (f_move rfl) ?_
          refine wl_f (f_move rfl) ?_
          refine wl_f (f_move rfl) ?_
          refine wl_f (f_eqv (v' := .int .u64 ((c + k : Nat) : Int)) (f_addu rfl rfl (by omega)) (by rw [Int.natCast_add])) ?_
          refine wl_e (e_call1 r2 [] rfl Try.func75 (by kernel_rfl) (List.Perm.refl _) (fun w hh hs' => rfput_spec q n (A ++ B) z (c + k) r2 w (by rw [List.length_append]; omega) hr2 hs')) ?_
          rintro _ _ w8 ⟨_, rfl, IV2, CV2, rfl⟩
          refine wl_bun (H := []) (rrs q n (ins (A ++ B) z (c + k)) IV2 CV2) ?_
          refine wl_end [] trivial ?_
          rw [e0]; exact ⟨_, rfl, rfl, ⟨_, _, rfl⟩, rfl⟩
        · skip
          have h3 : k = 0 := by
            have : ¬ (0 : Int) < (k : Int) := hc3
            omega
          rw [if_pos h3] at e0
          refine w_sub [] trivial (w_skip ?_)
          rw [e0]; exact ⟨_, rfl, rfl, hr, rfl⟩
      · rintro _ _ w9 ⟨r', rfl, rfl, hr', he'⟩
        refine w_seq ?_
        refine w_reg ?_
        refine wl_f (f_assign rfl) ?_
        refine wl_end [(6, _)] ⟨rfl, trivial⟩ ?_
        refine w_ret ?_
        refine ⟨_, _, fun a ha hh => results_tmps Try.results57 rfl a ha _, List.Sublist.refl _, ?_⟩
        rw [he']; exact ⟨rfl, _, rfl, hr'⟩
end Go.Proofs.Ytkabdnijhjccoaa
