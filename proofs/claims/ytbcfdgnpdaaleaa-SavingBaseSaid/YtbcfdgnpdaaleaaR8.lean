/- Orders by count: raising, removing, counting, the least one. -/
import Derived.Test.YtbcfdgnpdaaleaaR7
namespace Go.Proofs.Ytbcfdgnpdaaleaa
open Go.RowKit

theorem look_some_mem {l : Ord} {z : Int} {c : Nat} (h : look l z = some c) : z ∈ ids l := by
  refine Classical.byContradiction fun hn => ?_
  rw [look_none.2 hn] at h
  cases h

set_option maxHeartbeats 1000000 in
theorem rkcount_spec (b n : Nat) (l : Ord) (r : Res) (z : Int) (w : World) (hr : RkO b n l r) (hs : Holds w r.foot [r] w) :
    Spec Try.prog 31 [.pointer (some ⟨b, 0, .none⟩), .int .i64 z] w r.foot fun v H => v = .tuple #[.int .u64 (((look l z).getD 0 : Nat) : Int), .bool (look l z).isSome] ∧ H = [r] := by
  obtain ⟨S, rfl, hr⟩ := hr
  obtain ⟨hn1, hn2, B, pV, pl, rB, rs, rfl, hrB, hrs, hI⟩ := id hr
  refine enter (n := 21) Try.func31 rfl rfl [(0, _), (1, _)] rfl ⟨rfl, rfl, trivial⟩ hs ?_
  refine w_seq ?_
  refine w_reg ?_
  refine wl_f (f_assign rfl) ?_
  refine wl_f (f_assign rfl) ?_
  refine wl_end [(0, _), (1, _)] ⟨rfl, rfl, trivial⟩ ?_
  refine w_seq ?_
  refine w_seq ?_
  refine w_reg ?_
  refine wl_f (f_move rfl) ?_
  refine wl_f (f_move rfl) ?_
  refine wl_e (e_call1 _ [] rfl Try.func39 (by kernel_rfl) (List.Perm.refl _) (fun w hh hs' => rkhas_spec b n S _ z w hr hs')) ?_
  rintro _ _ w1 ⟨_, rfl, rfl, rfl⟩
  refine wl_f (f_not rfl rfl) ?_
  refine wl_end [(0, _), (1, _), (9, _)] ⟨rfl, rfl, rfl, trivial⟩ ?_
  refine w_ifb rfl (fun hc1 => ?_) (fun hc1 => ?_)
  · skip
    have h1 : z ∉ ids (flat S) := by simpa using hc1
    refine w_seq ?_
    refine w_reg ?_
    refine wl_f (f_assign rfl) ?_
    refine wl_f (f_assign rfl) ?_
    refine wl_end [(4, _), (5, _)] ⟨rfl, rfl, trivial⟩ ?_
    refine w_ret ?_
    refine ⟨_, _, fun a ha hh => results_tmps Try.results31 rfl a ha _, List.Sublist.refl _, ?_⟩
    rw [look_none.2 h1]; exact ⟨rfl, rfl⟩
  · skip
    have h1 : z ∈ ids (flat S) := by simpa using hc1
    obtain ⟨A, s, C, I, y, J, rfl, hsI⟩ := find_bk h1
    have hz := hI.rng _ h1
    obtain ⟨x, rfl⟩ : ∃ x : Nat, z = x := ⟨z.toNat, by omega⟩
    have hat : pl[x]? = some (some (s.1, y)) := by
      have := hI.at_ s (by simp) (y, (x : Int)) (by rw [hsI]; simp)
      simpa using this
    have hlk := (rem_take hI hsI).2
    refine w_with fun hh => ?_
    obtain ⟨g, cp, rfl⟩ := rowB_form hh (i := 0) (j := 1) rfl rfl (by omega)
    clear hh
    refine w_skip ?_
    refine w_seq ?_
    refine w_reg ?_
    refine wl_f (f_move rfl) ?_
    refine wl_f (f_move rfl) ?_
    refine wl_f (f_nilCheck rfl) ?_
    refine wl_f (f_fieldAddr 3 rfl Try.underlying92 rfl rfl (by kernel_rfl)) ?_
    refine wl_f (f_loadB 0 0 rfl rfl rfl Try.underlying90 rfl rfl) ?_
    refine wl_f (f_move rfl) ?_
    refine wl_f (f_indexAddr 3 (i := x) rfl rfl Try.underlying90 (by kernel_rfl) rfl (by omega)) ?_
    refine wl_f (f_fieldAddr 1 rfl Try.underlying102 rfl rfl (by kernel_rfl)) ?_
    refine wl_f (f_loadBr (v := .int .i64 s.1) 0 1 rfl rfl rfl Try.underlying3 rfl (pcells_bucket hat)) ?_
    refine wl_e (e_call1 _ [] rfl Try.func40 (by kernel_rfl) (List.Perm.refl _) (fun w hh hs' => rkof_spec b n A s C _ w hr hs')) ?_
    rintro _ _ w3 ⟨_, rfl, rfl, rfl⟩
    refine wl_f (f_field rfl Try.underlying89 rfl Try.underlying30 rfl rfl) ?_
    refine wl_f (f_assign rfl) ?_
    refine wl_f (f_assign rfl) ?_
    refine wl_end [(4, _), (5, _)] ⟨rfl, rfl, trivial⟩ ?_
    refine w_ret ?_
    refine ⟨_, _, fun a ha hh => results_tmps Try.results31 rfl a ha _, List.Sublist.refl _, ?_⟩
    rw [hlk]; exact ⟨rfl, rfl⟩

set_option maxHeartbeats 1000000 in
theorem rkremove_spec (b n : Nat) (l : Ord) (r : Res) (z : Int) (w : World) (hr : RkO b n l r) (hs : Holds w r.foot [r] w) :
    Spec Try.prog 48 [.pointer (some ⟨b, 0, .none⟩), .int .i64 z] w r.foot fun v H => v = .tuple #[.int .u64 ((orem l z).1 : Int), .int .i64 (orem l z).2.1] ∧ ∃ r', H = [r'] ∧ RkO b n (orem l z).2.2 r' := by
  obtain ⟨S, rfl, hr⟩ := hr
  have hO : RkO b n (flat S) r := ⟨S, rfl, hr⟩
  obtain ⟨hn1, hn2, B, pV, pl, rB, rs, rfl, hrB, hrs, hI⟩ := id hr
  refine enter (n := 19) Try.func48 rfl rfl [(0, _), (1, _)] rfl ⟨rfl, rfl, trivial⟩ hs ?_
  refine w_seq ?_
  refine w_reg ?_
  refine wl_f (f_assign rfl) ?_
  refine wl_f (f_assign rfl) ?_
  refine wl_end [(0, _), (1, _)] ⟨rfl, rfl, trivial⟩ ?_
  refine w_seq ?_
  refine w_seq ?_
  refine w_reg ?_
  refine wl_f (f_move rfl) ?_
  refine wl_f (f_move rfl) ?_
  refine wl_e (e_call1 _ [] rfl Try.func39 (by kernel_rfl) (List.Perm.refl _) (fun w hh hs' => rkhas_spec b n S _ z w hr hs')) ?_
  rintro _ _ w1 ⟨_, rfl, rfl, rfl⟩
  refine wl_f (f_not rfl rfl) ?_
  refine wl_end [(0, _), (1, _), (11, _)] ⟨rfl, rfl, rfl, trivial⟩ ?_
  refine w_ifb rfl (fun hc1 => ?_) (fun hc1 => ?_)
  · skip
    have h1 : z ∉ ids (flat S) := by simpa using hc1
    have e1 : orem (flat S) z = (0, 8, flat S) := by rw [orem, look_none.2 h1]
    refine w_seq ?_
    refine w_reg ?_
    refine wl_f (f_assign rfl) ?_
    refine wl_f (f_assign rfl) ?_
    refine wl_end [(4, _), (5, _)] ⟨rfl, rfl, trivial⟩ ?_
    refine w_ret ?_
    refine ⟨_, _, fun a ha hh => results_tmps Try.results48 rfl a ha _, List.Sublist.refl _, ?_⟩
    rw [e1]; exact ⟨rfl, _, rfl, hO⟩
  · skip
    have h1 : z ∈ ids (flat S) := by simpa using hc1
    obtain ⟨A, s, C, I, y, J, rfl, hsI⟩ := find_bk h1
    have hz := hI.rng _ h1
    obtain ⟨x, rfl⟩ : ∃ x : Nat, z = x := ⟨z.toNat, by omega⟩
    have e1 : orem (flat (A ++ s :: C)) (x : Int) = (s.2.1, 0, rem (flat (A ++ s :: C)) x) := by rw [orem, (rem_take hI hsI).2]
    refine w_skip ?_
    refine w_seq ?_
    refine w_reg ?_
    refine wl_f (f_move rfl) ?_
    refine wl_f (f_move rfl) ?_
    refine wl_e (e_call1 _ [] rfl Try.func41 (by kernel_rfl) (List.Perm.refl _) (fun w hh hs' => rktake_spec b n A s C I J y x _ w hsI hr hs')) ?_
    rintro _ _ w3 ⟨_, rfl, rfl, C', r', rfl, hr', hfl⟩
    refine wl_f (f_move rfl) ?_
    refine wl_f (f_extract rfl rfl) ?_
    refine wl_f (f_extract rfl rfl) ?_
    refine wl_f (f_assign rfl) ?_
    refine wl_f (f_assign rfl) ?_
    refine wl_end [(6, _)] ⟨rfl, trivial⟩ ?_
    refine w_seq ?_
    refine w_reg ?_
    refine wl_f (f_move rfl) ?_
    refine wl_f (f_assign rfl) ?_
    refine wl_f (f_assign rfl) ?_
    refine wl_end [(4, _), (5, _)] ⟨rfl, rfl, trivial⟩ ?_
    refine w_ret ?_
    refine ⟨_, _, fun a ha hh => results_tmps Try.results48 rfl a ha _, List.Sublist.refl _, ?_⟩
    rw [e1]; exact ⟨rfl, _, rfl, _, hfl.symm, hr'⟩

set_option maxHeartbeats 2000000 in
theorem rkraise_spec (b n : Nat) (l : Ord) (r : Res) (z : Int) (k : Nat) (w : World) (hk : k < 18446744073709551616) (hr : RkO b n l r) (hs : Holds w r.foot [r] w) :
    Spec Try.prog 25 [.pointer (some ⟨b, 0, .none⟩), .int .i64 z, .int .u64 (k : Int)] w r.foot fun v H => v = .int .i64 (orai l z k).1 ∧ ∃ r', H = [r'] ∧ (k = 0 → r' = r) ∧ RkO b n (orai l z k).2 r' := by
  obtain ⟨S, rfl, hr⟩ := hr
  have hO : RkO b n (flat S) r := ⟨S, rfl, hr⟩
  obtain ⟨hn1, hn2, B, pV, pl, rB, rs, rfl, hrB, hrs, hI⟩ := id hr
  refine enter (n := 44) Try.func25 rfl rfl [(0, _), (1, _), (2, _)] rfl ⟨rfl, rfl, rfl, trivial⟩ hs ?_
  refine w_seq ?_
  refine w_reg ?_
  refine wl_f (f_assign rfl) ?_
  refine wl_end [(0, _), (1, _), (2, _)] ⟨rfl, rfl, rfl, trivial⟩ ?_
  refine w_seq ?_
  refine w_seq ?_
  refine w_reg ?_
  refine wl_f (f_move rfl) ?_
  refine wl_f (f_move rfl) ?_
  refine wl_e (e_call1 _ [] rfl Try.func39 (by kernel_rfl) (List.Perm.refl _) (fun w hh hs' => rkhas_spec b n S _ z w hr hs')) ?_
  rintro _ _ w1 ⟨_, rfl, rfl, rfl⟩
  refine wl_f (f_not rfl rfl) ?_
  refine wl_end [(0, _), (1, _), (2, _), (13, _)] ⟨rfl, rfl, rfl, rfl, trivial⟩ ?_
  refine w_ifb rfl (fun hc1 => ?_) (fun hc1 => ?_)
  · skip
    have h1 : z ∉ ids (flat S) := by simpa using hc1
    have e1 : orai (flat S) z k = (8, flat S) := by rw [orai, look_none.2 h1]
    refine w_seq ?_
    refine w_reg ?_
    refine wl_f (f_assign rfl) ?_
    refine wl_end [(6, _)] ⟨rfl, trivial⟩ ?_
    refine w_ret ?_
    refine ⟨_, _, fun a ha hh => results_tmps Try.results25 rfl a ha _, List.Sublist.refl _, ?_⟩
    rw [e1]; exact ⟨rfl, _, rfl, fun _ => rfl, hO⟩
  · skip
    have h1 : z ∈ ids (flat S) := by simpa using hc1
    obtain ⟨A, s, C, I, y, J, rfl, hsI⟩ := find_bk h1
    have hz := hI.rng _ h1
    obtain ⟨x, rfl⟩ : ∃ x : Nat, z = x := ⟨z.toNat, by omega⟩
    have hat : pl[x]? = some (some (s.1, y)) := by
      have := hI.at_ s (by simp) (y, (x : Int)) (by rw [hsI]; simp)
      simpa using this
    have hcs := hI.cnt s (by simp)
    have e0 : orai (flat (A ++ s :: C)) (x : Int) k = if s.2.1 + k ≤ 9223372036854775808 then if k = 0 then (0, flat (A ++ s :: C)) else (0, ins (rem (flat (A ++ s :: C)) x) x (s.2.1 + k)) else (12, flat (A ++ s :: C)) := by
      rw [orai, (rem_take hI hsI).2]
    refine w_with fun hh => ?_
    obtain ⟨g, cp, rfl⟩ := rowB_form hh (i := 0) (j := 1) rfl rfl (by omega)
    clear hh
    refine w_skip ?_
    refine w_seq ?_
    refine w_reg ?_
    refine wl_f (f_move rfl) ?_
    refine wl_f (f_move rfl) ?_
    refine wl_f (f_nilCheck rfl) ?_
    refine wl_f (f_fieldAddr 3 rfl Try.underlying92 rfl rfl (by kernel_rfl)) ?_
    refine wl_f (f_loadB 0 0 rfl rfl rfl Try.underlying90 rfl rfl) ?_
    refine wl_f (f_move rfl) ?_
    refine wl_f (f_indexAddr 3 (i := x) rfl rfl Try.underlying90 (by kernel_rfl) rfl (by omega)) ?_
    refine wl_f (f_fieldAddr 1 rfl Try.underlying102 rfl rfl (by kernel_rfl)) ?_
    refine wl_f (f_loadBr (v := .int .i64 s.1) 0 1 rfl rfl rfl Try.underlying3 rfl (pcells_bucket hat)) ?_
    refine wl_e (e_call1 _ [] rfl Try.func40 (by kernel_rfl) (List.Perm.refl _) (fun w hh hs' => rkof_spec b n A s C _ w hr hs')) ?_
    rintro _ _ w3 ⟨_, rfl, rfl, rfl⟩
    refine wl_f (f_field rfl Try.underlying89 rfl Try.underlying30 rfl rfl) ?_
    refine wl_f (f_assign rfl) ?_
    refine wl_end [(0, _), (1, _), (2, _), (7, _)] ⟨rfl, rfl, rfl, rfl, trivial⟩ ?_
    refine w_seq ?_
    refine w_seq ?_
    refine w_reg ?_
    refine wl_f (f_move rfl) ?_
    refine wl_f (f_move rfl) ?_
    refine wl_e (e_call0 rfl Try.func23 (by kernel_rfl) (fun w hh => satfits_spec s.2.1 k w (by omega) hk)) ?_
    rintro _ _ w4 ⟨_, rfl, rfl, rfl⟩
    refine wl_f (f_not rfl rfl) ?_
    refine wl_end [(0, _), (1, _), (2, _), (7, _), (28, _)] ⟨rfl, rfl, rfl, rfl, rfl, trivial⟩ ?_
    refine w_ifb rfl (fun hc2 => ?_) (fun hc2 => ?_)
    · skip
      have h2 : ¬ s.2.1 + k ≤ 9223372036854775808 := by simpa using hc2
      rw [if_neg h2] at e0
      refine w_seq ?_
      refine w_reg ?_
      refine wl_f (f_assign rfl) ?_
      refine wl_end [(6, _)] ⟨rfl, trivial⟩ ?_
      refine w_ret ?_
      refine ⟨_, _, fun a ha hh => results_tmps Try.results25 rfl a ha _, List.Sublist.refl _, ?_⟩
      rw [e0]; exact ⟨rfl, _, rfl, fun _ => rfl, hO⟩
    · skip
      have h2 : s.2.1 + k ≤ 9223372036854775808 := by simpa using hc2
      rw [if_pos h2] at e0
      refine w_skip ?_
      refine w_seq ?_
      refine w_seq ?_
      refine w_reg ?_
      refine wl_f (f_move rfl) ?_
      refine wl_f (f_eql rfl rfl) ?_
      refine wl_end [(0, _), (1, _), (2, _), (7, _), (30, _)] ⟨rfl, rfl, rfl, rfl, rfl, trivial⟩ ?_
      refine w_ifd rfl (fun hc3 => ?_) (fun hc3 => ?_)
      · skip
        have h3 : k = 0 := by
          have : (k : Int) = 0 := hc3
          omega
        rw [if_pos h3] at e0
        refine w_seq ?_
        refine w_reg ?_
        refine wl_f (f_assign rfl) ?_
        refine wl_end [(6, _)] ⟨rfl, trivial⟩ ?_
        refine w_ret ?_
        refine ⟨_, _, fun a ha hh => results_tmps Try.results25 rfl a ha _, List.Sublist.refl _, ?_⟩
        rw [e0]; exact ⟨rfl, _, rfl, fun _ => rfl, hO⟩
      · skip
        have h3 : ¬ k = 0 := fun h => hc3 (by rw [h]; rfl)
        rw [if_neg h3] at e0
        refine w_skip ?_
        refine w_seq ?_
        refine w_reg ?_
        refine wl_f (f_move rfl) ?_
        refine wl_f (f_move rfl) ?_
        refine wl_e (e_call1 _ [] rfl Try.func41 (by kernel_rfl) (List.Perm.refl _) (fun w hh hs' => rktake_spec b n A s C I J y x _ w hsI hr hs')) ?_
        rintro _ _ w8 ⟨_, rfl, rfl, C', r', rfl, hr', hfl⟩
        refine wl_f (f_move rfl) ?_
        refine wl_f (f_extract rfl rfl) ?_
        refine wl_f (f_extract rfl rfl) ?_
        refine wl_f (f_assign rfl) ?_
        refine wl_f (f_assign rfl) ?_
        refine wl_end [(0, _), (1, _), (2, _), (7, _), (9, _)] ⟨rfl, rfl, rfl, rfl, rfl, trivial⟩ ?_
        refine w_seq ?_
        refine w_reg ?_
        refine wl_f (f_move rfl) ?_
        refine wl_f (f_move rfl) ?_
        refine wl_f (f_move rfl) ?_
        refine wl_f (f_move rfl) ?_
        refine wl_f (f_eqv (v' := .int .u64 ((s.2.1 + k : Nat) : Int)) (f_addu rfl rfl (by omega)) (by rw [Int.natCast_add])) ?_
        refine wl_f (f_move rfl) ?_
        refine wl_e (e_call1 _ [] rfl Try.func42 (by kernel_rfl) (List.Perm.refl _) (fun w hh hs' => rkput_spec b n A C' _ x (s.2.1 + k) w (by omega) (by rw [hfl]; exact rem_notin hI.nid) h2 (fun t ht => by have := (asc_split hI.asc).1 t ht; omega) hr' hs')) ?_
        rintro _ _ w9 ⟨_, rfl, rfl, r2, rfl, hr2⟩
        refine wl_f (f_assign rfl) ?_
        refine wl_end [(6, _)] ⟨rfl, trivial⟩ ?_
        refine w_ret ?_
        refine ⟨_, _, fun a ha hh => results_tmps Try.results25 rfl a ha _, List.Sublist.refl _, ?_⟩
        rw [e0]; exact ⟨rfl, _, rfl, fun h => absurd h h3, hfl ▸ hr2⟩

def oleast : Ord → Value
  | [] => .tuple #[.int .i64 0, .int .u64 0, .bool false]
  | p :: _ => .tuple #[.int .i64 p.1, .int .u64 (p.2 : Int), .bool true]
set_option maxHeartbeats 2000000 in
theorem rkleast_spec (b n : Nat) (l : Ord) (r : Res) (w : World) (hr : RkO b n l r) (hs : Holds w r.foot [r] w) :
    Spec Try.prog 43 [.pointer (some ⟨b, 0, .none⟩)] w r.foot fun v H => v = oleast l ∧ H = [r] := by
  obtain ⟨S, rfl, hr⟩ := hr
  obtain ⟨hn1, hn2, B, pV, pl, rB, rs, rfl, hrB, hrs, hI⟩ := id hr
  refine enter (n := 34) Try.func43 rfl rfl [(0, _)] rfl ⟨rfl, trivial⟩ hs ?_
  refine w_seq ?_
  refine w_reg ?_
  refine wl_f (f_assign rfl) ?_
  refine wl_f (f_assign rfl) ?_
  refine wl_f (f_assign rfl) ?_
  refine wl_end [(0, _)] ⟨rfl, trivial⟩ ?_
  refine w_seq ?_
  refine w_seq ?_
  refine w_reg ?_
  refine wl_f (f_move rfl) ?_
  refine wl_f (f_eqlnil rfl rfl Try.underlying56) ?_
  refine wl_f (f_move rfl) ?_
  refine wl_or (j := 2) (c := decide (((flat S).length : Int) = 0)) 5 [(0, _)] ⟨rfl, trivial⟩ rfl rfl rfl rfl rfl (fun hg1_8 => ?_) (fun w1_8 => ?_)
  · skip
    refine wl_gf rfl rfl (f_move rfl) ?_
    refine wl_gf rfl rfl (f_nilCheck rfl) ?_
    refine wl_gf rfl rfl (f_fieldAddr 1 rfl Try.underlying92 rfl rfl (by kernel_rfl)) ?_
    refine wl_gf rfl rfl (f_loadB 0 0 rfl rfl rfl Try.underlying3 rfl rfl) ?_
    refine wl_gf rfl rfl (f_eql rfl rfl) ?_
    exact wl_pend rfl rfl ⟨rfl, trivial⟩ (List.Sublist.refl _)
  refine wl_end [(0, _), (14, _)] ⟨rfl, rfl, trivial⟩ ?_
  refine w_ifb rfl (fun hc1 => ?_) (fun hc1 => ?_)
  · skip
    have h1 : flat S = [] := by simpa using hc1
    refine w_seq ?_
    refine w_reg ?_
    refine wl_f (f_assign rfl) ?_
    refine wl_f (f_assign rfl) ?_
    refine wl_f (f_assign rfl) ?_
    refine wl_end [(2, _), (3, _), (4, _)] ⟨rfl, rfl, rfl, trivial⟩ ?_
    refine w_ret ?_
    refine ⟨_, _, fun a ha hh => results_tmps Try.results43 rfl a ha _, List.Sublist.refl _, ?_⟩
    rw [h1]; exact ⟨rfl, rfl⟩
  · skip
    have h1 : flat S ≠ [] := by simpa using hc1
    obtain ⟨s, C, rfl⟩ : ∃ s C, S = s :: C := by
      cases S with
      | nil => exact absurd rfl h1
      | cons s C => exact ⟨s, C, rfl⟩
    obtain ⟨y, z, J, hsI⟩ : ∃ y z J, s.2.2.2 = (y, z) :: J := by
      cases e : s.2.2.2 with
      | nil => exact absurd e (hI.ne s (List.mem_cons_self ..))
      | cons p J => exact ⟨p.1, p.2, J, rfl⟩
    obtain ⟨ri, rc, rfl, hri, hrc⟩ := hrs.cons_inv
    rw [hsI] at hri
    have hfl : flat (s :: C) = (z, s.2.1) :: (J.map (fun p => (p.2, s.2.1)) ++ flat C) := by rw [flat_cons, bfl, hsI]; rfl
    refine w_unb (rkg b n _ B pV pl rB (ri :: rc)) ?_
    refine w_pick [2, 0, 0, 0] rfl ?_
    refine w_skip ?_
    refine w_seq ?_
    refine w_reg ?_
    refine wl_f (f_move rfl) ?_
    refine wl_f (f_move rfl) ?_
    refine wl_f (f_nilCheck rfl) ?_
    refine wl_f (f_fieldAddr 2 rfl Try.underlying92 rfl rfl (by kernel_rfl)) ?_
    (first | refine wl_f (f_loadb 0 rfl Try.underlying84 rfl rfl rfl) ?_ | refine wl_f (f_loadb 1 rfl Try.underlying84 rfl rfl rfl) ?_ | refine wl_f (f_loadb 2 rfl Try.underlying84 rfl rfl rfl) ?_ | refine wl_f (f_loadb 3 rfl Try.underlying84 rfl rfl rfl) ?_ | refine wl_f (f_loadb 4 rfl Try.underlying84 rfl rfl rfl) ?_ | refine wl_f (f_loadb 5 rfl Try.underlying84 rfl rfl rfl) ?_ | refine wl_f (f_loadb 6 rfl Try.underlying84 rfl rfl rfl) ?_)
    refine wl_e (e_call1 rB [_, _, _] rfl Try.func57 (by kernel_rfl) (pk1 0 rfl) (fun w hh hs' => bfirst_spec B n _ rB w hrB hs')) ?_
    rintro _ _ w3 ⟨_, rfl, rfl, rfl⟩
    refine wl_pick [1, 1, 0, 0] rfl ?_
    refine wl_bun (H := []) [_, _, _, _] ?_
    refine wl_e (e_call1 (bun (rkg b n _ B pV pl rB (ri :: rc))) [] rfl Try.func40 (by kernel_rfl) (List.Perm.refl _) (fun w hh hs' => rkof_spec b n [] s C _ w hr hs')) ?_
    rintro _ _ w4 ⟨_, rfl, rfl, rfl⟩
    refine wl_e (e_allocs [.int .u64 0, .pointer .none] (by kernel_rfl)) ?_
    rintro _ _ w3_7 ⟨b3_7, rfl, rfl⟩
    (first | refine wl_e0 (e_store0 (us := [_, _]) rfl rfl rfl (by kernel_rfl) (by simp [Value.oneCell']) rfl rfl) ?_ | refine wl_e0 (e_store1 (us := [_, _]) rfl rfl rfl (by kernel_rfl) (by simp [Value.oneCell']) rfl rfl) ?_ | refine wl_e0 (e_store2 (us := [_, _]) rfl rfl rfl (by kernel_rfl) (by simp [Value.oneCell']) rfl rfl) ?_ | refine wl_e0 (e_store3 (us := [_, _]) rfl rfl rfl (by kernel_rfl) (by simp [Value.oneCell']) rfl rfl) ?_)
    rintro _ _ w3_8 rfl
    refine wl_end [(5, _)] ⟨rfl, trivial⟩ ?_
    refine w_seq ?_
    refine w_pick [1, 0] rfl ?_
    refine w_unb (rkg b n _ B pV pl rB (ri :: rc)) ?_
    refine w_pick [3, 0, 0, 0, 0] rfl ?_
    refine w_mid (L := []) ?_
    refine w_pick [1, 1, 1, 1, 1, 0] rfl ?_
    refine w_draw [(0, true), (1, true), (2, true), (3, true), (4, false), (5, false), (6, true), (7, true), (8, true), (9, true)] ([_, _, _, _, _]) ([_]) mixed (by kernel_rfl) (by kernel_rfl) rfl (List.Perm.refl _) (fun w4_ => ?_)
    refine wd_f rfl (f_fieldAddr 1 rfl Try.underlying89 rfl rfl (by kernel_rfl)) ?_
    (first | refine wd_f rfl (f_loadb 0 rfl Try.underlying87 rfl rfl rfl) ?_ | refine wd_f rfl (f_loadb 1 rfl Try.underlying87 rfl rfl rfl) ?_ | refine wd_f rfl (f_loadb 2 rfl Try.underlying87 rfl rfl rfl) ?_ | refine wd_f rfl (f_loadb 3 rfl Try.underlying87 rfl rfl rfl) ?_ | refine wd_f rfl (f_loadb 4 rfl Try.underlying87 rfl rfl rfl) ?_ | refine wd_f rfl (f_loadb 5 rfl Try.underlying87 rfl rfl rfl) ?_ | refine wd_f rfl (f_loadb 6 rfl Try.underlying87 rfl rfl rfl) ?_)
    refine wd_f rfl (f_fieldAddr 1 rfl Try.underlying89 rfl rfl (by kernel_rfl)) ?_
    (first | refine wd_f rfl (f_loadb 0 rfl Try.underlying87 rfl rfl rfl) ?_ | refine wd_f rfl (f_loadb 1 rfl Try.underlying87 rfl rfl rfl) ?_ | refine wd_f rfl (f_loadb 2 rfl Try.underlying87 rfl rfl rfl) ?_ | refine wd_f rfl (f_loadb 3 rfl Try.underlying87 rfl rfl rfl) ?_ | refine wd_f rfl (f_loadb 4 rfl Try.underlying87 rfl rfl rfl) ?_ | refine wd_f rfl (f_loadb 5 rfl Try.underlying87 rfl rfl rfl) ?_ | refine wd_f rfl (f_loadb 6 rfl Try.underlying87 rfl rfl rfl) ?_)
    refine wd_e rfl (e_call1 ri [_, _, _, _, _] rfl Try.func64 (by kernel_rfl) (pk1 5 rfl) (fun w hh hs' => ifirst_spec s.2.2.1 n _ ri w hri hs')) ?_
    rintro _ _ w5 ⟨_, rfl, rfl, rfl⟩
    refine ⟨_, List.perm_append_comm, ?_⟩
    refine wd_e rfl (e_call1 ri [_, _, _, _, _] rfl Try.func63 (by kernel_rfl) (pk1 5 rfl) (fun w hh hs' => iValue_spec s.2.2.1 n _ y ri w hri hs')) ?_
    rintro _ _ w6 ⟨_, rfl, rfl, hv⟩
    obtain rfl := ValAt.ok (A := []) hv hri.nd
    refine ⟨_, List.perm_append_comm, ?_⟩
    refine wd_f rfl (f_move rfl) ?_
    refine wd_f rfl (f_extract rfl rfl) ?_
    refine wd_f rfl (f_extract rfl rfl) ?_
    refine wd_f rfl (f_assign rfl) ?_
    refine wd_end [(2, _), (5, _)] ⟨rfl, rfl, trivial⟩ ?_
    refine w_seq ?_
    refine w_draw [(0, true), (1, true), (2, true), (3, true), (4, true), (5, true)] (_) ([]) mixed (by kernel_rfl) (by kernel_rfl) rfl (perm_all _) (fun w5_ => ?_)
    refine wd_f rfl (f_move rfl) ?_
    refine wd_f rfl (f_fieldAddr 0 rfl Try.underlying89 rfl rfl (by kernel_rfl)) ?_
    (first | refine wd_f rfl (f_loadb 0 rfl Try.underlying30 rfl rfl rfl) ?_ | refine wd_f rfl (f_loadb 1 rfl Try.underlying30 rfl rfl rfl) ?_ | refine wd_f rfl (f_loadb 2 rfl Try.underlying30 rfl rfl rfl) ?_ | refine wd_f rfl (f_loadb 3 rfl Try.underlying30 rfl rfl rfl) ?_ | refine wd_f rfl (f_loadb 4 rfl Try.underlying30 rfl rfl rfl) ?_ | refine wd_f rfl (f_loadb 5 rfl Try.underlying30 rfl rfl rfl) ?_ | refine wd_f rfl (f_loadb 6 rfl Try.underlying30 rfl rfl rfl) ?_)
    refine wd_f rfl (f_assign rfl) ?_
    refine wd_f rfl (f_assign rfl) ?_
    refine wd_f rfl (f_assign rfl) ?_
    refine wd_end [(2, _), (3, _), (4, _)] ⟨rfl, rfl, rfl, trivial⟩ ?_
    refine w_pick [5, 0, 0, 0, 0, 0] rfl ?_
    refine w_amid (L := []) ?_
    refine w_pick [1, 1, 1, 0] rfl ?_
    refine w_bun (H := []) [_, _, _, _] ?_
    refine w_ret ?_
    refine ⟨_, _, fun a ha hh => results_tmps Try.results43 rfl a ha _, List.Sublist.refl _, ?_⟩
    refine ⟨?_, rfl⟩
    rw [hfl]
    rfl
end Go.Proofs.Ytbcfdgnpdaaleaa
