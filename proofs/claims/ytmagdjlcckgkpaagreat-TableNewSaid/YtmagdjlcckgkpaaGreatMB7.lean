/- Texts of this proof, part MB7: what the code does, step by step. They have no conditions. -/
import Derived.Test.YtmagdjlcckgkpaaGreatMB6
import Derived.Test.YtmagdjlcckgkpaaGreatMB4
/- Orders by count: raising, removing, counting, the least one. -/
namespace Go.Proofs.YtmagdjlcckgkpaaGreat
open Go.RowKit

theorem look_some_mem {l : Ord} {z : Int} {c : Nat} (h : look l z = some c) : z ∈ ids l := by
  refine Classical.byContradiction fun hn => ?_
  rw [look_none.2 hn] at h
  cases h

set_option maxHeartbeats 1000000 in
theorem rkcount_spec (b n : Nat) (l : Ord) (r : Res) (z : Int) (w : World) (hr : RkO b n l r) (hs : Holds w r.foot [r] w) :
    Spec Tryz.prog 88 [.pointer (some ⟨b, 0, .none⟩), .int .i64 z] w r.foot fun v H => v = .tuple #[.int .u64 (((look l z).getD 0 : Nat) : Int), .bool (look l z).isSome] ∧ H = [r] := by
  obtain ⟨S, rfl, hr⟩ := hr
  obtain ⟨hn1, hn2, B, pV, pl, rB, rs, rfl, hrB, hrs, hI⟩ := id hr
  refine enter (n := 21) Tryz.func88 rfl rfl [(0, _), (1, _)] rfl ⟨rfl, rfl, trivial⟩ hs ?_
  refine w_seq (w_reg (wl_f (f_assign rfl) (wl_f (f_assign rfl) (wl_end [(0, _), (1, _)] ⟨rfl, rfl, trivial⟩ ?_))))
  refine w_seq (w_seq (w_reg (wl_f (f_move rfl) (wl_f (f_move rfl) (wl_e (e_call1 _ [] rfl Tryz.func92 (by kernel_rfl) (List.Perm.refl _) (fun w hh hs' => rkhas_spec b n S _ z w hr hs')) ?_)))))
  rintro _ _ w1 ⟨_, rfl, rfl, rfl⟩
  refine wl_f (f_not rfl rfl) ?_
  refine wl_end [(0, _), (1, _), (9, _)] ⟨rfl, rfl, rfl, trivial⟩ ?_
  refine w_ifb rfl (fun hc1 => ?_) (fun hc1 => ?_)
  · skip
    have h1 : z ∉ ids (flat S) := by simpa using hc1
    refine w_seq (w_reg (wl_f (f_assign rfl) (wl_f (f_assign rfl) (wl_end [(4, _), (5, _)] ⟨rfl, rfl, trivial⟩ ?_))))
    refine w_ret ?_
    refine ⟨_, _, fun a ha hh => results_tmps Tryz.results88 rfl a ha _, List.Sublist.refl _, ?_⟩
    rw [look_none.2 h1]; exact ⟨rfl, rfl⟩
  · skip
    have h1 : z ∈ ids (flat S) := by simpa using hc1
    obtain ⟨A, s, C, I, y, J, rfl, hsI⟩ := find_bk h1
    have hz := hI.rng _ h1
    obtain ⟨x, rfl⟩ : ∃ x : Nat, z = x := ⟨z.toNat, by omega⟩
    have hat : pl[x]? = some (some (s.1, y)) := by
      have := hI.at_ s (by simp) (y, (x : Int)) (by rw [hsI]; simp)
      simpa using this
    have hlk := (rem_take hI hsI).2
    refine w_with fun hh => ?_
    obtain ⟨g, cp, rfl⟩ := rowB_form hh (i := 0) (j := 1) rfl rfl (by omega)
    clear hh
    refine w_skip ?_
    refine w_seq (w_reg (wl_f (f_move rfl) (wl_f (f_move rfl) (wl_f (f_nilCheck rfl) (wl_f (f_fieldAddr 3 rfl Tryz.underlying119 rfl rfl (by kernel_rfl)) ?_)))))
    refine wl_f (f_loadB 0 0 rfl rfl rfl Tryz.underlying117 rfl rfl) ?_
    refine wl_f (f_move rfl) (wl_f (f_indexAddr 3 (i := x) rfl rfl Tryz.underlying117 (by kernel_rfl) rfl (by omega)) ?_)
    refine wl_f (f_fieldAddr 1 rfl Tryz.underlying158 rfl rfl (by kernel_rfl)) ?_
    refine wl_f (f_loadBr (v := .int .i64 s.1) 0 1 rfl rfl rfl Tryz.underlying3 rfl (pcells_bucket hat)) ?_
    refine wl_e (e_call1 _ [] rfl Tryz.func93 (by kernel_rfl) (List.Perm.refl _) (fun w hh hs' => rkof_spec b n A s C _ w hr hs')) ?_
    rintro _ _ w3 ⟨_, rfl, rfl, rfl⟩
    refine wl_f (f_field rfl Tryz.underlying116 rfl Tryz.underlying33 rfl rfl) ?_
    refine wl_f (f_assign rfl) (wl_f (f_assign rfl) (wl_end [(4, _), (5, _)] ⟨rfl, rfl, trivial⟩ ?_))
    refine w_ret ?_
    refine ⟨_, _, fun a ha hh => results_tmps Tryz.results88 rfl a ha _, List.Sublist.refl _, ?_⟩
    rw [hlk]; exact ⟨rfl, rfl⟩

set_option maxHeartbeats 1000000 in
theorem rkremove_spec (b n : Nat) (l : Ord) (r : Res) (z : Int) (w : World) (hr : RkO b n l r) (hs : Holds w r.foot [r] w) :
    Spec Tryz.prog 100 [.pointer (some ⟨b, 0, .none⟩), .int .i64 z] w r.foot fun v H => v = .tuple #[.int .u64 ((orem l z).1 : Int), .int .i64 (orem l z).2.1] ∧ ∃ r', H = [r'] ∧ RkO b n (orem l z).2.2 r' := by
  obtain ⟨S, rfl, hr⟩ := hr
  have hO : RkO b n (flat S) r := ⟨S, rfl, hr⟩
  obtain ⟨hn1, hn2, B, pV, pl, rB, rs, rfl, hrB, hrs, hI⟩ := id hr
  refine enter (n := 19) Tryz.func100 rfl rfl [(0, _), (1, _)] rfl ⟨rfl, rfl, trivial⟩ hs ?_
  refine w_seq (w_reg (wl_f (f_assign rfl) (wl_f (f_assign rfl) (wl_end [(0, _), (1, _)] ⟨rfl, rfl, trivial⟩ ?_))))
  refine w_seq (w_seq (w_reg (wl_f (f_move rfl) (wl_f (f_move rfl) (wl_e (e_call1 _ [] rfl Tryz.func92 (by kernel_rfl) (List.Perm.refl _) (fun w hh hs' => rkhas_spec b n S _ z w hr hs')) ?_)))))
  rintro _ _ w1 ⟨_, rfl, rfl, rfl⟩
  refine wl_f (f_not rfl rfl) ?_
  refine wl_end [(0, _), (1, _), (11, _)] ⟨rfl, rfl, rfl, trivial⟩ ?_
  refine w_ifb rfl (fun hc1 => ?_) (fun hc1 => ?_)
  · skip
    have h1 : z ∉ ids (flat S) := by simpa using hc1
    have e1 : orem (flat S) z = (0, 8, flat S) := by rw [orem, look_none.2 h1]
    refine w_seq (w_reg (wl_f (f_assign rfl) (wl_f (f_assign rfl) (wl_end [(4, _), (5, _)] ⟨rfl, rfl, trivial⟩ ?_))))
    refine w_ret ?_
    refine ⟨_, _, fun a ha hh => results_tmps Tryz.results100 rfl a ha _, List.Sublist.refl _, ?_⟩
    rw [e1]; exact ⟨rfl, _, rfl, hO⟩
  · skip
    have h1 : z ∈ ids (flat S) := by simpa using hc1
    obtain ⟨A, s, C, I, y, J, rfl, hsI⟩ := find_bk h1
    have hz := hI.rng _ h1
    obtain ⟨x, rfl⟩ : ∃ x : Nat, z = x := ⟨z.toNat, by omega⟩
    have e1 : orem (flat (A ++ s :: C)) (x : Int) = (s.2.1, 0, rem (flat (A ++ s :: C)) x) := by rw [orem, (rem_take hI hsI).2]
    refine w_skip ?_
    refine w_seq (w_reg (wl_f (f_move rfl) (wl_f (f_move rfl) (wl_e (e_call1 _ [] rfl Tryz.func94 (by kernel_rfl) (List.Perm.refl _) (fun w hh hs' => rktake_spec b n A s C I J y x _ w hsI hr hs')) ?_))))
    rintro _ _ w3 ⟨_, rfl, rfl, C', r', rfl, hr', hfl⟩
    refine wl_f (f_move rfl) (wl_f (f_extract rfl rfl) ?_)
    refine wl_f (f_extract rfl rfl) ?_
    refine wl_f (f_assign rfl) (wl_f (f_assign rfl) (wl_end [(6, _)] ⟨rfl, trivial⟩ ?_))
    refine w_seq (w_reg (wl_f (f_move rfl) (wl_f (f_assign rfl) (wl_f (f_assign rfl) (wl_end [(4, _), (5, _)] ⟨rfl, rfl, trivial⟩ ?_)))))
    refine w_ret ?_
    refine ⟨_, _, fun a ha hh => results_tmps Tryz.results100 rfl a ha _, List.Sublist.refl _, ?_⟩
    rw [e1]; exact ⟨rfl, _, rfl, _, hfl.symm, hr'⟩

set_option maxHeartbeats 2000000 in
theorem rkraise_spec (b n : Nat) (l : Ord) (r : Res) (z : Int) (k : Nat) (w : World) (hk : k < 18446744073709551616) (hr : RkO b n l r) (hs : Holds w r.foot [r] w) :
    Spec Tryz.prog 83 [.pointer (some ⟨b, 0, .none⟩), .int .i64 z, .int .u64 (k : Int)] w r.foot fun v H => v = .int .i64 (orai l z k).1 ∧ ∃ r', H = [r'] ∧ (k = 0 → r' = r) ∧ RkO b n (orai l z k).2 r' := by
  obtain ⟨S, rfl, hr⟩ := hr
  have hO : RkO b n (flat S) r := ⟨S, rfl, hr⟩
  obtain ⟨hn1, hn2, B, pV, pl, rB, rs, rfl, hrB, hrs, hI⟩ := id hr
  refine enter (n := 44) Tryz.func83 rfl rfl [(0, _), (1, _), (2, _)] rfl ⟨rfl, rfl, rfl, trivial⟩ hs ?_
  refine w_seq (w_reg (wl_f (f_assign rfl) (wl_end [(0, _), (1, _), (2, _)] ⟨rfl, rfl, rfl, trivial⟩ ?_)))
  refine w_seq (w_seq (w_reg (wl_f (f_move rfl) (wl_f (f_move rfl) (wl_e (e_call1 _ [] rfl Tryz.func92 (by kernel_rfl) (List.Perm.refl _) (fun w hh hs' => rkhas_spec b n S _ z w hr hs')) ?_)))))
  rintro _ _ w1 ⟨_, rfl, rfl, rfl⟩
  refine wl_f (f_not rfl rfl) ?_
  refine wl_end [(0, _), (1, _), (2, _), (13, _)] ⟨rfl, rfl, rfl, rfl, trivial⟩ ?_
  refine w_ifb rfl (fun hc1 => ?_) (fun hc1 => ?_)
  · skip
    have h1 : z ∉ ids (flat S) := by simpa using hc1
    have e1 : orai (flat S) z k = (8, flat S) := by rw [orai, look_none.2 h1]
    refine w_seq (w_reg (wl_f (f_assign rfl) (wl_end [(6, _)] ⟨rfl, trivial⟩ ?_)))
    refine w_ret ?_
    refine ⟨_, _, fun a ha hh => results_tmps Tryz.results83 rfl a ha _, List.Sublist.refl _, ?_⟩
    rw [e1]; exact ⟨rfl, _, rfl, fun _ => rfl, hO⟩
  · skip
    have h1 : z ∈ ids (flat S) := by simpa using hc1
    obtain ⟨A, s, C, I, y, J, rfl, hsI⟩ := find_bk h1
    have hz := hI.rng _ h1
    obtain ⟨x, rfl⟩ : ∃ x : Nat, z = x := ⟨z.toNat, by omega⟩
    have hat : pl[x]? = some (some (s.1, y)) := by
      have := hI.at_ s (by simp) (y, (x : Int)) (by rw [hsI]; simp)
      simpa using this
    have hcs := hI.cnt s (by simp)
    have e0 : orai (flat (A ++ s :: C)) (x : Int) k = if s.2.1 + k ≤ 9223372036854775808 then if k = 0 then (0, flat (A ++ s :: C)) else (0, ins (rem (flat (A ++ s :: C)) x) x (s.2.1 + k)) else (12, flat (A ++ s :: C)) := by
      rw [orai, (rem_take hI hsI).2]
    refine w_with fun hh => ?_
    obtain ⟨g, cp, rfl⟩ := rowB_form hh (i := 0) (j := 1) rfl rfl (by omega)
    clear hh
    refine w_skip ?_
    refine w_seq (w_reg (wl_f (f_move rfl) (wl_f (f_move rfl) (wl_f (f_nilCheck rfl) (wl_f (f_fieldAddr 3 rfl Tryz.underlying119 rfl rfl (by kernel_rfl)) ?_)))))
    refine wl_f (f_loadB 0 0 rfl rfl rfl Tryz.underlying117 rfl rfl) ?_
    refine wl_f (f_move rfl) (wl_f (f_indexAddr 3 (i := x) rfl rfl Tryz.underlying117 (by kernel_rfl) rfl (by omega)) ?_)
    refine wl_f (f_fieldAddr 1 rfl Tryz.underlying158 rfl rfl (by kernel_rfl)) ?_
    refine wl_f (f_loadBr (v := .int .i64 s.1) 0 1 rfl rfl rfl Tryz.underlying3 rfl (pcells_bucket hat)) ?_
    refine wl_e (e_call1 _ [] rfl Tryz.func93 (by kernel_rfl) (List.Perm.refl _) (fun w hh hs' => rkof_spec b n A s C _ w hr hs')) ?_
    rintro _ _ w3 ⟨_, rfl, rfl, rfl⟩
    refine wl_f (f_field rfl Tryz.underlying116 rfl Tryz.underlying33 rfl rfl) ?_
    refine wl_f (f_assign rfl) (wl_end [(0, _), (1, _), (2, _), (7, _)] ⟨rfl, rfl, rfl, rfl, trivial⟩ ?_)
    refine w_seq (w_seq (w_reg (wl_f (f_move rfl) (wl_f (f_move rfl) (wl_e (e_call0 rfl Tryz.func81 (by kernel_rfl) (fun w hh => satfits_spec s.2.1 k w (by omega) hk)) ?_)))))
    rintro _ _ w4 ⟨_, rfl, rfl, rfl⟩
    refine wl_f (f_not rfl rfl) ?_
    refine wl_end [(0, _), (1, _), (2, _), (7, _), (28, _)] ⟨rfl, rfl, rfl, rfl, rfl, trivial⟩ ?_
    refine w_ifb rfl (fun hc2 => ?_) (fun hc2 => ?_)
    · skip
      have h2 : ¬ s.2.1 + k ≤ 9223372036854775808 := by simpa using hc2
      rw [if_neg h2] at e0
      refine w_seq (w_reg (wl_f (f_assign rfl) (wl_end [(6, _)] ⟨rfl, trivial⟩ ?_)))
      refine w_ret ?_
      refine ⟨_, _, fun a ha hh => results_tmps Tryz.results83 rfl a ha _, List.Sublist.refl _, ?_⟩
      rw [e0]; exact ⟨rfl, _, rfl, fun _ => rfl, hO⟩
    · skip
      have h2 : s.2.1 + k ≤ 9223372036854775808 := by simpa using hc2
      rw [if_pos h2] at e0
      refine w_skip ?_
      refine w_seq (w_seq (w_reg (wl_f (f_move rfl) (wl_f (f_eql rfl rfl) ?_))))
      refine wl_end [(0, _), (1, _), (2, _), (7, _), (30, _)] ⟨rfl, rfl, rfl, rfl, rfl, trivial⟩ ?_
      refine w_ifd rfl (fun hc3 => ?_) (fun hc3 => ?_)
      · skip
        have h3 : k = 0 := by
          have : (k : Int) = 0 := hc3
          omega
        rw [if_pos h3] at e0
        refine w_seq (w_reg (wl_f (f_assign rfl) (wl_end [(6, _)] ⟨rfl, trivial⟩ ?_)))
        refine w_ret ?_
        refine ⟨_, _, fun a ha hh => results_tmps Tryz.results83 rfl a ha _, List.Sublist.refl _, ?_⟩
        rw [e0]; exact ⟨rfl, _, rfl, fun _ => rfl, hO⟩
      · skip
        have h3 : ¬ k = 0 := fun h => hc3 (by rw [h]; rfl)
        rw [if_neg h3] at e0
        refine w_skip ?_
        refine w_seq (w_reg (wl_f (f_move rfl) (wl_f (f_move rfl) (wl_e (e_call1 _ [] rfl Tryz.func94 (by kernel_rfl) (List.Perm.refl _) (fun w hh hs' => rktake_spec b n A s C I J y x _ w hsI hr hs')) ?_))))
        rintro _ _ w8 ⟨_, rfl, rfl, C', r', rfl, hr', hfl⟩
        refine wl_f (f_move rfl) (wl_f (f_extract rfl rfl) ?_)
        refine wl_f (f_extract rfl rfl) ?_
        refine wl_f (f_assign rfl) (wl_f (f_assign rfl) (wl_end [(0, _), (1, _), (2, _), (7, _), (9, _)] ⟨rfl, rfl, rfl, rfl, rfl, trivial⟩ ?_))
        refine w_seq (w_reg (wl_f (f_move rfl) (wl_f (f_move rfl) (wl_f (f_move rfl) (wl_f (f_move rfl) (wl_f (f_eqv (v' := .int .u64 ((s.2.1 + k : Nat) : Int)) (f_addu rfl rfl (by omega)) (by rw [Int.natCast_add])) ?_))))))
        refine wl_f (f_move rfl) (wl_e (e_call1 _ [] rfl Tryz.func95 (by kernel_rfl) (List.Perm.refl _) (fun w hh hs' => rkput_spec b n A C' _ x (s.2.1 + k) w (by omega) (by rw [hfl]; exact rem_notin hI.nid) h2 (fun t ht => by have := (asc_split hI.asc).1 t ht; omega) hr' hs')) ?_)
        rintro _ _ w9 ⟨_, rfl, rfl, r2, rfl, hr2⟩
        refine wl_f (f_assign rfl) (wl_end [(6, _)] ⟨rfl, trivial⟩ ?_)
        refine w_ret ?_
        refine ⟨_, _, fun a ha hh => results_tmps Tryz.results83 rfl a ha _, List.Sublist.refl _, ?_⟩
        rw [e0]; exact ⟨rfl, _, rfl, fun h => absurd h h3, hfl ▸ hr2⟩

def oleast : Ord → Value
  | [] => .tuple #[.int .i64 0, .int .u64 0, .bool false]
  | p :: _ => .tuple #[.int .i64 p.1, .int .u64 (p.2 : Int), .bool true]
set_option maxHeartbeats 2000000 in
theorem rkleast_spec (b n : Nat) (l : Ord) (r : Res) (w : World) (hr : RkO b n l r) (hs : Holds w r.foot [r] w) :
    Spec Tryz.prog 96 [.pointer (some ⟨b, 0, .none⟩)] w r.foot fun v H => v = oleast l ∧ H = [r] := by
  obtain ⟨S, rfl, hr⟩ := hr
  obtain ⟨hn1, hn2, B, pV, pl, rB, rs, rfl, hrB, hrs, hI⟩ := id hr
  refine enter (n := 34) Tryz.func96 rfl rfl [(0, _)] rfl ⟨rfl, trivial⟩ hs ?_
  refine w_seq (w_reg (wl_f (f_assign rfl) (wl_f (f_assign rfl) (wl_f (f_assign rfl) (wl_end [(0, _)] ⟨rfl, trivial⟩ ?_)))))
  refine w_seq (w_seq (w_reg (wl_f (f_move rfl) (wl_f (f_eqlnil rfl rfl Tryz.underlying89) ?_))))
  refine wl_f (f_move rfl) ?_
  refine wl_or (j := 2) (c := decide (((flat S).length : Int) = 0)) 5 [(0, _)] ⟨rfl, trivial⟩ rfl rfl rfl rfl rfl (fun hg1_8 => ?_) (fun w1_8 => ?_)
  · skip
    refine wl_gf rfl rfl (f_move rfl) ?_
    refine wl_gf rfl rfl (f_nilCheck rfl) ?_
    refine wl_gf rfl rfl (f_fieldAddr 1 rfl Tryz.underlying119 rfl rfl (by kernel_rfl)) ?_
    refine wl_gf rfl rfl (f_loadB 0 0 rfl rfl rfl Tryz.underlying3 rfl rfl) ?_
    refine wl_gf rfl rfl (f_eql rfl rfl) ?_
    exact wl_pend rfl rfl ⟨rfl, trivial⟩ (List.Sublist.refl _)
  refine wl_end [(0, _), (14, _)] ⟨rfl, rfl, trivial⟩ ?_
  refine w_ifb rfl (fun hc1 => ?_) (fun hc1 => ?_)
  · skip
    have h1 : flat S = [] := by simpa using hc1
    refine w_seq (w_reg (wl_f (f_assign rfl) (wl_f (f_assign rfl) (wl_f (f_assign rfl) (wl_end [(2, _), (3, _), (4, _)] ⟨rfl, rfl, rfl, trivial⟩ ?_)))))
    refine w_ret ?_
    refine ⟨_, _, fun a ha hh => results_tmps Tryz.results96 rfl a ha _, List.Sublist.refl _, ?_⟩
    rw [h1]; exact ⟨rfl, rfl⟩
  · skip
    have h1 : flat S ≠ [] := by simpa using hc1
    obtain ⟨s, C, rfl⟩ : ∃ s C, S = s :: C := by
      cases S with
      | nil => exact absurd rfl h1
      | cons s C => exact ⟨s, C, rfl⟩
    obtain ⟨y, z, J, hsI⟩ : ∃ y z J, s.2.2.2 = (y, z) :: J := by
      cases e : s.2.2.2 with
      | nil => exact absurd e (hI.ne s (List.mem_cons_self ..))
      | cons p J => exact ⟨p.1, p.2, J, rfl⟩
    obtain ⟨ri, rc, rfl, hri, hrc⟩ := hrs.cons_inv
    rw [hsI] at hri
    have hfl : flat (s :: C) = (z, s.2.1) :: (J.map (fun p => (p.2, s.2.1)) ++ flat C) := by rw [flat_cons, bfl, hsI]; rfl
    refine w_unb (rkg b n _ B pV pl rB (ri :: rc)) ?_
    refine w_pick [2, 0, 0, 0] rfl ?_
    refine w_skip ?_
    refine w_seq (w_reg (wl_f (f_move rfl) (wl_f (f_move rfl) (wl_f (f_nilCheck rfl) (wl_f (f_fieldAddr 2 rfl Tryz.underlying119 rfl rfl (by kernel_rfl)) ?_)))))
    refine wl_f (f_loadb 1 rfl Tryz.underlying111 rfl rfl rfl) ?_
    refine wl_e (e_call1 rB [_, _, _] rfl Tryz.func108 (by kernel_rfl) (pk1 0 rfl) (fun w hh hs' => bfirst_spec B n _ rB w hrB hs')) ?_
    rintro _ _ w3 ⟨_, rfl, rfl, rfl⟩
    refine wl_pick [1, 1, 0, 0] rfl ?_
    refine wl_bun (H := []) [_, _, _, _] ?_
    refine wl_e (e_call1 (bun (rkg b n _ B pV pl rB (ri :: rc))) [] rfl Tryz.func93 (by kernel_rfl) (List.Perm.refl _) (fun w hh hs' => rkof_spec b n [] s C _ w hr hs')) ?_
    rintro _ _ w4 ⟨_, rfl, rfl, rfl⟩
    refine wl_e (e_allocs [.int .u64 0, .pointer .none] (by kernel_rfl)) ?_
    rintro _ _ w3_7 ⟨b3_7, rfl, rfl⟩
    refine wl_e0 (e_store0 (us := [_, _]) rfl rfl rfl (by kernel_rfl) (by simp [Value.oneCell']) rfl rfl) ?_
    rintro _ _ w3_8 rfl
    refine wl_end [(5, _)] ⟨rfl, trivial⟩ ?_
    refine w_seq (w_pick [1, 0] rfl ?_)
    refine w_unb (rkg b n _ B pV pl rB (ri :: rc)) ?_
    refine w_pick [3, 0, 0, 0, 0] rfl ?_
    refine w_mid (L := []) ?_
    refine w_pick [1, 1, 1, 1, 1, 0] rfl ?_
    refine w_draw [(0, true), (1, true), (2, true), (3, true), (4, false), (5, false), (6, true), (7, true), (8, true), (9, true)] ([_, _, _, _, _]) ([_]) mixed (by kernel_rfl) (by kernel_rfl) rfl (List.Perm.refl _) (fun w4_ => ?_)
    refine wd_f rfl (f_fieldAddr 1 rfl Tryz.underlying116 rfl rfl (by kernel_rfl)) ?_
    refine wd_f rfl (f_loadb 4 rfl Tryz.underlying114 rfl rfl rfl) ?_
    refine wd_f rfl (f_fieldAddr 1 rfl Tryz.underlying116 rfl rfl (by kernel_rfl)) ?_
    refine wd_f rfl (f_loadb 4 rfl Tryz.underlying114 rfl rfl rfl) ?_
    refine wd_e rfl (e_call1 ri [_, _, _, _, _] rfl Tryz.func115 (by kernel_rfl) (pk1 5 rfl) (fun w hh hs' => ifirst_spec s.2.2.1 n _ ri w hri hs')) ?_
    rintro _ _ w5 ⟨_, rfl, rfl, rfl⟩
    refine ⟨_, List.perm_append_comm, ?_⟩
    refine wd_e rfl (e_call1 ri [_, _, _, _, _] rfl Tryz.func114 (by kernel_rfl) (pk1 5 rfl) (fun w hh hs' => iValue_spec s.2.2.1 n _ y ri w hri hs')) ?_
    rintro _ _ w6 ⟨_, rfl, rfl, hv⟩
    obtain rfl := ValAt.ok (A := []) hv hri.nd
    refine ⟨_, List.perm_append_comm, ?_⟩
    refine wd_f rfl (f_move rfl) (wd_f rfl (f_extract rfl rfl) ?_)
    refine wd_f rfl (f_extract rfl rfl) ?_
    refine wd_f rfl (f_assign rfl) (wd_end [(2, _), (5, _)] ⟨rfl, rfl, trivial⟩ ?_)
    refine w_seq ?_
    refine w_draw [(0, true), (1, true), (2, true), (3, true), (4, true), (5, true)] (_) ([]) mixed (by kernel_rfl) (by kernel_rfl) rfl (perm_all _) (fun w5_ => ?_)
    refine wd_f rfl (f_move rfl) (wd_f rfl (f_fieldAddr 0 rfl Tryz.underlying116 rfl rfl (by kernel_rfl)) ?_)
    refine wd_f rfl (f_loadb 4 rfl Tryz.underlying33 rfl rfl rfl) ?_
    refine wd_f rfl (f_assign rfl) (wd_f rfl (f_assign rfl) (wd_f rfl (f_assign rfl) (wd_end [(2, _), (3, _), (4, _)] ⟨rfl, rfl, rfl, trivial⟩ ?_)))
    refine w_pick [5, 0, 0, 0, 0, 0] rfl ?_
    refine w_amid (L := []) ?_
    refine w_pick [1, 1, 1, 0] rfl ?_
    refine w_bun (H := []) [_, _, _, _] ?_
    refine w_ret ?_
    refine ⟨_, _, fun a ha hh => results_tmps Tryz.results96 rfl a ha _, List.Sublist.refl _, ?_⟩
    refine ⟨?_, rfl⟩
    rw [hfl]
    rfl
end Go.Proofs.YtmagdjlcckgkpaaGreat

/- Orders by count: what holds of every order. -/
namespace Go.Proofs.YtmagdjlcckgkpaaGreat
open Go.RowKit

structure OInv (n : Nat) (l : Ord) : Prop where
  asc : (l.map Prod.snd).Pairwise (· ≤ ·)
  nd : (ids l).Nodup
  rng : ∀ z ∈ ids l, 0 ≤ z ∧ z < n
  len : l.length ≤ n
  cnt : ∀ p ∈ l, p.2 ≤ 9223372036854775808
theorem flat_asc : ∀ {S : List Bk}, (S.map fun s => s.2.1).Pairwise (· < ·) → ((flat S).map Prod.snd).Pairwise (· ≤ ·)
  | [], _ => List.Pairwise.nil
  | s :: S, h => by
    rw [List.map_cons, List.pairwise_cons] at h
    rw [flat_cons, List.map_append, List.pairwise_append]
    refine ⟨?_, flat_asc h.2, ?_⟩
    · have : (bfl s).map Prod.snd = s.2.2.2.map fun _ => s.2.1 := by simp [bfl]
      rw [this, List.pairwise_map]
      exact List.pairwise_iff_getElem.2 fun _ _ _ _ _ => Nat.le_refl _
    · intro a ha b hb
      obtain ⟨p, hp, rfl⟩ := List.mem_map.1 ha
      obtain ⟨q, hq, rfl⟩ := List.mem_map.1 hb
      rw [bfl_cnt hp]
      obtain ⟨t, ht, e⟩ := flat_cnt hq
      rw [e]
      exact Nat.le_of_lt (h.1 _ (List.mem_map_of_mem ht))
theorem RkO.inv {b n : Nat} {l : Ord} {r : Res} (h : RkO b n l r) : OInv n l := by
  obtain ⟨S, rfl, hn1, hn2, B, pV, pl, rB, rs, rfl, hrB, hrs, hI⟩ := h
  refine ⟨flat_asc hI.asc, hI.nid, hI.rng, ?_, fun p hp => ?_⟩
  · have := range_len hI.nid hI.rng
    simpa [ids] using this
  · obtain ⟨s, hs, e⟩ := flat_cnt hp
    rw [e]
    exact hI.cnt s hs
theorem look_get {l : Ord} {i : Nat} {p : Int × Nat} (hnd : (ids l).Nodup) (h : l[i]? = some p) : look l p.1 = some p.2 := by
  induction l generalizing i with
  | nil => simp at h
  | cons q l ih =>
    simp only [ids, List.map_cons, List.nodup_cons] at hnd
    cases i with
    | zero => simp at h; subst h; rw [look, if_pos rfl]
    | succ i =>
      rw [List.getElem?_cons_succ] at h
      rw [look, if_neg (fun e => hnd.1 (by rw [e]; exact List.mem_map_of_mem (List.mem_of_getElem? h)))]
      exact ih hnd.2 h
theorem asc_get {l : Ord} {i : Nat} {p q : Int × Nat} (h : (l.map Prod.snd).Pairwise (· ≤ ·)) (h1 : l[i]? = some p) (h2 : l[i + 1]? = some q) : p.2 ≤ q.2 := by
  have hi : i + 1 < l.length := (List.getElem?_eq_some_iff.1 h2).1
  have := List.pairwise_iff_getElem.1 h i (i + 1) (by rw [List.length_map]; omega) (by rw [List.length_map]; omega) (Nat.lt_succ_self i)
  simp only [List.getElem_map] at this
  rw [List.getElem?_eq_getElem (by omega)] at h1 h2
  injection h1 with h1
  injection h2 with h2
  rw [h1, h2] at this
  exact this
theorem ids_get {l : Ord} {i : Nat} {p : Int × Nat} (h : l[i]? = some p) : (ids l)[i]? = some p.1 := by simp [ids, h]
end Go.Proofs.YtmagdjlcckgkpaaGreat

/- Tables of tracked keys: what they are, making one, setting and dropping an entry. -/
namespace Go.Proofs.YtmagdjlcckgkpaaGreat
open Go.RowKit

/-- What holds of entries, order and index. -/
structure SInv (m : Nat) (E : List (Option En)) (l : Ord) (M : List (ByteArray × Int)) : Prop where
  len : E.length = m
  ord : ∀ (i c : Nat), ((i : Int), c) ∈ l ↔ ∃ (k : ByteArray) (o s : Nat), E[i]? = some (some (k, o, s)) ∧ c = o + s
  idx : ∀ (k : ByteArray) (z : Int), (k, z) ∈ M ↔ ∃ (i o s : Nat), z = i ∧ E[i]? = some (some (k, o, s))
  sm : ∀ (i : Nat) (k : ByteArray) (o s : Nat), E[i]? = some (some (k, o, s)) → small k ∧ k ≠ ByteArray.empty
theorem mem_ins_iff {l : Ord} {z : Int} {c : Nat} {q : Int × Nat} : q ∈ ins l z c ↔ q = (z, c) ∨ q ∈ l := by
  induction l with
  | nil => simp [ins]
  | cons p l ih =>
    rw [ins]
    split
    · rw [List.mem_cons, ih, List.mem_cons]
      constructor
      · rintro (h | h | h) <;> simp [h]
      · rintro (h | h | h) <;> simp [h]
    · simp
theorem mem_rem_iff {l : Ord} {z : Int} (hn : (ids l).Nodup) {q : Int × Nat} : q ∈ rem l z ↔ q ∈ l ∧ q.1 ≠ z := by
  induction l with
  | nil => simp [rem]
  | cons p l ih =>
    simp only [ids, List.map_cons, List.nodup_cons] at hn
    rw [rem]
    split
    · rename_i hp
      rw [List.mem_cons]
      constructor
      · intro h
        refine ⟨.inr h, fun e => hn.1 ?_⟩
        rw [hp, ← e]
        exact List.mem_map_of_mem h
      · rintro ⟨h | h, h2⟩
        · subst h; exact absurd hp h2
        · exact h
    · rename_i hp
      rw [List.mem_cons, ih hn.2, List.mem_cons]
      constructor
      · rintro (h | ⟨h, h2⟩)
        · subst h; exact ⟨.inl rfl, hp⟩
        · exact ⟨.inr h, h2⟩
      · rintro ⟨h | h, h2⟩
        · exact .inl h
        · exact .inr ⟨h, h2⟩
theorem look_of_mem {l : Ord} {z : Int} {c : Nat} (hn : (ids l).Nodup) (h : (z, c) ∈ l) : look l z = some c := by
  obtain ⟨i, hi⟩ := List.mem_iff_getElem?.1 h
  exact look_get hn hi
theorem SInv.new (m : Nat) : SInv m (List.replicate m none) [] [] := by
  have h : ∀ (i : Nat) (x : En), ¬ (List.replicate m (none : Option En))[i]? = some (some x) := fun i x h => by
    rw [List.getElem?_replicate] at h; split at h <;> cases h
  refine ⟨List.length_replicate, fun i c => ?_, fun k z => ?_, fun i k o s hi => absurd hi (h i _)⟩
  · simp only [List.not_mem_nil, false_iff]; rintro ⟨k, o, s, hi, _⟩; exact h i _ hi
  · simp only [List.not_mem_nil, false_iff]; rintro ⟨i, o, s, _, hi⟩; exact h i _ hi
theorem SInv.set {m n : Nat} {E : List (Option En)} {l : Ord} {M : List (ByteArray × Int)} {k : ByteArray} {o s : Nat} (h : SInv m E l M) (hn : E[n]? = some none) (hk : small k) (hk0 : k ≠ ByteArray.empty) :
    SInv m (E.set n (some (k, o, s))) (ins l n (o + s)) ((k, (n : Int)) :: M) := by
  have hnl : n < E.length := (List.getElem?_eq_some_iff.1 hn).1
  refine ⟨by rw [List.length_set]; exact h.len, fun i c => ?_, fun k' z => ?_, fun i k' o' s' hi => ?_⟩
  · rw [mem_ins_iff, h.ord]
    by_cases hi : n = i
    · subst hi
      rw [List.getElem?_set_self hnl]
      constructor
      · rintro (e | ⟨k', o', s', e, _⟩)
        · injection e with _ e; exact ⟨k, o, s, rfl, e⟩
        · rw [hn] at e; cases e
      · rintro ⟨k', o', s', e, rfl⟩
        injection e with e; injection e with e; injection e with _ e; injection e with e1 e2
        subst e1; subst e2
        exact .inl rfl
    · rw [List.getElem?_set_ne hi]
      constructor
      · rintro (e | e)
        · injection e with e _; exact absurd (by omega) hi
        · exact e
      · exact .inr
  · rw [List.mem_cons, h.idx]
    constructor
    · rintro (e | ⟨i, o', s', rfl, e⟩)
      · injection e with e1 e2
        subst e1; subst e2
        exact ⟨n, o, s, rfl, List.getElem?_set_self hnl⟩
      · have hi : n ≠ i := fun e' => by subst e'; rw [hn] at e; cases e
        exact ⟨i, o', s', rfl, by rw [List.getElem?_set_ne hi]; exact e⟩
    · rintro ⟨i, o', s', rfl, e⟩
      by_cases hi : n = i
      · subst hi
        rw [List.getElem?_set_self hnl] at e
        injection e with e; injection e with e; injection e with e _
        subst e
        exact .inl rfl
      · rw [List.getElem?_set_ne hi] at e
        exact .inr ⟨i, o', s', rfl, e⟩
  · by_cases hi' : n = i
    · subst hi'
      rw [List.getElem?_set_self hnl] at hi
      injection hi with hi; injection hi with hi; injection hi with e _
      subst e
      exact ⟨hk, hk0⟩
    · rw [List.getElem?_set_ne hi'] at hi
      exact h.sm i k' o' s' hi
theorem SInv.uniq {m i j : Nat} {E : List (Option En)} {l : Ord} {M : List (ByteArray × Int)} {k : ByteArray} {o s o' s' : Nat} (h : SInv m E l M) (hM : (keys M).Nodup) (h1 : E[i]? = some (some (k, o, s))) (h2 : E[j]? = some (some (k, o', s'))) : i = j := by
  have a1 := mget_some hM ((h.idx k i).2 ⟨i, o, s, rfl, h1⟩)
  have a2 := mget_some hM ((h.idx k j).2 ⟨j, o', s', rfl, h2⟩)
  rw [a1] at a2
  injection a2 with a2
  omega
theorem SInv.drop {m n : Nat} {E : List (Option En)} {l : Ord} {M : List (ByteArray × Int)} {k : ByteArray} {o s : Nat} (h : SInv m E l M) (hl : (ids l).Nodup) (hM : (keys M).Nodup) (hn : E[n]? = some (some (k, o, s))) :
    SInv m (E.set n none) (rem l n) (mdel M k) := by
  have hnl : n < E.length := (List.getElem?_eq_some_iff.1 hn).1
  refine ⟨by rw [List.length_set]; exact h.len, fun i c => ?_, fun k' z => ?_, fun i k' o' s' hi => ?_⟩
  · rw [mem_rem_iff hl, h.ord]
    by_cases hi : n = i
    · subst hi
      rw [List.getElem?_set_self hnl]
      constructor
      · rintro ⟨_, e⟩; exact absurd rfl e
      · rintro ⟨k', o', s', e, _⟩; cases e
    · rw [List.getElem?_set_ne hi]
      constructor
      · exact And.left
      · exact fun e => ⟨e, fun e' => hi (by have e' : (i : Int) = n := e'; omega)⟩
  · have hmm : (k', z) ∈ mdel M k ↔ (k', z) ∈ M ∧ k' ≠ k := by simp [mdel]
    rw [hmm, h.idx]
    constructor
    · rintro ⟨⟨i, o', s', rfl, e⟩, hk⟩
      have hi : n ≠ i := fun e' => by
        subst e'; rw [hn] at e; injection e with e; injection e with e; injection e with e _; exact hk e.symm
      exact ⟨i, o', s', rfl, by rw [List.getElem?_set_ne hi]; exact e⟩
    · rintro ⟨i, o', s', rfl, e⟩
      have hi : n ≠ i := fun e' => by subst e'; rw [List.getElem?_set_self hnl] at e; cases e
      rw [List.getElem?_set_ne hi] at e
      exact ⟨⟨i, o', s', rfl, e⟩, fun e' => by subst e'; exact hi (h.uniq hM hn e)⟩
  · have hi' : n ≠ i := fun e' => by subst e'; rw [List.getElem?_set_self hnl] at hi; cases hi
    rw [List.getElem?_set_ne hi'] at hi
    exact h.sm i k' o' s' hi
/-- The index has a place for each free number. -/
theorem SInv.room {m n : Nat} {E : List (Option En)} {l : Ord} {M : List (ByteArray × Int)} (h : SInv m E l M) (hM : (keys M).Nodup) (hn : E[n]? = some none) : M.length < m := by
  have hnl : n < E.length := (List.getElem?_eq_some_iff.1 hn).1
  have hnd : (M.map Prod.snd).Nodup := by
    have hMn : M.Nodup := (List.pairwise_map.1 hM).imp fun h e => h (by rw [e])
    refine (List.pairwise_map.2 ?_)
    refine hMn.imp_of_mem fun {a b} ha hb hab e => hab ?_
    obtain ⟨k1, z1⟩ := a
    obtain ⟨k2, z2⟩ := b
    obtain ⟨i, o, s, rfl, h1⟩ := (h.idx k1 z1).1 ha
    obtain ⟨j, o', s', rfl, h2⟩ := (h.idx k2 z2).1 hb
    have e : (i : Int) = j := e
    obtain rfl : i = j := by omega
    rw [h1] at h2
    injection h2 with h2; injection h2 with h2; injection h2 with h2 _
    rw [h2]
  have := range_lt (id := (n : Int)) (n := m) hnd (fun z hz => by
    obtain ⟨⟨k, z'⟩, hx, rfl⟩ := List.mem_map.1 hz
    obtain ⟨i, o, s, e, h1⟩ := (h.idx k z').1 hx
    have hi : i < E.length := (List.getElem?_eq_some_iff.1 h1).1
    rw [h.len] at hi
    dsimp only
    omega) (by have := h.len; omega) (fun hz => by
    obtain ⟨⟨k, z'⟩, hx, e'⟩ := List.mem_map.1 hz
    obtain ⟨i, o, s, e, h1⟩ := (h.idx k z').1 hx
    dsimp only at e'
    obtain rfl : i = n := by omega
    rw [hn] at h1; cases h1)
  rwa [List.length_map] at this

def svl (t m bR bX : Nat) (eV : Value) (E : List (Option En)) (base total : Nat) (rR rX : Res) : List Res :=
  [blk t [.pointer (some ⟨bR, 0, .none⟩), .pointer (some ⟨bX, 0, .none⟩), .int .i64 (m : Int), eV, .int .u64 (base : Int), .int .u64 (total : Int)] 101, row eV 46 3 m (ecells E), rR, rX]
/-- A table of tracked keys, in parts. -/
def SvL (t m : Nat) (E : List (Option En)) (l : Ord) (base total : Nat) (H : List Res) : Prop :=
  1 ≤ m ∧ m ≤ 64 ∧ ∃ bR bX eV rR rX M T, H = svl t m bR bX eV E base total rR rX ∧ RkO bR m l rR ∧ TbR xInt bX m T 0 M rX ∧ SInv m E l M
def SvR (t m : Nat) (E : List (Option En)) (l : Ord) (base total : Nat) (r : Res) : Prop := ∃ L, r = bun L ∧ SvL t m E l base total L

theorem build_table (m : Int) (bR bX : Nat) (A : Option Addr) (l c : Nat) (w : World) : (Instr.build 101 [(0, .agg #[.pointer (some ⟨bR, 0, .none⟩)]), (1, .agg #[.pointer (some ⟨bX, 0, .none⟩)]), (2, .int .i64 m), (3, .slice A l c)].toArray).run Tryz.prog w =
    .ok (.agg [.pointer (some ⟨bR, 0, .none⟩), .pointer (some ⟨bX, 0, .none⟩), .int .i64 m, .slice A l c, .int .u64 0, .int .u64 0].toArray) w := by kernel_rfl
theorem build_order (bR : Nat) (w : World) : (Instr.build 97 [(0, .pointer (some ⟨bR, 0, .none⟩))].toArray).run Tryz.prog w = .ok (.agg #[.pointer (some ⟨bR, 0, .none⟩)]) w := by kernel_rfl
theorem build_numbers (bX : Nat) (w : World) : (Instr.build 99 [(0, .pointer (some ⟨bX, 0, .none⟩))].toArray).run Tryz.prog w = .ok (.agg #[.pointer (some ⟨bX, 0, .none⟩)]) w := by kernel_rfl
theorem madeCellsE (n : Nat) : (madeCells (Value.agg #[.string ByteArray.empty, .int .u64 0, .int .u64 0]).cells (n * 3)).toList = ecells (List.replicate n none) := by
  have h : ∀ n, ((List.range (n * 3)).map fun i => (#[Value.string ByteArray.empty, .int .u64 0, .int .u64 0] : Array Value)[i % 3]!) = ecells (List.replicate n none) := by
    intro n
    induction n with
    | zero => rfl
    | succ n ih =>
      have e : ecells (List.replicate (n + 1) none) = ecells (List.replicate n none) ++ ecell none := by
        rw [List.replicate_succ', ecells, ecells, List.flatMap_append]; simp
      rw [e, Nat.succ_mul, ← ih, List.range_succ, List.range_succ, List.range_succ]
      simp only [List.map_append, List.map_cons, List.map_nil, List.append_assoc]
      congr 1
      have e0 : (n * 3) % 3 = 0 := by omega
      have e1 : (n * 3 + 1) % 3 = 1 := by omega
      have e2 : (n * 3 + 2) % 3 = 2 := by omega
      rw [e0, e1, e2]
      rfl
  rw [← h n]
  simp only [madeCells, Array.toList_map, Array.toList_range]
  rfl

theorem svnew_bad (n : Int) (w : World) (hn : n < 1 ∨ 64 < n) : Spec Tryz.prog 33 [.int .i64 n] w Nil fun r H => r = .tuple #[.pointer .none, .int .i64 1] ∧ H = [] := by
  refine enter (n := 39) Tryz.func33 rfl rfl [(0, _)] rfl ⟨rfl, trivial⟩ (Holds.start _ _) ?_
  refine w_seq (w_reg (wl_f (f_assign rfl) (wl_f (f_assign rfl) (wl_end [(0, _)] ⟨rfl, trivial⟩ ?_))))
  refine w_seq (w_seq (w_reg (wl_f (f_move rfl) (wl_f (f_lss rfl rfl) ?_))))
  refine wl_f (f_move rfl) ?_
  refine wl_or (j := 2) (c := decide (64 < n)) 2 [(0, _)] ⟨rfl, trivial⟩ rfl rfl rfl rfl rfl (fun hg1_5 => ?_) (fun w1_5 => ?_)
  · skip
    refine wl_gf rfl rfl (f_move rfl) ?_
    refine wl_gf rfl rfl (f_gtr rfl rfl) ?_
    exact wl_pend rfl rfl ⟨rfl, trivial⟩ (List.Sublist.refl _)
  refine wl_end [(0, _), (12, _)] ⟨rfl, rfl, trivial⟩ ?_
  refine w_ifb rfl (fun _ => ?_) (fun h => absurd (by simpa [Bool.or_eq_true] using hn) h)
  refine w_seq (w_reg (wl_f (f_assign rfl) (wl_f (f_assign rfl) (wl_end [(2, _), (3, _)] ⟨rfl, rfl, trivial⟩ ?_))))
  refine w_ret ?_
  refine ⟨_, _, fun a ha hh => results_tmps Tryz.results33 rfl a ha _, List.Sublist.refl _, ?_⟩
  exact ⟨rfl, rfl⟩
set_option maxHeartbeats 1000000 in
theorem svnew_ok (m : Nat) (w : World) (h1 : 1 ≤ m) (h2 : m ≤ 64) : Spec Tryz.prog 33 [.int .i64 m] w Nil fun r H => ∃ t r', r = .tuple #[.pointer (some ⟨t, 0, .none⟩), .int .i64 0] ∧ H = [r'] ∧ SvR t m (List.replicate m none) [] 0 0 r' := by
  refine enter (n := 39) Tryz.func33 rfl rfl [(0, _)] rfl ⟨rfl, trivial⟩ (Holds.start _ _) ?_
  refine w_seq (w_reg (wl_f (f_assign rfl) (wl_f (f_assign rfl) (wl_end [(0, _)] ⟨rfl, trivial⟩ ?_))))
  refine w_seq (w_seq (w_reg (wl_f (f_move rfl) (wl_f (f_lss rfl rfl) ?_))))
  refine wl_f (f_move rfl) ?_
  refine wl_or (j := 2) (c := decide (64 < (m : Int))) 2 [(0, _)] ⟨rfl, trivial⟩ rfl rfl rfl rfl rfl (fun hg1_5 => ?_) (fun w1_5 => ?_)
  · skip
    refine wl_gf rfl rfl (f_move rfl) ?_
    refine wl_gf rfl rfl (f_gtr rfl rfl) ?_
    exact wl_pend rfl rfl ⟨rfl, trivial⟩ (List.Sublist.refl _)
  refine wl_end [(0, _), (12, _)] ⟨rfl, rfl, trivial⟩ ?_
  refine w_ifb rfl (fun h => absurd h (by simp; omega)) (fun _ => ?_)
  refine w_skip ?_
  refine w_seq (w_reg (wl_f (f_move rfl) (wl_e (e_call0 rfl Tryz.func46 (by kernel_rfl) (fun w hh => rknew_ok m w (by omega) (by omega))) ?_)))
  rintro _ _ w1 ⟨_, rfl, bR, rR, rfl, rfl, hR⟩
  refine wl_f (f_move rfl) (wl_f (f_extract rfl rfl) ?_)
  refine wl_f (f_extract rfl rfl) ?_
  refine wl_f (f_assign rfl) (wl_f (f_assign rfl) (wl_end [(0, _), (4, _), (5, _)] ⟨rfl, rfl, rfl, trivial⟩ ?_))
  refine w_seq (w_seq (w_reg (wl_f (f_move rfl) (wl_f (f_neq rfl rfl) ?_))))
  refine wl_end [(0, _), (4, _), (5, _), (19, _)] ⟨rfl, rfl, rfl, rfl, trivial⟩ ?_
  refine w_ifb rfl (fun h => absurd h (by simp)) (fun _ => ?_)
  refine w_skip ?_
  refine w_seq (w_reg (wl_f (f_move rfl) (wl_e (e_make (l := 16) (cs := u64v (List.replicate 16 0)) rfl rfl t95 (by omega) (by omega) (made1 16).symm) ?_)))
  rintro _ _ w6_1 ⟨b6_1, rfl, rfl⟩
  refine wl_e (e_call0 rfl Tryz.func47 (by kernel_rfl) (fun w hh => ixnew_ok m (List.replicate 16 0) _ 0 w (by omega) (by omega) List.length_replicate (Rd.held0 hh (i := 0) rfl))) ?_
  rintro _ _ w2 ⟨_, rfl, bX, rX, rfl, rfl, hX⟩
  refine wl_f (f_move rfl) (wl_f (f_extract rfl rfl) ?_)
  refine wl_f (f_extract rfl rfl) ?_
  refine wl_f (f_assign rfl) (wl_f (f_assign rfl) (wl_end [(0, _), (4, _), (5, _), (6, _)] ⟨rfl, rfl, rfl, rfl, trivial⟩ ?_))
  refine w_seq (w_seq (w_reg (wl_f (f_move rfl) (wl_f (f_neq rfl rfl) ?_))))
  refine wl_end [(0, _), (4, _), (5, _), (6, _), (28, _)] ⟨rfl, rfl, rfl, rfl, rfl, trivial⟩ ?_
  refine w_ifb rfl (fun h => absurd h (by simp)) (fun _ => ?_)
  refine w_skip ?_
  refine w_seq (w_reg (wl_f (f_move rfl) (wl_f (f_build rfl (fun w => build_order _ w)) ?_)))
  refine wl_f (f_move rfl) (wl_f (f_build rfl (fun w => build_numbers _ w)) ?_)
  refine wl_f (f_move rfl) (wl_f (f_move rfl) (wl_e (e_make (l := m) (cs := ecells (List.replicate m none)) rfl rfl t42 (by omega) (by omega) (madeCellsE m).symm) ?_))
  rintro _ _ w9_6 ⟨b9_6, rfl, rfl⟩
  refine wl_f (f_build rfl (fun w => build_table _ _ _ _ _ _ w)) ?_
  refine wl_e (e_box (cs := [_, _, _, _, _, _]) rfl rfl) ?_
  rintro _ _ w9_8 ⟨b9_8, rfl, rfl⟩
  refine wl_f (f_assign rfl) (wl_f (f_assign rfl) (wl_end [(2, _), (3, _)] ⟨rfl, rfl, trivial⟩ ?_))
  refine w_pick [0, 0, 2, 0] rfl ?_
  refine w_bun (H := []) [_, _, _, _] ?_
  refine w_ret ?_
  refine ⟨_, _, fun a ha hh => results_tmps Tryz.results33 rfl a ha _, List.Sublist.refl _, ?_⟩
  exact ⟨_, _, rfl, rfl, _, rfl, h1, h2, bR, bX, _, rR, rX, [], _, rfl, ⟨[], rfl, hR⟩, hX, SInv.new m⟩
end Go.Proofs.YtmagdjlcckgkpaaGreat

/- Tables of tracked keys: setting, dropping, finding a free number. -/
namespace Go.Proofs.YtmagdjlcckgkpaaGreat
open Go.RowKit

theorem oins_free {m n : Nat} {E : List (Option En)} {l : Ord} {M : List (ByteArray × Int)} {c : Nat} (h : SInv m E l M) (hO : OInv m l) (hn : E[n]? = some none) (hc : c ≤ 9223372036854775808) : oins m l n c = (0, ins l n c) := by
  have hnl : n < E.length := (List.getElem?_eq_some_iff.1 hn).1
  have hni : (n : Int) ∉ ids l := fun hi => by
    obtain ⟨⟨z, c'⟩, hx, e⟩ := List.mem_map.1 hi
    have e : z = (n : Int) := e
    subst e
    obtain ⟨k, o, s, h1, _⟩ := (h.ord n c').1 hx
    rw [hn] at h1; cases h1
  rw [oins, if_neg (by have := h.len; omega), if_neg hni, if_neg (by omega)]
theorem keys_free {m : Nat} {E : List (Option En)} {l : Ord} {M : List (ByteArray × Int)} {k : ByteArray} (h : SInv m E l M) : k ∈ keys M ↔ ∃ (i o s : Nat), E[i]? = some (some (k, o, s)) := by
  rw [mem_keys]
  constructor
  · rintro ⟨z, hz⟩
    obtain ⟨i, o, s, _, hi⟩ := (h.idx k z).1 hz
    exact ⟨i, o, s, hi⟩
  · rintro ⟨i, o, s, hi⟩
    exact ⟨i, (h.idx k i).2 ⟨i, o, s, rfl, hi⟩⟩

set_option maxHeartbeats 2000000 in
theorem svset_spec {l : Ord} (t m n : Nat) (E : List (Option En)) (base total : Nat) (k : ByteArray) (o s : Nat) (r : Res) (w : World) (hn : E[n]? = some none) (hk : small k) (hk0 : k ≠ ByteArray.empty)
    (hab : ∀ (i o' s' : Nat), E[i]? ≠ some (some (k, o', s'))) (hc : o + s ≤ 9223372036854775808) (hr : SvR t m E l base total r) (hs : Holds w r.foot [r] w) :
    Spec Tryz.prog 85 [.pointer (some ⟨t, 0, .none⟩), .int .i64 (n : Int), .agg #[.string k, .int .u64 (o : Int), .int .u64 (s : Int)]] w r.foot fun _ H => SvL t m (E.set n (some (k, o, s))) (ins l n (o + s)) base total H := by
  obtain ⟨L, rfl, hm1, hm2, bR, bX, eV, rR, rX, M, T, rfl, hR, hX, hI⟩ := hr
  have hEl := hI.len
  have hnl : n < E.length := (List.getElem?_eq_some_iff.1 hn).1
  have hins := oins_free hI hR.inv hn hc
  have hkM : k ∉ keys M := fun h => by obtain ⟨i, o', s', hi⟩ := (keys_free hI).1 h; exact hab i o' s' hi
  have hput := mput_new (v := (n : Int)) hkM (Nat.ne_of_lt (hI.room hX.nd hn))
  refine enter (n := 34) Tryz.func85 rfl rfl [(0, _), (1, _), (2, _)] rfl ⟨rfl, rfl, rfl, trivial⟩ hs ?_
  refine w_seq (w_reg (wl_e (e_box (cs := [_, _, _]) rfl rfl) ?_))
  rintro _ _ w0_0 ⟨b0_0, rfl, rfl⟩
  refine wl_end [(0, _), (1, _), (5, _)] ⟨rfl, rfl, rfl, trivial⟩ ?_
  refine w_seq (w_pick [1, 0] rfl ?_)
  refine w_unb (svl t m bR bX eV E base total rR rX) ?_
  refine w_with fun hh => ?_
  obtain ⟨g, cc, e2⟩ := row_form hh (i := 1) rfl (by omega)
  subst e2
  clear hh
  refine w_pick [1, 0, 2, 0, 0] rfl ?_
  refine w_drawk [(0, true), (1, true), (2, true), (3, true), (4, true), (5, true), (6, true), (7, false)] ([(_, some 7), (_, none), (_, none)]) ([_, _]) mixed (by kernel_rfl) (by kernel_rfl) rfl rfl (List.Perm.refl _) (fun w1_ => ?_)
  refine wk_f rfl (f_move rfl) (wk_f rfl (f_nilCheck rfl) (wk_f rfl (f_fieldAddr 3 rfl Tryz.underlying101 rfl rfl (by kernel_rfl)) ?_))
  refine wk_f rfl (f_loadb 1 rfl Tryz.underlying42 rfl rfl rfl) ?_
  refine wk_f rfl (f_move rfl) (wk_f rfl (f_loadsb (cs := [_, _, _]) 2 rfl Tryz.underlying46 rfl (by kernel_rfl) rfl rfl) ?_)
  refine wk_f rfl (f_indexAddr 3 (i := n) rfl rfl Tryz.underlying42 (by kernel_rfl) rfl (by omega)) ?_
  refine wk_e0 rfl (e_storerN 0 (us := ecell (some (k, o, s))) (xs' := ecells (E.set n (some (k, o, s)))) rfl rfl rfl rfl (by kernel_rfl) (by simp [ecell, Value.oneCell']) (by rw [ecells_len]; show 0 + n * 3 + 3 ≤ _; omega) (ecells_set _ hnl)) ?_
  rintro _ _ w1 rfl
  refine ⟨_, pick_perm [1, 1] _ rfl, ?_⟩
  refine wk_end [(0, _), (1, _), (5, _)] ⟨rfl, rfl, rfl, trivial⟩ ?_
  refine w_seq (w_pick [0, 0, 0, 1, 0] rfl ?_)
  refine w_draw [(0, true), (1, true), (2, true), (3, true), (4, true), (5, true), (6, true), (7, true), (8, true), (9, true), (10, true), (11, false)] ([_, _, _, _]) ([_]) mixed (by kernel_rfl) (by kernel_rfl) rfl (List.Perm.refl _) (fun w2_ => ?_)
  refine wd_f rfl (f_move rfl) (wd_f rfl (f_nilCheck rfl) (wd_f rfl (f_fieldAddr 0 rfl Tryz.underlying101 rfl rfl (by kernel_rfl)) ?_))
  refine wd_f rfl (f_fieldAddr 0 rfl Tryz.underlying97 rfl rfl (by kernel_rfl)) ?_
  refine wd_f rfl (f_loadb 0 rfl Tryz.underlying89 rfl rfl rfl) ?_
  refine wd_f rfl (f_move rfl) (wd_f rfl (f_fieldAddr 1 rfl Tryz.underlying46 rfl rfl (by kernel_rfl)) ?_)
  refine wd_f rfl (f_loadb 1 rfl Tryz.underlying33 rfl rfl rfl) ?_
  refine wd_f rfl (f_fieldAddr 2 rfl Tryz.underlying46 rfl rfl (by kernel_rfl)) ?_
  refine wd_f rfl (f_loadb 1 rfl Tryz.underlying33 rfl rfl rfl) ?_
  refine wd_f rfl (f_eqv (v' := .int .u64 ((o + s : Nat) : Int)) (f_addu rfl rfl (by omega)) (by rw [Int.natCast_add])) ?_
  refine wd_e rfl (e_call1 rR [_, _, _, _] rfl Tryz.func97 (by kernel_rfl) (pk1 4 rfl) (fun w hh hs' => rkinsert_spec bR m l rR n (o + s) w hR hs')) ?_
  rw [hins]
  rintro _ _ w2 ⟨_, rfl, rfl, rR2, rfl, hR2⟩
  refine ⟨_, List.perm_append_comm, ?_⟩
  refine wd_end [(0, _), (1, _), (5, _)] ⟨rfl, rfl, rfl, trivial⟩ ?_
  refine w_pick [0, 0, 0, 1, 0] rfl ?_
  refine w_draw [(0, true), (1, true), (2, true), (3, true), (4, true), (5, true), (6, true), (7, true), (8, false)] ([_, _, _, _]) ([_]) mixed (by kernel_rfl) (by kernel_rfl) rfl (List.Perm.refl _) (fun w3_ => ?_)
  refine wd_f rfl (f_move rfl) (wd_f rfl (f_nilCheck rfl) (wd_f rfl (f_fieldAddr 1 rfl Tryz.underlying101 rfl rfl (by kernel_rfl)) ?_))
  refine wd_f rfl (f_fieldAddr 0 rfl Tryz.underlying99 rfl rfl (by kernel_rfl)) ?_
  refine wd_f rfl (f_loadb 0 rfl Tryz.underlying92 rfl rfl rfl) ?_
  refine wd_f rfl (f_fieldAddr 0 rfl Tryz.underlying46 rfl rfl (by kernel_rfl)) ?_
  refine wd_f rfl (f_loadb 1 rfl Tryz.underlying9 rfl rfl rfl) ?_
  refine wd_f rfl (f_move rfl) (wd_e rfl (e_call1 rX [_, _, _, _] rfl Tryz.func98 (by kernel_rfl) (pk1 4 rfl) (fun w hh hs' => ixput_spec bX m T 0 M rX k (n : Int) w hk hX hs')) ?_)
  rw [hput]
  rintro _ _ w3 ⟨_, rfl, rfl, rX2, rfl, hX2⟩
  refine ⟨_, List.perm_append_comm, ?_⟩
  refine wd_endp [] [0, 1, 1, 1] trivial rfl ?_
  refine ⟨_, _, fun a ha hh => results_tmps (l := []) Tryz.results85 rfl a ha _, List.Sublist.refl _, ?_⟩
  exact ⟨hm1, hm2, bR, bX, _, rR2, rX2, _, T, rfl, hR2, hX2, hI.set hn hk hk0⟩

set_option maxHeartbeats 2000000 in
theorem svdrop_spec {l : Ord} (t m n : Nat) (E : List (Option En)) (base total : Nat) (k : ByteArray) (o s : Nat) (r : Res) (w : World) (hn : E[n]? = some (some (k, o, s))) (hr : SvR t m E l base total r) (hs : Holds w r.foot [r] w) :
    Spec Tryz.prog 90 [.pointer (some ⟨t, 0, .none⟩), .int .i64 (n : Int)] w r.foot fun v H => v = .agg #[.string k, .int .u64 (o : Int), .int .u64 (s : Int)] ∧ ∃ r', H = [r'] ∧ SvR t m (E.set n none) (rem l n) base total r' := by
  obtain ⟨L, rfl, hm1, hm2, bR, bX, eV, rR, rX, M, T, rfl, hR, hX, hI⟩ := hr
  have hEl := hI.len
  have hnl : n < E.length := (List.getElem?_eq_some_iff.1 hn).1
  have hO := hR.inv
  have hlk := look_of_mem hO.nd ((hI.ord n (o + s)).2 ⟨k, o, s, hn, rfl⟩)
  have hrem : orem l (n : Int) = (o + s, 0, rem l n) := by simp only [orem, hlk]
  have hk := (hI.sm n k o s hn).1
  refine enter (n := 36) Tryz.func90 rfl rfl [(0, _), (1, _)] rfl ⟨rfl, rfl, trivial⟩ hs ?_
  refine w_seq (w_reg (wl_e (e_allocs [.string ByteArray.empty, .int .u64 0, .int .u64 0] (by kernel_rfl)) ?_))
  rintro _ _ w0_0 ⟨b0_0, rfl, rfl⟩
  refine wl_end [(0, _), (1, _), (4, _)] ⟨rfl, rfl, rfl, trivial⟩ ?_
  refine w_seq (w_pick [1, 0] rfl ?_)
  refine w_unb (svl t m bR bX eV E base total rR rX) ?_
  refine w_with fun hh => ?_
  obtain ⟨g, cc, e2⟩ := row_form hh (i := 1) rfl (by omega)
  subst e2
  clear hh
  refine w_reg (wl_f (f_move rfl) (wl_f (f_nilCheck rfl) (wl_f (f_fieldAddr 3 rfl Tryz.underlying101 rfl rfl (by kernel_rfl)) ?_)))
  refine wl_f (f_loadb 0 rfl Tryz.underlying42 rfl rfl rfl) ?_
  refine wl_f (f_move rfl) (wl_f (f_indexAddr 3 (i := n) rfl rfl Tryz.underlying42 (by kernel_rfl) rfl (by omega)) ?_)
  refine wl_f (f_loadsr (cs := ecell (some (k, o, s))) 1 rfl Tryz.underlying46 rfl (by kernel_rfl) rfl (ecells_get hn)) ?_
  refine wl_e (e_allocs [.string ByteArray.empty, .int .u64 0, .int .u64 0] (by kernel_rfl)) ?_
  rintro _ _ w1_7 ⟨b1_7, rfl, rfl⟩
  refine wl_e0 (e_store0 (us := [_, _, _]) rfl rfl rfl (by kernel_rfl) (by simp [Value.oneCell']) rfl rfl) ?_
  rintro _ _ w1_8 rfl
  refine wl_end [(0, _), (1, _), (4, _), (5, _)] ⟨rfl, rfl, rfl, rfl, trivial⟩ ?_
  refine w_seq (w_reg (wl_f (f_move rfl) (wl_f (f_nilCheck rfl) (wl_f (f_fieldAddr 3 rfl Tryz.underlying101 rfl rfl (by kernel_rfl)) ?_))))
  refine wl_f (f_loadb 1 rfl Tryz.underlying42 rfl rfl rfl) ?_
  refine wl_f (f_move rfl) (wl_f (f_build rfl build_entry0) ?_)
  refine wl_f (f_indexAddr 3 (i := n) rfl rfl Tryz.underlying42 (by kernel_rfl) rfl (by omega)) ?_
  refine wl_e0 (e_storerN 2 (us := ecell none) (xs' := ecells (E.set n none)) rfl rfl rfl rfl (by kernel_rfl) (by simp [ecell, Value.oneCell']) (by rw [ecells_len]; show 0 + n * 3 + 3 ≤ _; omega) (ecells_set _ hnl)) ?_
  rintro _ _ w2_7 rfl
  refine wl_end [(0, _), (1, _), (4, _), (5, _)] ⟨rfl, rfl, rfl, rfl, trivial⟩ ?_
  refine w_seq (w_reg (wl_f (f_move rfl) (wl_f (f_nilCheck rfl) (wl_f (f_fieldAddr 0 rfl Tryz.underlying101 rfl rfl (by kernel_rfl)) ?_))))
  refine wl_f (f_fieldAddr 0 rfl Tryz.underlying97 rfl rfl (by kernel_rfl)) ?_
  refine wl_f (f_loadb 1 rfl Tryz.underlying89 rfl rfl rfl) ?_
  refine wl_f (f_move rfl) (wl_e (e_call1 rR [_, _, _, _, _] rfl Tryz.func100 (by kernel_rfl) (pk1 3 rfl) (fun w hh hs' => rkremove_spec bR m l rR n w hR hs')) ?_)
  rw [hrem]
  rintro _ _ w3 ⟨_, rfl, rfl, rR2, rfl, hR2⟩
  refine wl_end [(0, _), (4, _), (5, _)] ⟨rfl, rfl, rfl, trivial⟩ ?_
  refine w_seq (w_pick [0, 0, 0, 0, 1, 0] rfl ?_)
  refine w_draw [(0, true), (1, true), (2, true), (3, true), (4, true), (5, true), (6, true), (7, false)] ([_, _, _, _, _]) ([_]) mixed (by kernel_rfl) (by kernel_rfl) rfl (List.Perm.refl _) (fun w4_ => ?_)
  refine wd_f rfl (f_move rfl) (wd_f rfl (f_nilCheck rfl) (wd_f rfl (f_fieldAddr 1 rfl Tryz.underlying101 rfl rfl (by kernel_rfl)) ?_))
  refine wd_f rfl (f_fieldAddr 0 rfl Tryz.underlying99 rfl rfl (by kernel_rfl)) ?_
  refine wd_f rfl (f_loadb 2 rfl Tryz.underlying92 rfl rfl rfl) ?_
  refine wd_f rfl (f_fieldAddr 0 rfl Tryz.underlying46 rfl rfl (by kernel_rfl)) ?_
  refine wd_f rfl (f_loadb 1 rfl Tryz.underlying9 rfl rfl rfl) ?_
  refine wd_e rfl (e_call1 rX [_, _, _, _, _] rfl Tryz.func101 (by kernel_rfl) (pk1 5 rfl) (fun w hh hs' => ixdelete_spec bX m T 0 M rX k w hk hX hs')) ?_
  rintro _ _ w4 ⟨_, rfl, rfl, rX2, rfl, hX2⟩
  refine ⟨_, List.perm_append_comm, ?_⟩
  refine wd_end [(4, _), (5, _)] ⟨rfl, rfl, trivial⟩ ?_
  refine w_seq (w_reg (wl_f (f_loadsb (cs := [_, _, _]) 1 rfl Tryz.underlying46 rfl (by kernel_rfl) rfl rfl) ?_))
  refine wl_e0 (e_storeN 4 (us := [_, _, _]) rfl rfl rfl rfl (by kernel_rfl) (by simp [Value.oneCell']) rfl rfl) ?_
  rintro _ _ w5_1 rfl
  refine wl_end [(4, _)] ⟨rfl, trivial⟩ ?_
  refine w_pick [2, 2, 0, 2, 1] rfl ?_
  refine w_bun (H := [_]) [_, _, _, _] ?_
  refine w_pick [1, 0] rfl ?_
  refine w_ret ?_
  refine ⟨_, _, fun a ha hh => results_cell 0 Tryz.results90 rfl a ha hh Tryz.underlying46 rfl (by kernel_rfl) rfl, List.sublist_cons_self .., ?_⟩
  exact ⟨rfl, _, rfl, _, rfl, hm1, hm2, bR, bX, _, rR2, rX2, _, T, rfl, hR2, hX2, hI.drop hO.nd hX.nd hn⟩

def ek (o : Option En) : ByteArray := match o with
  | none => ByteArray.empty
  | some x => x.1
def eo (o : Option En) : Nat := match o with
  | none => 0
  | some x => x.2.1
def es (o : Option En) : Nat := match o with
  | none => 0
  | some x => x.2.2
theorem ecell_eq (o : Option En) : ecell o = [.string (ek o), .int .u64 (eo o : Int), .int .u64 (es o : Int)] := by cases o <;> rfl
/-- What finding a free number leaves. -/
def FreeG (m : Nat) (E : List (Option En)) (base : Nat) (n : Nat) (E' : List (Option En)) (base' : Nat) : Prop :=
  n < m ∧ E'[n]? = some none ∧ ((E' = E ∧ base' = base ∧ ∀ j < n, ∃ x, E[j]? = some (some x)) ∨
    ((∀ i < m, ∃ x, E[i]? = some (some x)) ∧ ∃ (k : ByteArray) (o s : Nat), E[n]? = some (some (k, o, s)) ∧ E' = E.set n none ∧ base' = o + s ∧ ∀ (i : Nat) (k' : ByteArray) (o' s' : Nat), E[i]? = some (some (k', o', s')) → o + s ≤ o' + s'))

/-- What finding a free number does to the order: nothing, or its head is dropped. -/
def FreeL (m : Nat) (E : List (Option En)) (l : Ord) (n : Nat) (l' : Ord) : Prop := (E[n]? = some none ∧ l' = l) ∨ ((∀ i < m, ∃ x, E[i]? = some (some x)) ∧ ∃ c, l = ((n : Int), c) :: l')
set_option maxHeartbeats 2000000 in
theorem svfree_spec {l : Ord} (t m : Nat) (E : List (Option En)) (base total : Nat) (r : Res) (w : World) (hr : SvR t m E l base total r) (hs : Holds w r.foot [r] w) :
    Spec Tryz.prog 84 [.pointer (some ⟨t, 0, .none⟩)] w r.foot fun v H => ∃ (n : Nat) (E' : List (Option En)) (l' : Ord) (base' : Nat) (r' : Res), v = .int .i64 (n : Int) ∧ H = [r'] ∧ SvR t m E' l' base' total r' ∧ FreeG m E base n E' base' ∧ FreeL m E l n l' := by
  have hr0 := hr
  obtain ⟨L, rfl, hm1, hm2, bR, bX, eV, rR, rX, M, T, rfl, hR, hX, hI⟩ := hr
  have hEl := hI.len
  have hO := hR.inv
  refine enter (n := 41) Tryz.func84 rfl rfl [(0, _)] rfl ⟨rfl, trivial⟩ hs ?_
  refine w_with fun hh => ?_
  obtain ⟨g, cc, e2⟩ := rowB_form hh (i := 0) (j := 1) rfl rfl (by omega)
  subst e2
  clear hh
  refine w_seq (w_reg (wl_f (f_assign rfl) (wl_end [(0, _)] ⟨rfl, trivial⟩ ?_)))
  refine w_seq (w_seq (w_reg (wl_f (f_move rfl) (wl_f (f_nilCheck rfl) (wl_f (f_fieldAddr 3 rfl Tryz.underlying101 rfl rfl (by kernel_rfl)) ?_)))))
  refine wl_f (f_loadB 0 0 rfl rfl rfl Tryz.underlying42 rfl rfl) ?_
  refine wl_f (f_len rfl Tryz.underlying42) ?_
  refine wl_f (f_move rfl) (wl_end [(0, _), (11, _), (12, _), (13, _)] ⟨rfl, rfl, rfl, rfl, trivial⟩ ?_)
  refine w_block ?_
  refine w_loop (fun kk m' H w => ∃ i : Nat, m' = [(0, .pointer (some ⟨t, 0, .none⟩)), (11, .slice (some ⟨g, 0, .none⟩) m cc), (12, .int .i64 m), (13, .int .i64 i)] ∧ H = [bun (svl t m bR bX (.slice (some ⟨g, 0, .none⟩) m cc) E base total rR rX)] ∧ kk + i = m ∧
    ∀ j < i, ∃ x, E[j]? = some (some x)) m ⟨0, rfl, rfl, rfl, by simp⟩ ?_
  rintro kk _ _ w1 ⟨i, rfl, rfl, hkk, hall⟩
  refine w_seq (w_reg (wl_f (f_lss rfl rfl) ?_))
  refine wl_end [(0, _), (11, _), (12, _), (13, _), (14, _)] ⟨rfl, rfl, rfl, rfl, rfl, trivial⟩ ?_
  refine w_seq ?_
  refine w_ifd rfl (fun hc1 => ?_) (fun hc1 => ?_)
  · skip
    have hi : i < m := by
      have : (i : Int) < (m : Int) := hc1
      omega
    obtain ⟨x, hx⟩ : ∃ x, E[i]? = some x := ⟨_, List.getElem?_eq_getElem (by omega)⟩
    refine w_skip ?_
    refine w_seq (w_block ?_)
    refine w_seq (w_reg (wl_f (f_move rfl) (wl_f (f_indexAddr 3 (i := i) rfl rfl Tryz.underlying42 (by kernel_rfl) rfl hi) ?_)))
    refine wl_f (f_loadsBr (cs := [.string (ek x), .int .u64 (eo x : Int), .int .u64 (es x : Int)]) 0 1 rfl rfl rfl Tryz.underlying46 rfl (by kernel_rfl) (by have := ecells_get hx; rw [ecell_eq] at this; exact this)) ?_
    refine wl_e (e_allocs [.string ByteArray.empty, .int .u64 0, .int .u64 0] (by kernel_rfl)) ?_
    rintro _ _ w3_3 ⟨b3_3, rfl, rfl⟩
    refine wl_f (f_assign rfl) (wl_e0 (e_store0 (us := [_, _, _]) rfl rfl rfl (by kernel_rfl) (by simp [Value.oneCell']) rfl rfl) ?_)
    rintro _ _ w3_5 rfl
    refine wl_end [(0, _), (3, _), (4, _), (11, _), (12, _), (13, _)] ⟨rfl, rfl, rfl, rfl, rfl, rfl, trivial⟩ ?_
    refine w_seq (w_reg (wl_f (f_fieldAddr 0 rfl Tryz.underlying46 rfl rfl (by kernel_rfl)) ?_))
    refine wl_f (f_loadb 0 rfl Tryz.underlying9 rfl rfl rfl) ?_
    refine wl_f (f_eqls rfl rfl) ?_
    refine wl_end [(0, _), (3, _), (11, _), (12, _), (13, _), (20, _)] ⟨rfl, rfl, rfl, rfl, rfl, rfl, trivial⟩ ?_
    refine w_ifd rfl (fun hc2 => ?_) (fun hc2 => ?_)
    · skip
      have hxn : x = none := by
        cases x with
        | none => rfl
        | some y => exact absurd hc2 (hI.sm i y.1 y.2.1 y.2.2 hx).2
      subst hxn
      refine w_seq (w_reg (wl_f (f_move rfl) (wl_f (f_assign rfl) (wl_end [(2, _)] ⟨rfl, trivial⟩ ?_))))
      refine w_pick [1] rfl ?_
      refine w_ret ?_
      refine ⟨_, _, fun a ha hh => results_tmps Tryz.results84 rfl a ha _, List.Sublist.refl _, ?_⟩
      exact ⟨i, E, _, base, _, rfl, rfl, hr0, ⟨hi, hx, .inl ⟨rfl, rfl, hall⟩⟩, .inl ⟨hx, rfl⟩⟩
    · skip
      obtain ⟨y, rfl⟩ : ∃ y, x = some y := by
        cases x with
        | none => exact absurd rfl hc2
        | some y => exact ⟨y, rfl⟩
      refine w_rm0 ?_
      refine w_skip ?_
      refine w_reg (wl_f (f_add rfl rfl (by omega)) ?_)
      refine wl_f (f_move rfl) (wl_end [(0, _), (11, _), (12, _), (13, _)] ⟨rfl, rfl, rfl, rfl, trivial⟩ ?_)
      refine ⟨kk - 1, by omega, i + 1, rfl, rfl, by omega, fun j hj => ?_⟩
      rcases Nat.lt_or_eq_of_le (Nat.le_of_lt_succ hj) with h | rfl
      · exact hall j h
      · exact ⟨y, hx⟩
  · skip
    obtain rfl : i = m := by
      have : ¬ (i : Int) < (m : Int) := hc1
      omega
    obtain ⟨⟨k0, o0, s0⟩, hx0⟩ := hall 0 (by omega)
    have hl0 := (hI.ord 0 (o0 + s0)).2 ⟨k0, o0, s0, hx0, rfl⟩
    obtain ⟨⟨z, c⟩, l', rfl⟩ : ∃ p l', l = p :: l' := by
      cases l with
      | nil => cases hl0
      | cons p l' => exact ⟨p, l', rfl⟩
    have hz := hO.rng z (by simp [ids])
    obtain ⟨n, rfl⟩ : ∃ n : Nat, z = n := ⟨z.toNat, by omega⟩
    obtain ⟨k, o, s, hn, rfl⟩ := (hI.ord n c).1 (List.mem_cons_self ..)
    have hnl : n < E.length := (List.getElem?_eq_some_iff.1 hn).1
    have hleast : ∀ (j : Nat) (k' : ByteArray) (o' s' : Nat), E[j]? = some (some (k', o', s')) → o + s ≤ o' + s' := fun j k' o' s' hj => by
      have := (hI.ord j (o' + s')).2 ⟨k', o', s', hj, rfl⟩
      rcases List.mem_cons.1 this with e | hm
      · injection e with _ e; omega
      · have ha := hO.asc
        rw [List.map_cons, List.pairwise_cons] at ha
        exact ha.1 _ (List.mem_map_of_mem hm)
    refine w_exit0 ?_
    refine w_seq (w_unb (svl t i bR bX _ E base total rR rX) ?_)
    refine w_reg (wl_f (f_move rfl) (wl_f (f_nilCheck rfl) (wl_f (f_fieldAddr 0 rfl Tryz.underlying101 rfl rfl (by kernel_rfl)) ?_)))
    refine wl_f (f_fieldAddr 0 rfl Tryz.underlying97 rfl rfl (by kernel_rfl)) ?_
    refine wl_f (f_loadb 0 rfl Tryz.underlying89 rfl rfl rfl) ?_
    refine wl_e (e_call1 rR [_, _, _] rfl Tryz.func96 (by kernel_rfl) (pk1 2 rfl) (fun w hh hs' => rkleast_spec bR i _ rR w hR hs')) ?_
    rintro _ _ w7 ⟨_, rfl, rfl, rfl⟩
    refine wl_pick [1, 1, 0, 0] rfl ?_
    refine wl_bun (H := []) [_, _, _, _] ?_
    refine wl_f (f_move rfl) (wl_f (f_extract rfl rfl) ?_)
    refine wl_f (f_extract rfl rfl) ?_
    refine wl_f (f_extract rfl rfl) ?_
    refine wl_f (f_assign rfl) (wl_f (f_assign rfl) (wl_f (f_assign rfl) (wl_end [(0, _), (5, _), (6, _)] ⟨rfl, rfl, rfl, trivial⟩ ?_)))
    refine w_seq (w_reg (wl_f (f_move rfl) (wl_f (f_move rfl) (wl_e (e_call1 (bun (svl t i bR bX (.slice (some ⟨g, 0, .none⟩) i cc) E base total rR rX)) [] rfl Tryz.func90 (by kernel_rfl) (List.Perm.refl _) (fun w hh hs' => svdrop_spec t i n E base total k o s _ w hn hr0 hs')) ?_))))
    rintro _ _ w8 ⟨_, rfl, rfl, r2, rfl, hr2⟩
    rw [show rem ((n, o + s) :: l') (n : Int) = l' from if_pos rfl] at hr2
    obtain ⟨L2, rfl, _, _, bR2, bX2, eV2, rR2, rX2, M2, T2, rfl, hR2, hX2, hI2⟩ := hr2
    refine wl_end [(0, _), (5, _), (6, _)] ⟨rfl, rfl, rfl, trivial⟩ ?_
    refine w_seq (w_unb (H := []) (svl t i bR2 bX2 eV2 _ base total rR2 rX2) ?_)
    refine w_reg (wl_f (f_move rfl) (wl_f (f_move rfl) (wl_f (f_nilCheck rfl) (wl_f (f_fieldAddr 4 rfl Tryz.underlying101 rfl rfl (by kernel_rfl)) ?_))))
    refine wl_e0 (e_store0 (us := [_]) rfl rfl rfl (by kernel_rfl) (by simp [Value.oneCell']) rfl rfl) ?_
    rintro _ _ w9_4 rfl
    refine wl_end [(5, _)] ⟨rfl, trivial⟩ ?_
    refine w_seq (w_reg (wl_f (f_move rfl) (wl_f (f_assign rfl) (wl_end [(2, _)] ⟨rfl, trivial⟩ ?_))))
    refine w_bun (H := []) [_, _, _, _] ?_
    refine w_ret ?_
    refine ⟨_, _, fun a ha hh => results_tmps Tryz.results84 rfl a ha _, List.Sublist.refl _, ?_⟩
    exact ⟨n, E.set n none, l', o + s, _, rfl, rfl, ⟨_, rfl, hm1, hm2, bR2, bX2, eV2, rR2, rX2, M2, T2, rfl, hR2, hX2, hI2⟩, ⟨by omega, List.getElem?_set_self hnl, .inr ⟨hall, k, o, s, hn, rfl, rfl, hleast⟩⟩, .inr ⟨hall, o + s, rfl⟩⟩
end Go.Proofs.YtmagdjlcckgkpaaGreat

/- Tables of tracked keys: adding, getting, taking, the numbers. -/
namespace Go.Proofs.YtmagdjlcckgkpaaGreat
open Go.RowKit

def Has (E : List (Option En)) (k : ByteArray) (i o s : Nat) : Prop := E[i]? = some (some (k, o, s))
def Hasnt (E : List (Option En)) (k : ByteArray) : Prop := ∀ (i o s : Nat), E[i]? ≠ some (some (k, o, s))
/-- What keeps sums within bounds. -/
def TOk (E : List (Option En)) (base total : Nat) : Prop := total ≤ 9223372036854775808 ∧ base ≤ total ∧ ∀ (i : Nat) (k : ByteArray) (o s : Nat), E[i]? = some (some (k, o, s)) → o + s ≤ total
theorem SInv.get {m : Nat} {E : List (Option En)} {l : Ord} {M : List (ByteArray × Int)} (h : SInv m E l M) (hM : (keys M).Nodup) (k : ByteArray) : (∃ i o s, Has E k i o s ∧ mget M k = some (i : Int)) ∨ (Hasnt E k ∧ mget M k = none) := by
  by_cases hk : k ∈ keys M
  · obtain ⟨i, o, s, hi⟩ := (keys_free h).1 hk
    exact .inl ⟨i, o, s, hi, mget_some hM ((h.idx k i).2 ⟨i, o, s, rfl, hi⟩)⟩
  · exact .inr ⟨fun i o s hi => hk ((keys_free h).2 ⟨i, o, s, hi⟩), mget_none hk⟩
theorem SInv.raise {m n : Nat} {E : List (Option En)} {l : Ord} {M : List (ByteArray × Int)} {k : ByteArray} {o s o' s' : Nat} (h : SInv m E l M) (hl : (ids l).Nodup) (hn : E[n]? = some (some (k, o, s))) :
    SInv m (E.set n (some (k, o', s'))) (ins (rem l n) n (o' + s')) M := by
  have hnl : n < E.length := (List.getElem?_eq_some_iff.1 hn).1
  refine ⟨by rw [List.length_set]; exact h.len, fun i c => ?_, fun k' z => ?_, fun i k' o2 s2 hi => ?_⟩
  · rw [mem_ins_iff, mem_rem_iff hl, h.ord]
    by_cases hi : n = i
    · subst hi
      rw [List.getElem?_set_self hnl]
      constructor
      · rintro (e | ⟨_, e⟩)
        · injection e with _ e; exact ⟨k, o', s', rfl, e⟩
        · exact absurd rfl e
      · rintro ⟨k2, o2, s2, e, rfl⟩
        injection e with e; injection e with e; injection e with _ e; injection e with e1 e2
        subst e1; subst e2
        exact .inl rfl
    · rw [List.getElem?_set_ne hi]
      constructor
      · rintro (e | e)
        · injection e with e _; exact absurd (by omega) hi
        · exact e.1
      · exact fun e => .inr ⟨e, fun e' => hi (by have e' : (i : Int) = n := e'; omega)⟩
  · rw [h.idx]
    constructor
    · rintro ⟨i, o2, s2, rfl, e⟩
      by_cases hi : n = i
      · subst hi
        rw [hn] at e
        injection e with e; injection e with e; injection e with e _
        subst e
        exact ⟨n, o', s', rfl, List.getElem?_set_self hnl⟩
      · exact ⟨i, o2, s2, rfl, by rw [List.getElem?_set_ne hi]; exact e⟩
    · rintro ⟨i, o2, s2, rfl, e⟩
      by_cases hi : n = i
      · subst hi
        rw [List.getElem?_set_self hnl] at e
        injection e with e; injection e with e; injection e with e _
        subst e
        exact ⟨n, o, s, rfl, hn⟩
      · rw [List.getElem?_set_ne hi] at e
        exact ⟨i, o2, s2, rfl, e⟩
  · by_cases hi' : n = i
    · subst hi'
      rw [List.getElem?_set_self hnl] at hi
      injection hi with hi; injection hi with hi; injection hi with e _
      subst e
      exact h.sm n k o s hn
    · rw [List.getElem?_set_ne hi'] at hi
      exact h.sm i k' o2 s2 hi

theorem ecells_own {E : List (Option En)} {i : Nat} {k : ByteArray} {o s o' : Nat} (h : E[i]? = some (some (k, o, s))) :
    (ecells E).take (0 + i * 3 + 1) ++ [.int .u64 (o' : Int)] ++ (ecells E).drop (0 + i * 3 + 1 + 1) = ecells (E.set i (some (k, o', s))) := by
  obtain ⟨A, B, rfl, rfl⟩ := split_at h
  have e1 : ∀ o, ecells (A ++ some (k, o, s) :: B) = ecells A ++ (.string k :: .int .u64 (o : Int) :: .int .u64 (s : Int) :: ecells B) := fun o => by rw [ecells_app]; rfl
  rw [set_split, e1, e1, Nat.zero_add, ← ecells_len A, Nat.add_assoc _ 1 1, List.take_length_add_append, List.drop_length_add_append]
  simp

def AddG (m : Nat) (E : List (Option En)) (base total : Nat) (k : ByteArray) (w : Nat) (e : Int) (E' : List (Option En)) (base' total' : Nat) : Prop :=
  (e ≠ 0 ∧ E' = E ∧ base' = base ∧ total' = total ∧ (k = ByteArray.empty ∧ e = 3 ∨ k ≠ ByteArray.empty ∧ w = 0 ∧ e = 1 ∨ k ≠ ByteArray.empty ∧ w ≠ 0 ∧ 9223372036854775808 < total + w ∧ e = 12)) ∨
  (e = 0 ∧ k ≠ ByteArray.empty ∧ w ≠ 0 ∧ total + w ≤ 9223372036854775808 ∧ total' = total + w ∧
    ((∃ i o s, Has E k i o s ∧ E' = E.set i (some (k, o + w, s)) ∧ base' = base) ∨ (Hasnt E k ∧ ∃ n E1, FreeG m E base n E1 base' ∧ E' = E1.set n (some (k, w, base')))))
theorem FreeG.tok {m n : Nat} {E E' : List (Option En)} {base base' total : Nat} (h : FreeG m E base n E' base') (ht : TOk E base total) : TOk E' base' total := by
  obtain ⟨_, hn, ⟨rfl, rfl, _⟩ | ⟨_, k, o, s, hi, rfl, rfl, _⟩⟩ := h
  · exact ht
  · refine ⟨ht.1, ht.2.2 n k o s hi, fun i k' o' s' hi' => ?_⟩
    by_cases e : n = i
    · subst e; rw [hn] at hi'; cases hi'
    · rw [List.getElem?_set_ne e] at hi'; exact ht.2.2 i k' o' s' hi'
theorem FreeG.hasnt {m n : Nat} {E E' : List (Option En)} {base base' : Nat} {k : ByteArray} (h : FreeG m E base n E' base') (hk : Hasnt E k) : Hasnt E' k := by
  obtain ⟨_, hn, ⟨rfl, rfl, _⟩ | ⟨_, k0, o, s, hi, rfl, rfl, _⟩⟩ := h
  · exact hk
  · intro i o' s' hi'
    by_cases e : n = i
    · subst e; rw [hn] at hi'; cases hi'
    · rw [List.getElem?_set_ne e] at hi'; exact hk i o' s' hi'
theorem AddG.tok {m : Nat} {E E' : List (Option En)} {base base' total total' w : Nat} {k : ByteArray} {e : Int} (h : AddG m E base total k w e E' base' total') (ht : TOk E base total) : TOk E' base' total' := by
  rcases h with ⟨_, rfl, rfl, rfl, _⟩ | ⟨_, _, _, hw, rfl, ⟨i, o, s, hi, rfl, rfl⟩ | ⟨_, n, E1, hf, rfl⟩⟩
  · exact ht
  · have hil : i < E.length := (List.getElem?_eq_some_iff.1 hi).1
    refine ⟨hw, by have := ht.2.1; omega, fun j k' o' s' hj => ?_⟩
    by_cases e : i = j
    · subst e
      rw [List.getElem?_set_self hil] at hj
      injection hj with hj; injection hj with hj; injection hj with _ hj; injection hj with e1 e2
      have := ht.2.2 i k o s hi
      omega
    · rw [List.getElem?_set_ne e] at hj
      have := ht.2.2 j k' o' s' hj
      omega
  · have ht1 := hf.tok ht
    have hnl : n < E1.length := (List.getElem?_eq_some_iff.1 hf.2.1).1
    refine ⟨hw, by have := ht1.2.1; omega, fun j k' o' s' hj => ?_⟩
    by_cases e : n = j
    · subst e
      rw [List.getElem?_set_self hnl] at hj
      injection hj with hj; injection hj with hj; injection hj with _ hj; injection hj with e1 e2
      have := ht1.2.1
      omega
    · rw [List.getElem?_set_ne e] at hj
      have := ht1.2.2 j k' o' s' hj
      omega

/-- What adding does to the order. -/
def AddL (m : Nat) (E : List (Option En)) (l : Ord) (base : Nat) (k : ByteArray) (v : Nat) (e : Int) (E' : List (Option En)) (l' : Ord) (base' : Nat) : Prop :=
  (e ≠ 0 ∧ l' = l) ∨ (e = 0 ∧ ((∃ i o s, Has E k i o s ∧ E' = E.set i (some (k, o + v, s)) ∧ l' = ins (rem l i) i (o + v + s)) ∨
    (Hasnt E k ∧ ∃ n E1 l1, FreeG m E base n E1 base' ∧ FreeL m E l n l1 ∧ E' = E1.set n (some (k, v, base')) ∧ l' = ins l1 n (v + base'))))
set_option maxHeartbeats 4000000 in
theorem svadd_spec {l : Ord} (t m : Nat) (E : List (Option En)) (base total : Nat) (k : ByteArray) (v : Nat) (r : Res) (w : World) (hk : small k) (hv : v < 18446744073709551616) (ht : TOk E base total) (hr : SvR t m E l base total r) (hs : Holds w r.foot [r] w) :
    Spec Tryz.prog 73 [.pointer (some ⟨t, 0, .none⟩), .string k, .int .u64 (v : Int)] w r.foot fun u H => ∃ (e : Int) (E' : List (Option En)) (l' : Ord) (base' total' : Nat) (r' : Res), u = .int .i64 e ∧ H = [r'] ∧ SvR t m E' l' base' total' r' ∧ AddG m E base total k v e E' base' total' ∧ AddL m E l base k v e E' l' base' := by
  have hr0 := hr
  obtain ⟨L, rfl, hm1, hm2, bR, bX, eV, rR, rX, M, T, rfl, hR, hX, hI⟩ := hr
  have hEl := hI.len
  have hO := hR.inv
  obtain ⟨ht1, ht2, ht3⟩ := id ht
  refine enter (n := 78) Tryz.func73 rfl rfl [(0, _), (1, _), (2, _)] rfl ⟨rfl, rfl, rfl, trivial⟩ hs ?_
  refine w_seq (w_reg (wl_f (f_assign rfl) (wl_end [(0, _), (1, _), (2, _)] ⟨rfl, rfl, rfl, trivial⟩ ?_)))
  refine w_seq (w_block ?_)
  refine w_seq (w_reg (wl_f (f_move rfl) (wl_f (f_eqlnil rfl rfl Tryz.underlying68) ?_)))
  refine wl_f (f_assign rfl) (wl_end [(0, _), (1, _), (2, _), (10, _)] ⟨rfl, rfl, rfl, rfl, trivial⟩ ?_)
  refine w_iff rfl ?_
  refine w_seq (w_reg (wl_f (f_move rfl) (wl_f (f_eqls rfl rfl) ?_)))
  refine wl_f (f_assign rfl) (wl_end [(0, _), (1, _), (2, _), (13, _)] ⟨rfl, rfl, rfl, rfl, trivial⟩ ?_)
  refine w_ifd rfl (fun hc2 => ?_) (fun hc2 => ?_)
  · skip
    obtain rfl : k = ByteArray.empty := hc2
    refine w_seq (w_reg (wl_f (f_assign rfl) (wl_end [(6, _)] ⟨rfl, trivial⟩ ?_)))
    refine w_ret ?_
    refine ⟨_, _, fun a ha hh => results_tmps Tryz.results73 rfl a ha _, List.Sublist.refl _, ?_⟩
    exact ⟨3, E, _, base, total, _, rfl, rfl, hr0, .inl ⟨by decide, rfl, rfl, rfl, .inl ⟨rfl, rfl⟩⟩, .inl ⟨by decide, rfl⟩⟩
  · skip
    have hk0 : k ≠ ByteArray.empty := hc2
    refine w_seq (w_reg (wl_f (f_move rfl) (wl_f (f_eql rfl rfl) ?_)))
    refine wl_f (f_assign rfl) (wl_end [(0, _), (1, _), (2, _), (16, _)] ⟨rfl, rfl, rfl, rfl, trivial⟩ ?_)
    refine w_ifd rfl (fun hc3 => ?_) (fun hc3 => ?_)
    · skip
      have hv0 : v = 0 := by
        have : (v : Int) = 0 := hc3
        omega
      refine w_seq (w_reg (wl_f (f_assign rfl) (wl_end [(6, _)] ⟨rfl, trivial⟩ ?_)))
      refine w_ret ?_
      refine ⟨_, _, fun a ha hh => results_tmps Tryz.results73 rfl a ha _, List.Sublist.refl _, ?_⟩
      exact ⟨1, E, _, base, total, _, rfl, rfl, hr0, .inl ⟨by decide, rfl, rfl, rfl, .inr (.inl ⟨hk0, hv0, rfl⟩)⟩, .inl ⟨by decide, rfl⟩⟩
    · skip
      have hv0 : v ≠ 0 := fun h => hc3 (by rw [h]; rfl)
      refine w_seq (w_reg (wl_f (f_move rfl) (wl_f (f_nilCheck rfl) (wl_f (f_fieldAddr 5 rfl Tryz.underlying101 rfl rfl (by kernel_rfl)) ?_))))
      refine wl_f (f_loadB 0 0 rfl rfl rfl Tryz.underlying33 rfl rfl) ?_
      refine wl_f (f_move rfl) (wl_e (e_call0 rfl Tryz.func81 (by kernel_rfl) (fun w hh => satfits_spec total v w (by omega) hv)) ?_)
      rintro _ _ w1 ⟨_, rfl, rfl, rfl⟩
      refine wl_f (f_not rfl rfl) ?_
      refine wl_f (f_assign rfl) (wl_end [(0, _), (1, _), (2, _), (19, _)] ⟨rfl, rfl, rfl, rfl, trivial⟩ ?_)
      refine w_ifb rfl (fun hc4 => ?_) (fun hc4 => ?_)
      · skip
        have hov : 9223372036854775808 < total + v := by simpa using hc4
        refine w_seq (w_reg (wl_f (f_assign rfl) (wl_end [(6, _)] ⟨rfl, trivial⟩ ?_)))
        refine w_ret ?_
        refine ⟨_, _, fun a ha hh => results_tmps Tryz.results73 rfl a ha _, List.Sublist.refl _, ?_⟩
        exact ⟨12, E, _, base, total, _, rfl, rfl, hr0, .inl ⟨by decide, rfl, rfl, rfl, .inr (.inr ⟨hk0, hv0, hov, rfl⟩)⟩, .inl ⟨by decide, rfl⟩⟩
      · skip
        have hov : total + v ≤ 9223372036854775808 := by simpa using hc4
        refine w_unb (svl t m bR bX eV E base total rR rX) ?_
        refine w_skip ?_
        refine w_seq (w_reg (wl_f (f_move rfl) (wl_f (f_nilCheck rfl) (wl_f (f_fieldAddr 5 rfl Tryz.underlying101 rfl rfl (by kernel_rfl)) ?_))))
        refine wl_f (f_loadb 0 rfl Tryz.underlying33 rfl rfl rfl) ?_
        refine wl_f (f_move rfl) (wl_f (f_eqv (v' := .int .u64 ((total + v : Nat) : Int)) (f_addu rfl rfl (by omega)) (by rw [Int.natCast_add])) ?_)
        refine wl_f (f_nilCheck rfl) (wl_f (f_fieldAddr 5 rfl Tryz.underlying101 rfl rfl (by kernel_rfl)) ?_)
        refine wl_e0 (e_store0 (us := [_]) rfl rfl rfl (by kernel_rfl) (by simp [Value.oneCell']) rfl rfl) ?_
        rintro _ _ w9_8 rfl
        refine wl_end [(0, _), (1, _), (2, _)] ⟨rfl, rfl, rfl, trivial⟩ ?_
        refine w_seq (w_seq (w_reg (wl_f (f_move rfl) (wl_f (f_nilCheck rfl) (wl_f (f_fieldAddr 1 rfl Tryz.underlying101 rfl rfl (by kernel_rfl)) ?_)))))
        refine wl_f (f_fieldAddr 0 rfl Tryz.underlying99 rfl rfl (by kernel_rfl)) ?_
        refine wl_f (f_loadb 0 rfl Tryz.underlying92 rfl rfl rfl) ?_
        refine wl_f (f_move rfl) (wl_e (e_call1 rX [_, _, _] rfl Tryz.func82 (by kernel_rfl) (pk1 3 rfl) (fun w hh hs' => ixget_spec bX m T 0 M rX k w hk hX hs')) ?_)
        rintro _ _ w2 ⟨_, rfl, rfl, rfl⟩
        refine wl_pick [1, 1, 1, 0] rfl ?_
        refine wl_f (f_move rfl) (wl_f (f_extract rfl rfl) ?_)
        refine wl_f (f_extract rfl rfl) ?_
        refine wl_f (f_assign rfl) (wl_f (f_assign rfl) (wl_end [(0, _), (1, _), (2, _), (7, _), (8, _)] ⟨rfl, rfl, rfl, rfl, rfl, trivial⟩ ?_))
        refine w_seq (w_reg (wl_f (f_move rfl) (wl_end [(0, _), (1, _), (2, _), (7, _), (45, _)] ⟨rfl, rfl, rfl, rfl, rfl, trivial⟩ ?_)))
        refine w_ifb rfl (fun hc5 => ?_) (fun hc5 => ?_)
        · skip
          obtain ⟨i, o, s, hi, hg⟩ : ∃ i o s, Has E k i o s ∧ mget M k = some (i : Int) := by
            rcases hI.get hX.nd k with h | ⟨_, h⟩
            · exact h
            · rw [h] at hc5; cases hc5
          rw [hg]
          have hil : i < E.length := (List.getElem?_eq_some_iff.1 hi).1
          have hos := ht3 i k o s hi
          have hlk := look_of_mem hO.nd ((hI.ord i (o + s)).2 ⟨k, o, s, hi, rfl⟩)
          have hra : orai l (i : Int) v = (0, ins (rem l i) i (o + s + v)) := by
            simp only [orai, hlk]
            rw [if_pos (by omega), if_neg hv0]
          refine w_with fun hh => ?_
          obtain ⟨g, cc, e2⟩ := row_form hh (i := 1) rfl (by omega)
          subst e2
          clear hh
          refine w_seq (w_reg (wl_f (f_move rfl) (wl_f (f_nilCheck rfl) (wl_f (f_fieldAddr 3 rfl Tryz.underlying101 rfl rfl (by kernel_rfl)) ?_))))
          refine wl_f (f_loadb 0 rfl Tryz.underlying42 rfl rfl rfl) ?_
          refine wl_f (f_move rfl) (wl_f (f_indexAddr 3 (i := i) rfl rfl Tryz.underlying42 (by kernel_rfl) rfl (by omega)) ?_)
          refine wl_f (f_fieldAddr 1 rfl Tryz.underlying46 rfl rfl (by kernel_rfl)) ?_
          refine wl_f (f_loadr (v := .int .u64 (o : Int)) 1 rfl Tryz.underlying33 rfl rfl (ecells_j hi 1 rfl (by omega))) ?_
          refine wl_f (f_move rfl) (wl_f (f_eqv (v' := .int .u64 ((o + v : Nat) : Int)) (f_addu rfl rfl (by omega)) (by rw [Int.natCast_add])) ?_)
          refine wl_f (f_indexAddr 3 (i := i) rfl rfl Tryz.underlying42 (by kernel_rfl) rfl (by omega)) ?_
          refine wl_f (f_fieldAddr 1 rfl Tryz.underlying46 rfl rfl (by kernel_rfl)) ?_
          refine wl_e0 (e_storerN 1 (us := [_]) (xs' := ecells (E.set i (some (k, o + v, s)))) rfl rfl rfl rfl (by kernel_rfl) (by simp [Value.oneCell']) (by rw [ecells_len]; show 0 + i * 3 + 1 + 1 ≤ _; omega) ?_) ?_
          · exact ecells_own hi
          rintro _ _ w12_12 rfl
          refine wl_end [(0, _), (2, _), (7, _)] ⟨rfl, rfl, rfl, trivial⟩ ?_
          refine w_seq (w_reg (wl_f (f_move rfl) (wl_f (f_nilCheck rfl) (wl_f (f_fieldAddr 0 rfl Tryz.underlying101 rfl rfl (by kernel_rfl)) ?_))))
          refine wl_f (f_fieldAddr 0 rfl Tryz.underlying97 rfl rfl (by kernel_rfl)) ?_
          refine wl_f (f_loadb 0 rfl Tryz.underlying89 rfl rfl rfl) ?_
          refine wl_f (f_move rfl) (wl_f (f_move rfl) (wl_e (e_call1 rR [_, _, _] rfl Tryz.func83 (by kernel_rfl) (pk1 2 rfl) (fun w hh hs' => rkraise_spec bR m l rR i v w hv hR hs')) ?_))
          rw [hra]
          rintro _ _ w3 ⟨_, rfl, rfl, rR2, rfl, _, hR2⟩
          refine wl_f (f_assign rfl) (wl_end [(6, _)] ⟨rfl, trivial⟩ ?_)
          refine w_pick [1, 1, 0, 0] rfl ?_
          refine w_bun (H := []) [_, _, _, _] ?_
          refine w_ret ?_
          refine ⟨_, _, fun a ha hh => results_tmps Tryz.results73 rfl a ha _, List.Sublist.refl _, ?_⟩
          rw [show o + s + v = o + v + s by omega] at hR2
          refine ⟨0, E.set i (some (k, o + v, s)), _, base, total + v, _, rfl, rfl, ⟨_, rfl, hm1, hm2, bR, bX, .slice (some ⟨g, 0, .none⟩) m cc, rR2, rX, M, T, rfl, hR2, hX, ?_⟩, .inr ⟨rfl, hk0, hv0, hov, rfl, .inl ⟨i, o, s, hi, rfl, rfl⟩⟩, .inr ⟨rfl, .inl ⟨i, o, s, hi, rfl, rfl⟩⟩⟩
          exact hI.raise hO.nd hi
        · skip
          have hno : Hasnt E k := by
            rcases hI.get hX.nd k with ⟨_, _, _, _, h⟩ | ⟨h, _⟩
            · rw [h] at hc5; exact absurd rfl hc5
            · exact h
          refine w_bun (H := []) [_, _, _, _] ?_
          refine w_skip ?_
          refine w_seq (w_reg (wl_f (f_move rfl) (wl_e (e_call1 _ [] rfl Tryz.func84 (by kernel_rfl) (List.Perm.refl _) (fun w hh hs' => svfree_spec t m E base (total + v) _ w ⟨_, rfl, hm1, hm2, bR, bX, eV, rR, rX, M, T, rfl, hR, hX, hI⟩ hs')) ?_)))
          rintro _ _ w4 ⟨_, rfl, n, E1, l1, base1, r1, rfl, rfl, hr1, hf, hfl⟩
          have ht' := hf.tok ht
          have hno1 := hf.hasnt hno
          have hr1' := hr1
          obtain ⟨L1, rfl, _, _, bR1, bX1, eV1, rR1, rX1, M1, T1, rfl, hR1, hX1, hI1⟩ := hr1
          refine wl_f (f_assign rfl) (wl_end [(0, _), (1, _), (2, _), (9, _)] ⟨rfl, rfl, rfl, rfl, trivial⟩ ?_)
          refine w_seq (w_reg (wl_f (f_move rfl) (wl_f (f_move rfl) (wl_f (f_move rfl) (wl_f (f_move rfl) (wl_f (f_move rfl) ?_))))))
          refine wl_f (f_nilCheck rfl) (wl_f (f_fieldAddr 4 rfl Tryz.underlying101 rfl rfl (by kernel_rfl)) ?_)
          refine wl_f (f_loadB 0 0 rfl rfl rfl Tryz.underlying33 rfl rfl) ?_
          refine wl_f (f_build rfl (fun w => build_entry _ _ _ w)) ?_
          refine wl_e (e_call1 _ [] rfl Tryz.func85 (by kernel_rfl) (List.Perm.refl _) (fun w hh hs' => svset_spec t m n E1 base1 (total + v) k v base1 _ w hf.2.1 hk hk0 hno1 (by have := ht'.2.1; omega) hr1' hs')) ?_
          rintro _ _ w5 ⟨_, rfl, hL⟩
          rw [List.append_nil]
          have hL' := hL
          obtain ⟨_, _, bR2, bX2, eV2, rR2, rX2, M2, T2, rfl, _⟩ := hL
          refine wl_bun (H := []) [_, _, _, _] ?_
          refine wl_end [] trivial ?_
          refine w_seq (w_reg (wl_f (f_assign rfl) (wl_end [(6, _)] ⟨rfl, trivial⟩ ?_)))
          refine w_ret ?_
          refine ⟨_, _, fun a ha hh => results_tmps Tryz.results73 rfl a ha _, List.Sublist.refl _, ?_⟩
          exact ⟨0, E1.set n (some (k, v, base1)), _, base1, total + v, _, rfl, rfl, ⟨_, rfl, hL'⟩, .inr ⟨rfl, hk0, hv0, hov, rfl, .inr ⟨hno, n, E1, hf, rfl⟩⟩, .inr ⟨rfl, .inr ⟨hno, n, E1, l1, hf, hfl, rfl, rfl⟩⟩⟩
end Go.Proofs.YtmagdjlcckgkpaaGreat

/- Tables of tracked keys: getting, taking, the numbers; nil tables. -/
namespace Go.Proofs.YtmagdjlcckgkpaaGreat
open Go.RowKit

def GetG (E : List (Option En)) (k : ByteArray) (v : Value) : Prop := (∃ i o s, Has E k i o s ∧ v = .tuple [enV k o s, .bool true].toArray) ∨ (Hasnt E k ∧ v = .tuple [enZ, .bool false].toArray)

set_option maxHeartbeats 1000000 in
theorem svget_nil (k : ByteArray) (w : World) : Spec Tryz.prog 75 [.pointer .none, .string k] w Nil fun v H => v = .tuple [enZ, .bool false].toArray ∧ H = [] := by
  refine enter (n := 31) Tryz.func75 rfl rfl [(0, _), (1, _)] rfl ⟨rfl, rfl, trivial⟩ (Holds.start _ _) ?_
  refine w_seq (w_reg (wl_e (e_allocs [.string ByteArray.empty, .int .u64 0, .int .u64 0] (by kernel_rfl)) ?_))
  rintro _ _ w0_0 ⟨b0_0, rfl, rfl⟩
  refine wl_f (f_assign rfl) (wl_end [(0, _), (1, _), (4, _)] ⟨rfl, rfl, rfl, trivial⟩ ?_)
  refine w_seq (w_seq (w_reg (wl_f (f_move rfl) (wl_f (f_eqlnil rfl rfl Tryz.underlying68) ?_))))
  refine wl_end [(0, _), (1, _), (4, _), (9, _)] ⟨rfl, rfl, rfl, rfl, trivial⟩ ?_
  refine w_ift rfl ?_
  refine w_seq (w_reg (wl_f (f_build rfl build_entry0) ?_))
  refine wl_e0 (e_store0 (us := [_, _, _]) rfl rfl rfl (by kernel_rfl) (by simp [Value.oneCell']) rfl rfl) ?_
  rintro _ _ w2_1 rfl
  refine wl_f (f_assign rfl) (wl_end [(4, _), (5, _)] ⟨rfl, rfl, trivial⟩ ?_)
  refine w_ret ?_
  refine ⟨_, _, fun a ha hh => results_mix Tryz.results75 (rm_cell (cell_agg 0 rfl Tryz.underlying46 rfl (by kernel_rfl) rfl) (rm_tmp rfl rm_nil)) a ha _ hh, List.nil_sublist _, ?_⟩
  exact ⟨rfl, rfl⟩
set_option maxHeartbeats 1000000 in
theorem svtake_nil (k : ByteArray) (w : World) : Spec Tryz.prog 78 [.pointer .none, .string k] w Nil fun v H => v = .tuple [enZ, .bool false].toArray ∧ H = [] := by
  refine enter (n := 27) Tryz.func78 rfl rfl [(0, _), (1, _)] rfl ⟨rfl, rfl, trivial⟩ (Holds.start _ _) ?_
  refine w_seq (w_reg (wl_e (e_allocs [.string ByteArray.empty, .int .u64 0, .int .u64 0] (by kernel_rfl)) ?_))
  rintro _ _ w0_0 ⟨b0_0, rfl, rfl⟩
  refine wl_f (f_assign rfl) (wl_end [(0, _), (1, _), (4, _)] ⟨rfl, rfl, rfl, trivial⟩ ?_)
  refine w_seq (w_seq (w_reg (wl_f (f_move rfl) (wl_f (f_eqlnil rfl rfl Tryz.underlying68) ?_))))
  refine wl_end [(0, _), (1, _), (4, _), (9, _)] ⟨rfl, rfl, rfl, rfl, trivial⟩ ?_
  refine w_ift rfl ?_
  refine w_seq (w_reg (wl_f (f_build rfl build_entry0) ?_))
  refine wl_e0 (e_store0 (us := [_, _, _]) rfl rfl rfl (by kernel_rfl) (by simp [Value.oneCell']) rfl rfl) ?_
  rintro _ _ w2_1 rfl
  refine wl_f (f_assign rfl) (wl_end [(4, _), (5, _)] ⟨rfl, rfl, trivial⟩ ?_)
  refine w_ret ?_
  refine ⟨_, _, fun a ha hh => results_mix Tryz.results78 (rm_cell (cell_agg 0 rfl Tryz.underlying46 rfl (by kernel_rfl) rfl) (rm_tmp rfl rm_nil)) a ha _ hh, List.nil_sublist _, ?_⟩
  exact ⟨rfl, rfl⟩
set_option maxHeartbeats 1000000 in
theorem svswap_nil (k x : ByteArray) (o s : Int) (w : World) : Spec Tryz.prog 77 [.pointer .none, .string k, .agg #[.string x, .int .u64 o, .int .u64 s]] w Nil fun v H => v = .tuple [enZ, .int .i64 8].toArray ∧ H = [] := by
  refine enter (n := 102) Tryz.func77 rfl rfl [(0, _), (1, _), (2, _)] rfl ⟨rfl, rfl, rfl, trivial⟩ (Holds.start _ _) ?_
  refine w_seq (w_reg (wl_e (e_box (cs := [_, _, _]) rfl rfl) ?_))
  rintro _ _ w0_0 ⟨b0_0, rfl, rfl⟩
  refine wl_e (e_allocs [.string ByteArray.empty, .int .u64 0, .int .u64 0] (by kernel_rfl)) ?_
  rintro _ _ w0_1 ⟨b0_1, rfl, rfl⟩
  refine wl_f (f_assign rfl) (wl_end [(0, _), (1, _), (5, _), (6, _)] ⟨rfl, rfl, rfl, rfl, trivial⟩ ?_)
  refine w_seq (w_seq (w_reg (wl_f (f_move rfl) (wl_f (f_eqlnil rfl rfl Tryz.underlying68) ?_))))
  refine wl_end [(0, _), (1, _), (5, _), (6, _), (20, _)] ⟨rfl, rfl, rfl, rfl, rfl, trivial⟩ ?_
  refine w_ift rfl ?_
  refine w_seq (w_reg (wl_f (f_build rfl build_entry0) ?_))
  refine wl_e0 (e_store0 (us := [_, _, _]) rfl rfl rfl (by kernel_rfl) (by simp [Value.oneCell']) rfl rfl) ?_
  rintro _ _ w2_1 rfl
  refine wl_f (f_assign rfl) (wl_end [(6, _), (7, _)] ⟨rfl, rfl, trivial⟩ ?_)
  refine w_ret ?_
  refine ⟨_, _, fun a ha hh => results_mix Tryz.results77 (rm_cell (cell_agg 0 rfl Tryz.underlying46 rfl (by kernel_rfl) rfl) (rm_tmp rfl rm_nil)) a ha _ hh, List.nil_sublist _, ?_⟩
  exact ⟨rfl, rfl⟩
theorem svadd_nil (k : ByteArray) (v : Int) (w : World) : Spec Tryz.prog 73 [.pointer .none, .string k, .int .u64 v] w Nil fun r H => r = .int .i64 8 ∧ H = [] := by
  refine enter (n := 78) Tryz.func73 rfl rfl [(0, _), (1, _), (2, _)] rfl ⟨rfl, rfl, rfl, trivial⟩ (Holds.start _ _) ?_
  refine w_seq (w_reg (wl_f (f_assign rfl) (wl_end [(0, _), (1, _), (2, _)] ⟨rfl, rfl, rfl, trivial⟩ ?_)))
  refine w_seq (w_block ?_)
  refine w_seq (w_reg (wl_f (f_move rfl) (wl_f (f_eqlnil rfl rfl Tryz.underlying68) ?_)))
  refine wl_f (f_assign rfl) (wl_end [(0, _), (1, _), (2, _), (10, _)] ⟨rfl, rfl, rfl, rfl, trivial⟩ ?_)
  refine w_ift rfl ?_
  refine w_seq (w_reg (wl_f (f_assign rfl) (wl_end [(6, _)] ⟨rfl, trivial⟩ ?_)))
  refine w_ret ?_
  refine ⟨_, _, fun a ha hh => results_tmps Tryz.results73 rfl a ha _, List.Sublist.refl _, ?_⟩
  exact ⟨rfl, rfl⟩
theorem svuntracked_nil (w : World) : Spec Tryz.prog 80 [.pointer .none] w Nil fun r H => r = .int .u64 0 ∧ H = [] := by
  refine enter (n := 9) Tryz.func80 rfl rfl [(0, _)] rfl ⟨rfl, trivial⟩ (Holds.start _ _) ?_
  refine w_seq (w_reg (wl_f (f_assign rfl) (wl_end [(0, _)] ⟨rfl, trivial⟩ ?_)))
  refine w_seq (w_seq (w_reg (wl_f (f_move rfl) (wl_f (f_eqlnil rfl rfl Tryz.underlying68) ?_))))
  refine wl_end [(0, _), (4, _)] ⟨rfl, rfl, trivial⟩ ?_
  refine w_ift rfl ?_
  refine w_seq (w_reg (wl_f (f_assign rfl) (wl_end [(2, _)] ⟨rfl, trivial⟩ ?_)))
  refine w_ret ?_
  refine ⟨_, _, fun a ha hh => results_tmps Tryz.results80 rfl a ha _, List.Sublist.refl _, ?_⟩
  exact ⟨rfl, rfl⟩
theorem svtotal_nil (w : World) : Spec Tryz.prog 79 [.pointer .none] w Nil fun r H => r = .int .u64 0 ∧ H = [] := by
  refine enter (n := 9) Tryz.func79 rfl rfl [(0, _)] rfl ⟨rfl, trivial⟩ (Holds.start _ _) ?_
  refine w_seq (w_reg (wl_f (f_assign rfl) (wl_end [(0, _)] ⟨rfl, trivial⟩ ?_)))
  refine w_seq (w_seq (w_reg (wl_f (f_move rfl) (wl_f (f_eqlnil rfl rfl Tryz.underlying68) ?_))))
  refine wl_end [(0, _), (4, _)] ⟨rfl, rfl, trivial⟩ ?_
  refine w_ift rfl ?_
  refine w_seq (w_reg (wl_f (f_assign rfl) (wl_end [(2, _)] ⟨rfl, trivial⟩ ?_)))
  refine w_ret ?_
  refine ⟨_, _, fun a ha hh => results_tmps Tryz.results79 rfl a ha _, List.Sublist.refl _, ?_⟩
  exact ⟨rfl, rfl⟩
theorem svlen_nil (w : World) : Spec Tryz.prog 76 [.pointer .none] w Nil fun r H => r = .int .i64 0 ∧ H = [] := by
  refine enter (n := 11) Tryz.func76 rfl rfl [(0, _)] rfl ⟨rfl, trivial⟩ (Holds.start _ _) ?_
  refine w_seq (w_reg (wl_f (f_assign rfl) (wl_end [(0, _)] ⟨rfl, trivial⟩ ?_)))
  refine w_seq (w_seq (w_reg (wl_f (f_move rfl) (wl_f (f_eqlnil rfl rfl Tryz.underlying68) ?_))))
  refine wl_end [(0, _), (4, _)] ⟨rfl, rfl, trivial⟩ ?_
  refine w_ift rfl ?_
  refine w_seq (w_reg (wl_f (f_assign rfl) (wl_end [(2, _)] ⟨rfl, trivial⟩ ?_)))
  refine w_ret ?_
  refine ⟨_, _, fun a ha hh => results_tmps Tryz.results76 rfl a ha _, List.Sublist.refl _, ?_⟩
  exact ⟨rfl, rfl⟩
theorem sventries_nil (w : World) : Spec Tryz.prog 74 [.pointer .none] w Nil fun r H => r = .slice .none 0 0 ∧ H = [] := by
  refine enter (n := 43) Tryz.func74 rfl rfl [(0, _)] rfl ⟨rfl, trivial⟩ (Holds.start _ _) ?_
  refine w_seq (w_reg (wl_f (f_assign rfl) (wl_end [(0, _)] ⟨rfl, trivial⟩ ?_)))
  refine w_seq (w_seq (w_reg (wl_f (f_move rfl) (wl_f (f_eqlnil rfl rfl Tryz.underlying68) ?_))))
  refine wl_end [(0, _), (9, _)] ⟨rfl, rfl, trivial⟩ ?_
  refine w_ift rfl ?_
  refine w_seq (w_reg (wl_f (f_assign rfl) (wl_end [(2, _)] ⟨rfl, trivial⟩ ?_)))
  refine w_ret ?_
  refine ⟨_, _, fun a ha hh => results_tmps Tryz.results74 rfl a ha _, List.Sublist.refl _, ?_⟩
  exact ⟨rfl, rfl⟩
theorem svuntracked_spec {l : Ord} (t m : Nat) (E : List (Option En)) (base total : Nat) (r : Res) (w : World) (hr : SvR t m E l base total r) (hs : Holds w r.foot [r] w) :
    Spec Tryz.prog 80 [.pointer (some ⟨t, 0, .none⟩)] w r.foot fun v H => v = .int .u64 (base : Int) ∧ H = [r] := by
  obtain ⟨L, rfl, hm1, hm2, bR, bX, eV, rR, rX, M, T, rfl, hR, hX, hI⟩ := hr
  refine enter (n := 9) Tryz.func80 rfl rfl [(0, _)] rfl ⟨rfl, trivial⟩ hs ?_
  refine w_seq (w_reg (wl_f (f_assign rfl) (wl_end [(0, _)] ⟨rfl, trivial⟩ ?_)))
  refine w_seq (w_seq (w_reg (wl_f (f_move rfl) (wl_f (f_eqlnil rfl rfl Tryz.underlying68) ?_))))
  refine wl_end [(0, _), (4, _)] ⟨rfl, rfl, trivial⟩ ?_
  refine w_iff rfl ?_
  refine w_skip ?_
  refine w_seq (w_reg (wl_f (f_move rfl) (wl_f (f_nilCheck rfl) (wl_f (f_fieldAddr 4 rfl Tryz.underlying101 rfl rfl (by kernel_rfl)) ?_))))
  refine wl_f (f_loadB 0 0 rfl rfl rfl Tryz.underlying33 rfl rfl) ?_
  refine wl_f (f_assign rfl) (wl_end [(2, _)] ⟨rfl, trivial⟩ ?_)
  refine w_ret ?_
  refine ⟨_, _, fun a ha hh => results_tmps Tryz.results80 rfl a ha _, List.Sublist.refl _, ?_⟩
  exact ⟨rfl, rfl⟩
theorem svtotal_spec {l : Ord} (t m : Nat) (E : List (Option En)) (base total : Nat) (r : Res) (w : World) (hr : SvR t m E l base total r) (hs : Holds w r.foot [r] w) :
    Spec Tryz.prog 79 [.pointer (some ⟨t, 0, .none⟩)] w r.foot fun v H => v = .int .u64 (total : Int) ∧ H = [r] := by
  obtain ⟨L, rfl, hm1, hm2, bR, bX, eV, rR, rX, M, T, rfl, hR, hX, hI⟩ := hr
  refine enter (n := 9) Tryz.func79 rfl rfl [(0, _)] rfl ⟨rfl, trivial⟩ hs ?_
  refine w_seq (w_reg (wl_f (f_assign rfl) (wl_end [(0, _)] ⟨rfl, trivial⟩ ?_)))
  refine w_seq (w_seq (w_reg (wl_f (f_move rfl) (wl_f (f_eqlnil rfl rfl Tryz.underlying68) ?_))))
  refine wl_end [(0, _), (4, _)] ⟨rfl, rfl, trivial⟩ ?_
  refine w_iff rfl ?_
  refine w_skip ?_
  refine w_seq (w_reg (wl_f (f_move rfl) (wl_f (f_nilCheck rfl) (wl_f (f_fieldAddr 5 rfl Tryz.underlying101 rfl rfl (by kernel_rfl)) ?_))))
  refine wl_f (f_loadB 0 0 rfl rfl rfl Tryz.underlying33 rfl rfl) ?_
  refine wl_f (f_assign rfl) (wl_end [(2, _)] ⟨rfl, trivial⟩ ?_)
  refine w_ret ?_
  refine ⟨_, _, fun a ha hh => results_tmps Tryz.results79 rfl a ha _, List.Sublist.refl _, ?_⟩
  exact ⟨rfl, rfl⟩

set_option maxHeartbeats 2000000 in
theorem svget_spec {l : Ord} (t m : Nat) (E : List (Option En)) (base total : Nat) (k : ByteArray) (r : Res) (w : World) (hk : small k) (hr : SvR t m E l base total r) (hs : Holds w r.foot [r] w) :
    Spec Tryz.prog 75 [.pointer (some ⟨t, 0, .none⟩), .string k] w r.foot fun v H => GetG E k v ∧ H = [r] := by
  obtain ⟨L, rfl, hm1, hm2, bR, bX, eV, rR, rX, M, T, rfl, hR, hX, hI⟩ := hr
  have hEl := hI.len
  refine enter (n := 31) Tryz.func75 rfl rfl [(0, _), (1, _)] rfl ⟨rfl, rfl, trivial⟩ hs ?_
  refine w_seq (w_reg (wl_e (e_allocs [.string ByteArray.empty, .int .u64 0, .int .u64 0] (by kernel_rfl)) ?_))
  rintro _ _ w0_0 ⟨b0_0, rfl, rfl⟩
  refine wl_f (f_assign rfl) (wl_end [(0, _), (1, _), (4, _)] ⟨rfl, rfl, rfl, trivial⟩ ?_)
  refine w_seq (w_seq (w_reg (wl_f (f_move rfl) (wl_f (f_eqlnil rfl rfl Tryz.underlying68) ?_))))
  refine wl_end [(0, _), (1, _), (4, _), (9, _)] ⟨rfl, rfl, rfl, rfl, trivial⟩ ?_
  refine w_iff rfl ?_
  refine w_skip ?_
  refine w_seq (w_pick [1, 0] rfl ?_)
  refine w_unb (svl t m bR bX eV E base total rR rX) ?_
  refine w_reg (wl_f (f_move rfl) (wl_f (f_nilCheck rfl) (wl_f (f_fieldAddr 1 rfl Tryz.underlying101 rfl rfl (by kernel_rfl)) ?_)))
  refine wl_f (f_fieldAddr 0 rfl Tryz.underlying99 rfl rfl (by kernel_rfl)) ?_
  refine wl_f (f_loadb 0 rfl Tryz.underlying92 rfl rfl rfl) ?_
  refine wl_f (f_move rfl) (wl_e (e_call1 rX [_, _, _, _] rfl Tryz.func82 (by kernel_rfl) (pk1 3 rfl) (fun w hh hs' => ixget_spec bX m T 0 M rX k w hk hX hs')) ?_)
  rintro _ _ w2 ⟨_, rfl, rfl, rfl⟩
  refine wl_pick [4, 1, 1, 1, 0] rfl ?_
  refine wl_f (f_move rfl) (wl_f (f_extract rfl rfl) ?_)
  refine wl_f (f_extract rfl rfl) ?_
  refine wl_f (f_assign rfl) (wl_f (f_assign rfl) (wl_end [(0, _), (4, _), (6, _), (7, _)] ⟨rfl, rfl, rfl, rfl, trivial⟩ ?_))
  refine w_seq (w_seq (w_reg (wl_f (f_move rfl) (wl_f (f_not rfl rfl) ?_))))
  refine wl_end [(0, _), (4, _), (6, _), (22, _)] ⟨rfl, rfl, rfl, rfl, trivial⟩ ?_
  refine w_ifb rfl (fun hc2 => ?_) (fun hc2 => ?_)
  · skip
    have hno : Hasnt E k := by
      rcases hI.get hX.nd k with ⟨_, _, _, _, h⟩ | ⟨h, _⟩
      · rw [h] at hc2; cases hc2
      · exact h
    refine w_seq (w_reg (wl_f (f_build rfl build_entry0) ?_))
    refine wl_e0 (e_store0 (us := [_, _, _]) rfl rfl rfl (by kernel_rfl) (by simp [Value.oneCell']) rfl rfl) ?_
    rintro _ _ w5_1 rfl
    refine wl_f (f_assign rfl) (wl_end [(4, _), (5, _)] ⟨rfl, rfl, trivial⟩ ?_)
    refine w_pick [1, 1, 1, 1, 0] rfl ?_
    refine w_bun (H := [_]) [_, _, _, _] ?_
    refine w_pick [1, 0] rfl ?_
    refine w_ret ?_
    refine ⟨_, _, fun a ha hh => results_mix Tryz.results75 (rm_cell (cell_agg 0 rfl Tryz.underlying46 rfl (by kernel_rfl) rfl) (rm_tmp rfl rm_nil)) a ha _ hh, List.sublist_cons_self .., ?_⟩
    exact ⟨.inr ⟨hno, rfl⟩, rfl⟩
  · skip
    obtain ⟨i, o, s, hi, hg⟩ : ∃ i o s, Has E k i o s ∧ mget M k = some (i : Int) := by
      rcases hI.get hX.nd k with h | ⟨_, h⟩
      · exact h
      · rw [h] at hc2; exact absurd rfl hc2
    rw [hg]
    have hil : i < E.length := (List.getElem?_eq_some_iff.1 hi).1
    refine w_with fun hh => ?_
    obtain ⟨g, cc, e2⟩ := row_form hh (i := 2) rfl (by omega)
    subst e2
    clear hh
    refine w_skip ?_
    refine w_seq (w_reg (wl_f (f_move rfl) (wl_f (f_nilCheck rfl) (wl_f (f_fieldAddr 3 rfl Tryz.underlying101 rfl rfl (by kernel_rfl)) ?_))))
    refine wl_f (f_loadb 1 rfl Tryz.underlying42 rfl rfl rfl) ?_
    refine wl_f (f_move rfl) (wl_f (f_indexAddr 3 (i := i) rfl rfl Tryz.underlying42 (by kernel_rfl) rfl (by omega)) ?_)
    refine wl_f (f_loadsr (cs := ecell (some (k, o, s))) 2 rfl Tryz.underlying46 rfl (by kernel_rfl) rfl (ecells_get hi)) ?_
    refine wl_e0 (e_store0 (us := [_, _, _]) rfl rfl rfl (by kernel_rfl) (by simp [Value.oneCell']) rfl rfl) ?_
    rintro _ _ w6_7 rfl
    refine wl_f (f_assign rfl) (wl_end [(4, _), (5, _)] ⟨rfl, rfl, trivial⟩ ?_)
    refine w_pick [1, 1, 1, 1, 0] rfl ?_
    refine w_bun (H := [_]) [_, _, _, _] ?_
    refine w_pick [1, 0] rfl ?_
    refine w_ret ?_
    refine ⟨_, _, fun a ha hh => results_mix Tryz.results75 (rm_cell (cell_agg 0 rfl Tryz.underlying46 rfl (by kernel_rfl) rfl) (rm_tmp rfl rm_nil)) a ha _ hh, List.sublist_cons_self .., ?_⟩
    exact ⟨.inl ⟨i, o, s, hi, rfl⟩, rfl⟩

set_option maxHeartbeats 2000000 in
theorem svtake_spec {l : Ord} (t m : Nat) (E : List (Option En)) (base total : Nat) (k : ByteArray) (r : Res) (w : World) (hk : small k) (hr : SvR t m E l base total r) (hs : Holds w r.foot [r] w) :
    Spec Tryz.prog 78 [.pointer (some ⟨t, 0, .none⟩), .string k] w r.foot fun v H => GetG E k v ∧ ∃ r' E' l', H = [r'] ∧ SvR t m E' l' base total r' ∧ ((∃ i o s, Has E k i o s ∧ E' = E.set i none ∧ l' = rem l i ∧ v = .tuple [enV k o s, .bool true].toArray) ∨ (Hasnt E k ∧ E' = E ∧ l' = l)) := by
  have hr0 := hr
  obtain ⟨L, rfl, hm1, hm2, bR, bX, eV, rR, rX, M, T, rfl, hR, hX, hI⟩ := hr
  have hEl := hI.len
  refine enter (n := 27) Tryz.func78 rfl rfl [(0, _), (1, _)] rfl ⟨rfl, rfl, trivial⟩ hs ?_
  refine w_seq (w_reg (wl_e (e_allocs [.string ByteArray.empty, .int .u64 0, .int .u64 0] (by kernel_rfl)) ?_))
  rintro _ _ w0_0 ⟨b0_0, rfl, rfl⟩
  refine wl_f (f_assign rfl) (wl_end [(0, _), (1, _), (4, _)] ⟨rfl, rfl, rfl, trivial⟩ ?_)
  refine w_seq (w_seq (w_reg (wl_f (f_move rfl) (wl_f (f_eqlnil rfl rfl Tryz.underlying68) ?_))))
  refine wl_end [(0, _), (1, _), (4, _), (9, _)] ⟨rfl, rfl, rfl, rfl, trivial⟩ ?_
  refine w_iff rfl ?_
  refine w_skip ?_
  refine w_seq (w_pick [1, 0] rfl ?_)
  refine w_unb (svl t m bR bX eV E base total rR rX) ?_
  refine w_reg (wl_f (f_move rfl) (wl_f (f_nilCheck rfl) (wl_f (f_fieldAddr 1 rfl Tryz.underlying101 rfl rfl (by kernel_rfl)) ?_)))
  refine wl_f (f_fieldAddr 0 rfl Tryz.underlying99 rfl rfl (by kernel_rfl)) ?_
  refine wl_f (f_loadb 0 rfl Tryz.underlying92 rfl rfl rfl) ?_
  refine wl_f (f_move rfl) (wl_e (e_call1 rX [_, _, _, _] rfl Tryz.func82 (by kernel_rfl) (pk1 3 rfl) (fun w hh hs' => ixget_spec bX m T 0 M rX k w hk hX hs')) ?_)
  rintro _ _ w2 ⟨_, rfl, rfl, rfl⟩
  refine wl_pick [1, 1, 1, 0, 0] rfl ?_
  refine wl_bun (H := [_]) [_, _, _, _] ?_
  refine wl_pick [1, 0] rfl ?_
  refine wl_f (f_move rfl) (wl_f (f_extract rfl rfl) ?_)
  refine wl_f (f_extract rfl rfl) ?_
  refine wl_f (f_assign rfl) (wl_f (f_assign rfl) (wl_end [(0, _), (4, _), (6, _), (7, _)] ⟨rfl, rfl, rfl, rfl, trivial⟩ ?_))
  refine w_seq (w_seq (w_reg (wl_f (f_move rfl) (wl_f (f_not rfl rfl) ?_))))
  refine wl_end [(0, _), (4, _), (6, _), (22, _)] ⟨rfl, rfl, rfl, rfl, trivial⟩ ?_
  refine w_ifb rfl (fun hc2 => ?_) (fun hc2 => ?_)
  · skip
    have hno : Hasnt E k := by
      rcases hI.get hX.nd k with ⟨_, _, _, _, h⟩ | ⟨h, _⟩
      · rw [h] at hc2; cases hc2
      · exact h
    refine w_seq (w_reg (wl_f (f_build rfl build_entry0) ?_))
    refine wl_e0 (e_store0 (us := [_, _, _]) rfl rfl rfl (by kernel_rfl) (by simp [Value.oneCell']) rfl rfl) ?_
    rintro _ _ w5_1 rfl
    refine wl_f (f_assign rfl) (wl_end [(4, _), (5, _)] ⟨rfl, rfl, trivial⟩ ?_)
    refine w_ret ?_
    refine ⟨_, _, fun a ha hh => results_mix Tryz.results78 (rm_cell (cell_agg 0 rfl Tryz.underlying46 rfl (by kernel_rfl) rfl) (rm_tmp rfl rm_nil)) a ha _ hh, List.sublist_cons_self .., ?_⟩
    exact ⟨.inr ⟨hno, rfl⟩, _, E, _, rfl, hr0, .inr ⟨hno, rfl, rfl⟩⟩
  · skip
    obtain ⟨i, o, s, hi, hg⟩ : ∃ i o s, Has E k i o s ∧ mget M k = some (i : Int) := by
      rcases hI.get hX.nd k with h | ⟨_, h⟩
      · exact h
      · rw [h] at hc2; exact absurd rfl hc2
    rw [hg]
    refine w_skip ?_
    refine w_seq (w_reg (wl_f (f_move rfl) (wl_f (f_move rfl) (wl_e (e_call1 _ [_] rfl Tryz.func90 (by kernel_rfl) (pk1 1 rfl) (fun w hh hs' => svdrop_spec t m i E base total k o s _ w hi hr0 hs')) ?_))))
    rintro _ _ w3 ⟨_, rfl, rfl, r2, rfl, hr2⟩
    refine wl_pick [1, 0] rfl ?_
    refine wl_e0 (e_store0 (us := [_, _, _]) rfl rfl rfl (by kernel_rfl) (by simp [Value.oneCell']) rfl rfl) ?_
    rintro _ _ w6_3 rfl
    refine wl_f (f_assign rfl) (wl_end [(4, _), (5, _)] ⟨rfl, rfl, trivial⟩ ?_)
    refine w_ret ?_
    refine ⟨_, _, fun a ha hh => results_mix Tryz.results78 (rm_cell (cell_agg 0 rfl Tryz.underlying46 rfl (by kernel_rfl) rfl) (rm_tmp rfl rm_nil)) a ha _ hh, List.sublist_cons_self .., ?_⟩
    exact ⟨.inl ⟨i, o, s, hi, rfl⟩, _, E.set i none, _, rfl, hr2, .inl ⟨i, o, s, hi, rfl, rfl, rfl⟩⟩
end Go.Proofs.YtmagdjlcckgkpaaGreat

/- Sums of weights by key; small numbers out of steps. -/
namespace Go.Proofs.YtmagdjlcckgkpaaGreat
open Go.RowKit

def fadd (f : ByteArray → Nat) (k : ByteArray) (w : Nat) (q : ByteArray) : Nat := if q = k then f q + w else f q
theorem fadd_self (f : ByteArray → Nat) (k : ByteArray) (w : Nat) : fadd f k w k = f k + w := if_pos rfl
theorem fadd_ne {f : ByteArray → Nat} {k q : ByteArray} {w : Nat} (h : q ≠ k) : fadd f k w q = f q := if_neg h
abbrev KW := List (ByteArray × Nat)
def kfst (P : KW) : List ByteArray := P.map Prod.fst
def wsum : KW → ByteArray → Nat
  | [], _ => 0
  | p :: P, q => (if q = p.1 then p.2 else 0) + wsum P q
theorem wsum_snoc (P : KW) (k : ByteArray) (w : Nat) (q : ByteArray) : wsum (P ++ [(k, w)]) q = fadd (wsum P) k w q := by
  induction P with
  | nil => simp only [List.nil_append, wsum, fadd]; split <;> omega
  | cons p P ih =>
    show (if q = p.1 then p.2 else 0) + wsum (P ++ [(k, w)]) q = _
    rw [ih]
    simp only [fadd, wsum]
    split <;> split <;> omega
theorem wsum_fun (P : KW) (k : ByteArray) (w : Nat) : wsum (P ++ [(k, w)]) = fadd (wsum P) k w := funext fun q => wsum_snoc P k w q
theorem wsum_le {P : KW} {b : Nat} (h : ∀ p ∈ P, p.2 ≤ b) (q : ByteArray) : wsum P q ≤ P.length * b := by
  induction P with
  | nil => simp [wsum]
  | cons p P ih =>
    have h1 := h p (List.mem_cons_self ..)
    have h2 := ih fun x hx => h x (List.mem_cons_of_mem _ hx)
    rw [wsum, List.length_cons, Nat.succ_mul]
    split <;> omega
theorem take_snoc' {α : Type} {l : List α} {i : Nat} {t : α} (h : l[i]? = some t) : l.take (i + 1) = l.take i ++ [t] := by rw [List.take_add_one, h]; rfl
theorem lsum_take {l : List En} {i : Nat} {x : En} (h : l[i]? = some x) : lsum (l.take (i + 1)) = lsum (l.take i) + (x.2.1 + x.2.2) := by
  rw [take_snoc' h]; simp [lsum]
theorem lsum_take_le (l : List En) (i : Nat) : lsum (l.take i) ≤ lsum l := by
  conv => rhs; rw [← List.take_append_drop i l]
  simp only [lsum, List.map_append, List.sum_append]
  omega
theorem bnd_step {total i w total' : Nat} (h : total' = total + w) (ht : total ≤ i * 65536) (hw : w ≤ 65536) : total' ≤ (i + 1) * 65536 := by rw [h, Nat.succ_mul]; exact Nat.add_le_add ht hw
theorem and_bound13 (x : Int) (m : Nat) (hm : m < 9223372036854775808) : 0 ≤ bits .and .i64 x m ∧ bits .and .i64 x m ≤ m := by
  have h : bits .and .i64 x m = IntKind.i64.wrap ((BitVec.ofInt 64 x &&& BitVec.ofInt 64 (m : Int)).toNat : Int) := rfl
  have h2 : (BitVec.ofInt 64 (m : Int)).toNat = m := by
    rw [BitVec.toNat_ofInt]; omega
  have h3 : (BitVec.ofInt 64 x &&& BitVec.ofInt 64 (m : Int)).toNat ≤ m := by
    rw [BitVec.toNat_and, h2]; exact Nat.and_le_right
  rw [h, IntKind.wrap_i64]
  omega
theorem mod32 (s : Int) : ∃ n : Nat, bits .and .i64 s 31 = (n : Int) ∧ n < 32 := by
  have h := and_bound13 s 31 (by decide)
  have h1 : bits .and .i64 s ((31 : Nat) : Int) = bits .and .i64 s 31 := rfl
  rw [h1] at h
  exact ⟨(bits .and .i64 s 31).toNat, by omega, by omega⟩
def hvy : ByteArray := ⟨#[104, 101, 97, 118, 121]⟩
end Go.Proofs.YtmagdjlcckgkpaaGreat

/- Space-Saving, plain: what additions keep. -/
namespace Go.Proofs.YtmagdjlcckgkpaaGreat
open Go.RowKit

def ecnt : Option En → Nat
  | none => 0
  | some x => x.2.1 + x.2.2
def esum (E : List (Option En)) : Nat := (E.map ecnt).sum
theorem esum_set {E : List (Option En)} {n : Nat} {o : Option En} (x : Option En) (h : E[n]? = some o) : esum (E.set n x) + ecnt o = esum E + ecnt x := by
  obtain ⟨A, B, rfl, rfl⟩ := split_at h
  rw [set_split]
  simp only [esum, List.map_append, List.map_cons, List.sum_append, List.sum_cons]
  omega
theorem esum_ge {E : List (Option En)} {b : Nat} (h : ∀ x ∈ E, b ≤ ecnt x) : E.length * b ≤ esum E := by
  induction E with
  | nil => simp
  | cons x E ih =>
    have h1 := h x (List.mem_cons_self ..)
    have h2 := ih fun y hy => h y (List.mem_cons_of_mem _ hy)
    simp only [esum, List.map_cons, List.sum_cons, List.length_cons] at h2 ⊢
    rw [Nat.succ_mul]
    omega
structure HInv (E : List (Option En)) (base total : Nat) (f : ByteArray → Nat) : Prop where
  sum : esum E = total
  ge : ∀ k i o s, Has E k i o s → base ≤ o + s
  fre : ∀ i : Nat, E[i]? = some none → base = 0
  yes : ∀ k i o s, Has E k i o s → o ≤ f k ∧ f k ≤ o + s
  no : ∀ k, Hasnt E k → f k ≤ base
  uq : ∀ k i j o s o' s', Has E k i o s → Has E k j o' s' → i = j
theorem esum0 (m : Nat) : esum (List.replicate m none) = 0 := by
  induction m with
  | zero => rfl
  | succ m ih => rw [List.replicate_succ, esum, List.map_cons, List.sum_cons]; exact (Nat.zero_add _).trans ih
theorem has0 {m : Nat} {k : ByteArray} {i o s : Nat} : ¬ Has (List.replicate m none) k i o s := fun h => by
  unfold Has at h; rw [List.getElem?_replicate] at h; split at h <;> cases h
theorem HInv.new (m : Nat) : HInv (List.replicate m none) 0 0 (fun _ => 0) :=
  ⟨esum0 m, fun k i o s h => absurd h has0, fun _ _ => rfl, fun k i o s h => absurd h has0, fun _ _ => Nat.le_refl _, fun k i j o s o' s' h => absurd h has0⟩
theorem HInv.mbase {E : List (Option En)} {base total : Nat} {f : ByteArray → Nat} (h : HInv E base total f) : E.length * base ≤ total := by
  by_cases hf : ∃ i : Nat, E[i]? = some none
  · obtain ⟨i, hi⟩ := hf
    rw [h.fre i hi]; simp
  · rw [← h.sum]
    refine esum_ge fun x hx => ?_
    obtain ⟨i, hi⟩ := List.mem_iff_getElem?.1 hx
    cases x with
    | none => exact absurd ⟨i, hi⟩ hf
    | some x => exact h.ge x.1 i x.2.1 x.2.2 hi
theorem has_set {E : List (Option En)} {n : Nat} {o0 : Option En} {x : En} {k : ByteArray} {i o s : Nat} (hn : E[n]? = some o0) (h : Has (E.set n (some x)) k i o s) : (i = n ∧ x = (k, o, s)) ∨ (i ≠ n ∧ Has E k i o s) := by
  have hl : n < E.length := (List.getElem?_eq_some_iff.1 hn).1
  unfold Has at *
  by_cases e : n = i
  · subst e
    rw [List.getElem?_set_self hl] at h
    injection h with h; injection h with h
    exact .inl ⟨rfl, h⟩
  · rw [List.getElem?_set_ne e] at h
    exact .inr ⟨fun e' => e e'.symm, h⟩
theorem has_set_self {E : List (Option En)} {n : Nat} {o0 : Option En} {k : ByteArray} {o s : Nat} (hn : E[n]? = some o0) : Has (E.set n (some (k, o, s))) k n o s :=
  List.getElem?_set_self (List.getElem?_eq_some_iff.1 hn).1
theorem has_set_ne {E : List (Option En)} {n i : Nat} {x : Option En} {k : ByteArray} {o s : Nat} (hi : i ≠ n) (h : Has E k i o s) : Has (E.set n x) k i o s := by
  unfold Has at *
  rw [List.getElem?_set_ne (fun e => hi e.symm)]; exact h
theorem HInv.found {E : List (Option En)} {base total i o s w : Nat} {k : ByteArray} {f : ByteArray → Nat} (h : HInv E base total f) (hi : Has E k i o s) : HInv (E.set i (some (k, o + w, s))) base (total + w) (fadd f k w) := by
  have hs := esum_set (some (k, o + w, s)) hi
  refine ⟨?_, fun q j o' s' hj => ?_, fun j hj => ?_, fun q j o' s' hj => ?_, fun q hq => ?_, fun q a b o1 s1 o2 s2 ha hb => ?_⟩
  · simp only [ecnt] at hs; have := h.sum; omega
  · rcases has_set hi hj with ⟨rfl, e⟩ | ⟨_, hj⟩
    · injection e with e1 e; injection e with e2 e3
      have := h.ge k j o s hi
      omega
    · exact h.ge q j o' s' hj
  · have hl : i < E.length := (List.getElem?_eq_some_iff.1 hi).1
    by_cases e : i = j
    · subst e; rw [List.getElem?_set_self hl] at hj; cases hj
    · rw [List.getElem?_set_ne e] at hj; exact h.fre j hj
  · rcases has_set hi hj with ⟨rfl, e⟩ | ⟨hne, hj2⟩
    · injection e with e1 e; injection e with e2 e3
      subst e1; subst e3
      rw [fadd_self]
      have := h.yes k j o s hi
      omega
    · have hqk : q ≠ k := fun e => hne (h.uq q j i o' s' o s hj2 (by rw [e]; exact hi))
      rw [fadd_ne hqk]
      exact h.yes q j o' s' hj2
  · have hqk : q ≠ k := fun e => by subst e; exact hq i (o + w) s (has_set_self hi)
    rw [fadd_ne hqk]
    refine h.no q fun j o' s' hj => ?_
    have hne : j ≠ i := fun e => by
      subst e
      have hj' : E[j]? = some (some (q, o', s')) := hj
      have hi' : E[j]? = some (some (k, o, s)) := hi
      rw [hi'] at hj'
      injection hj' with e; injection e with e; injection e with e _; exact hqk e.symm
    exact hq j o' s' (has_set_ne hne hj)
  · rcases has_set hi ha with ⟨ea, e⟩ | ⟨hna, ha2⟩
    · rcases has_set hi hb with ⟨eb, _⟩ | ⟨_, hb2⟩
      · rw [ea, eb]
      · injection e with e _; rw [ea]; exact h.uq q i b o s o2 s2 (by rw [← e]; exact hi) hb2
    · rcases has_set hi hb with ⟨eb, e⟩ | ⟨_, hb2⟩
      · injection e with e _; rw [eb]; exact h.uq q a i o1 s1 o s ha2 (by rw [← e]; exact hi)
      · exact h.uq q a b o1 s1 o2 s2 ha2 hb2
theorem HInv.new_ {m : Nat} {E E1 : List (Option En)} {base base' total n w : Nat} {k : ByteArray} {f : ByteArray → Nat} (h : HInv E base total f) (hm : E.length = m) (hno : Hasnt E k) (hf : FreeG m E base n E1 base') : HInv (E1.set n (some (k, w, base'))) base' (total + w) (fadd f k w) := by
  have hno1 := hf.hasnt hno
  have hlen : E1.length = E.length := by
    obtain ⟨_, _, ⟨rfl, _⟩ | ⟨_, _, _, _, _, rfl, _⟩⟩ := hf
    · rfl
    · exact List.length_set
  have hn := hf.2.1
  have hs := esum_set (some (k, w, base')) hn
  have hkey : ∀ q, q ≠ k → Hasnt (E1.set n (some (k, w, base'))) q → Hasnt E1 q := fun q hq hh j o s hj => by
    refine hh j o s (has_set_ne (fun e => ?_) hj)
    subst e
    have hj' : E1[j]? = some (some (q, o, s)) := hj
    rw [hn] at hj'; cases hj'
  obtain ⟨hnm, _, hcase⟩ := hf
  have hbb : base ≤ base' := by
    rcases hcase with ⟨_, rfl, _⟩ | ⟨_, k0, o0, s0, hi0, rfl, rfl, _⟩
    · exact Nat.le_refl _
    · exact h.ge k0 n o0 s0 hi0
  have hsub : ∀ q j o s, Has E1 q j o s → Has E q j o s := fun q j o s hj => by
    rcases hcase with ⟨rfl, _, _⟩ | ⟨_, k0, o0, s0, hi0, rfl, _, _⟩
    · exact hj
    · have hjn : j ≠ n := fun e => by
        subst e
        have hj' : (E.set j none)[j]? = some (some (q, o, s)) := hj
        rw [hn] at hj'; cases hj'
      unfold Has at *
      rw [List.getElem?_set_ne (fun e => hjn e.symm)] at hj
      exact hj
  have hge : ∀ q j o s, Has E1 q j o s → base' ≤ o + s := fun q j o s hj => by
    rcases hcase with ⟨rfl, rfl, _⟩ | ⟨_, k0, o0, s0, hi0, _, rfl, hle⟩
    · exact h.ge q j o s hj
    · exact hle j q o s (hsub q j o s hj)
  refine ⟨?_, fun q j o' s' hj => ?_, fun j hj => ?_, fun q j o' s' hj => ?_, fun q hq => ?_, fun q a b o1 s1 o2 s2 ha hb => ?_⟩
  · have hsum := h.sum
    rcases hcase with ⟨rfl, rfl, _⟩ | ⟨_, k0, o0, s0, hi0, rfl, rfl, _⟩
    · have hb0 := h.fre n hn
      simp only [ecnt] at hs
      omega
    · have hs0 := esum_set none hi0
      simp only [ecnt] at hs hs0
      omega
  · rcases has_set hn hj with ⟨rfl, e⟩ | ⟨_, hj⟩
    · injection e with e1 e; injection e with e2 e3; omega
    · exact hge q j o' s' hj
  · have hl : n < E1.length := (List.getElem?_eq_some_iff.1 hn).1
    by_cases e : n = j
    · subst e; rw [List.getElem?_set_self hl] at hj; cases hj
    · rw [List.getElem?_set_ne e] at hj
      rcases hcase with ⟨rfl, rfl, _⟩ | ⟨hall, k0, o0, s0, hi0, rfl, rfl, _⟩
      · exact h.fre j hj
      · rw [List.getElem?_set_ne e] at hj
        have hjl : j < E.length := (List.getElem?_eq_some_iff.1 hj).1
        obtain ⟨x, hx⟩ := hall j (by omega)
        rw [hx] at hj; cases hj
  · rcases has_set hn hj with ⟨rfl, e⟩ | ⟨hne, hj2⟩
    · injection e with e1 e; injection e with e2 e3
      subst e1; subst e2; subst e3
      rw [fadd_self]
      have := h.no k hno
      omega
    · have hqk : q ≠ k := fun e => hno1 j o' s' (by rw [← e]; exact hj2)
      rw [fadd_ne hqk]
      exact h.yes q j o' s' (hsub q j o' s' hj2)
  · have hqk : q ≠ k := fun e => by subst e; exact hq n w base' (has_set_self hn)
    rw [fadd_ne hqk]
    have h1 := hkey q hqk hq
    rcases hcase with ⟨rfl, rfl, _⟩ | ⟨_, k0, o0, s0, hi0, rfl, rfl, _⟩
    · exact h.no q h1
    · by_cases hq0 : q = k0
      · subst hq0; exact (h.yes q n o0 s0 hi0).2
      · have : Hasnt E q := fun j o s hj => by
          have hjn : j ≠ n := fun e => by
            subst e
            have hj' : E[j]? = some (some (q, o, s)) := hj
            have hi' : E[j]? = some (some (k0, o0, s0)) := hi0
            rw [hi'] at hj'
            injection hj' with e; injection e with e; injection e with e _; exact hq0 e.symm
          exact h1 j o s (has_set_ne hjn hj)
        have := h.no q this
        omega
  · rcases has_set hn ha with ⟨ea, e⟩ | ⟨hna, ha2⟩
    · rcases has_set hn hb with ⟨eb, _⟩ | ⟨_, hb2⟩
      · rw [ea, eb]
      · injection e with e _; exact absurd hb2 (by rw [← e]; exact hno1 b o2 s2)
    · rcases has_set hn hb with ⟨eb, e⟩ | ⟨_, hb2⟩
      · injection e with e _; exact absurd ha2 (by rw [← e]; exact hno1 a o1 s1)
      · exact h.uq q a b o1 s1 o2 s2 (hsub _ _ _ _ ha2) (hsub _ _ _ _ hb2)
theorem HInv.add {m : Nat} {E E' : List (Option En)} {base base' total total' w : Nat} {k : ByteArray} {e : Int} {f : ByteArray → Nat} (h : HInv E base total f) (hm : E.length = m) (hA : AddG m E base total k w e E' base' total') :
    (e ≠ 0 ∧ E' = E ∧ base' = base ∧ total' = total) ∨ (e = 0 ∧ total' = total + w ∧ HInv E' base' total' (fadd f k w) ∧ E'.length = m) := by
  rcases hA with ⟨he, rfl, rfl, rfl, _⟩ | ⟨rfl, _, _, _, rfl, ⟨i, o, s, hi, rfl, rfl⟩ | ⟨hno, n, E1, hf, rfl⟩⟩
  · exact .inl ⟨he, rfl, rfl, rfl⟩
  · exact .inr ⟨rfl, rfl, h.found hi, by rw [List.length_set]; exact hm⟩
  · refine .inr ⟨rfl, rfl, h.new_ hm hno hf, ?_⟩
    rw [List.length_set]
    obtain ⟨_, _, ⟨rfl, _⟩ | ⟨_, _, _, _, _, rfl, _⟩⟩ := hf
    · exact hm
    · rw [List.length_set]; exact hm
theorem AddG.ok {m : Nat} {E E' : List (Option En)} {base base' total total' w : Nat} {k : ByteArray} {e : Int} (hA : AddG m E base total k w e E' base' total') (hk : k ≠ ByteArray.empty) (hw : w ≠ 0) (ht : total + w ≤ 9223372036854775808) : e = 0 := by
  rcases hA with ⟨_, _, _, _, h⟩ | ⟨h, _⟩
  · rcases h with ⟨h, _⟩ | ⟨_, h, _⟩ | ⟨_, _, h, _⟩
    · exact absurd h hk
    · exact absurd h hw
    · omega
  · exact h
theorem SvR.len {t m : Nat} {E : List (Option En)} {base total : Nat} {r : Res} {l : Ord} (h : SvR t m E l base total r) : E.length = m := by
  obtain ⟨L, rfl, hm1, hm2, bR, bX, eV, rR, rX, M, T, rfl, hR, hX, hI⟩ := h
  exact hI.len
theorem GetG.form {E : List (Option En)} {k : ByteArray} {v : Value} (h : GetG E k v) : ∃ (k' : ByteArray) (o s : Nat) (is : Bool), v = .tuple [enV k' o s, .bool is].toArray ∧ (is = true → ∃ i, Has E k i o s ∧ k' = k) ∧ (is = false → Hasnt E k ∧ o = 0 ∧ s = 0 ∧ k' = ByteArray.empty) := by
  rcases h with ⟨i, o, s, hi, rfl⟩ | ⟨hno, rfl⟩
  · exact ⟨k, o, s, true, rfl, (fun _ => ⟨i, hi, rfl⟩), (fun e => by cases e)⟩
  · exact ⟨ByteArray.empty, 0, 0, false, rfl, (fun e => by cases e), (fun _ => ⟨hno, rfl, rfl, rfl⟩)⟩
end Go.Proofs.YtmagdjlcckgkpaaGreat

/- Tables of tracked keys: all entries. -/
namespace Go.Proofs.YtmagdjlcckgkpaaGreat
open Go.RowKit

theorem esum_fm (E : List (Option En)) : esum E = lsum (E.filterMap id) := by
  induction E with
  | nil => rfl
  | cons x E ih =>
    cases x with
    | none => rw [List.filterMap_cons]; simp only [id]; rw [← ih]; simp [esum, ecnt]
    | some x => rw [List.filterMap_cons]; simp only [id, lsum, List.map_cons, List.sum_cons] at ih ⊢; rw [← ih]; simp [esum, ecnt]
theorem mem_fm {E : List (Option En)} {x : En} : x ∈ E.filterMap id ↔ ∃ i, Has E x.1 i x.2.1 x.2.2 := by
  rw [List.mem_filterMap]
  constructor
  · rintro ⟨a, ha, e⟩
    have e : a = some x := e
    subst e
    exact List.mem_iff_getElem?.1 ha
  · rintro ⟨i, hi⟩
    exact ⟨some x, List.mem_iff_getElem?.2 ⟨i, hi⟩, rfl⟩
theorem fm_nodup {m : Nat} {E : List (Option En)} {l : Ord} {M : List (ByteArray × Int)} (h : SInv m E l M) (hM : (keys M).Nodup) : (E.filterMap id).Nodup := by
  rw [List.Nodup, List.pairwise_filterMap, List.pairwise_iff_getElem]
  intro i j hi hj hij b hb c hc e
  subst e
  have h1 : E[i]? = some (some (b.1, b.2.1, b.2.2)) := by rw [List.getElem?_eq_getElem hi]; exact congrArg some hb
  have h2 : E[j]? = some (some (b.1, b.2.1, b.2.2)) := by rw [List.getElem?_eq_getElem hj]; exact congrArg some hc
  have := h.uniq hM h1 h2
  omega
theorem fm_perm {m : Nat} {E : List (Option En)} {l : Ord} {M : List (ByteArray × Int)} (h : SInv m E l M) (hM : (keys M).Nodup) {es : List En} {ks : List ByteArray} (hk : es.map Prod.fst = ks) (hp : ks.Perm (keys M)) (hes : ∀ x ∈ es, ∃ i, Has E x.1 i x.2.1 x.2.2) : es.Perm (E.filterMap id) := by
  have hnd : es.Nodup := by
    have h1 : (es.map Prod.fst).Nodup := by rw [hk]; exact hp.nodup_iff.2 hM
    exact (List.pairwise_map.1 h1).imp fun h e => h (by rw [e])
  rw [List.perm_ext_iff_of_nodup hnd (fm_nodup h hM)]
  intro x
  rw [mem_fm]
  refine ⟨hes x, fun ⟨i, hi⟩ => ?_⟩
  have h1 : x.1 ∈ ks := hp.mem_iff.2 ((keys_free h).2 ⟨i, x.2.1, x.2.2, hi⟩)
  rw [← hk] at h1
  obtain ⟨y, hy, e⟩ := List.mem_map.1 h1
  obtain ⟨j, hj⟩ := hes y hy
  rw [e] at hj
  have hij := h.uniq hM hi hj
  subst hij
  have hi' : E[i]? = some (some (x.1, x.2.1, x.2.2)) := hi
  have hj' : E[i]? = some (some (x.1, y.2.1, y.2.2)) := hj
  rw [hi'] at hj'
  injection hj' with a; injection a with a; injection a with _ a; injection a with a1 a2
  have : y = x := by
    obtain ⟨y1, y2, y3⟩ := y
    obtain ⟨x1, x2, x3⟩ := x
    dsimp only at e a1 a2
    rw [e, a1, a2]
  rw [← this]; exact hy
set_option maxHeartbeats 4000000 in
theorem sventries_spec {l : Ord} (t m : Nat) (E : List (Option En)) (base total : Nat) (r : Res) (w : World) (hm12 : m ≤ 12) (hr : SvR t m E l base total r) (hs : Holds w r.foot [r] w) :
    Spec Tryz.prog 74 [.pointer (some ⟨t, 0, .none⟩)] w r.foot fun v H => ∃ es : List En, H = [row v 46 3 es.length (encs es), r] ∧ es.Perm (E.filterMap id) ∧ Srts (es.map Prod.fst) := by
  obtain ⟨L, rfl, hm1, hm2, bR, bX, eV, rR, rX, M, T, rfl, hR, hX, hI⟩ := hr
  have hEl := hI.len
  have hMl := hX.len
  refine enter (n := 43) Tryz.func74 rfl rfl [(0, _)] rfl ⟨rfl, trivial⟩ hs ?_
  refine w_seq (w_reg (wl_f (f_assign rfl) (wl_end [(0, _)] ⟨rfl, trivial⟩ ?_)))
  refine w_seq (w_seq (w_reg (wl_f (f_move rfl) (wl_f (f_eqlnil rfl rfl Tryz.underlying68) ?_))))
  refine wl_end [(0, _), (9, _)] ⟨rfl, rfl, trivial⟩ ?_
  refine w_iff rfl ?_
  refine w_skip ?_
  refine w_seq (w_reg (wl_f (f_assign rfl) (wl_end [(0, _), (3, _)] ⟨rfl, rfl, trivial⟩ ?_)))
  refine w_seq (w_seq (w_unb (svl t m bR bX eV E base total rR rX) ?_))
  refine w_with fun hh => ?_
  obtain ⟨g, cc, e2⟩ := row_form hh (i := 1) rfl (by omega)
  subst e2
  clear hh
  refine w_reg (wl_f (f_move rfl) (wl_f (f_nilCheck rfl) (wl_f (f_fieldAddr 1 rfl Tryz.underlying101 rfl rfl (by kernel_rfl)) ?_)))
  refine wl_f (f_fieldAddr 0 rfl Tryz.underlying99 rfl rfl (by kernel_rfl)) ?_
  refine wl_f (f_loadb 0 rfl Tryz.underlying92 rfl rfl rfl) ?_
  refine wl_e (e_call1 rX [_, _, _] rfl Tryz.func86 (by kernel_rfl) (pk1 3 rfl) (fun w hh hs' => ikeys_spec bX m T 0 M rX w hm12 hX hs')) ?_
  rintro vk _ w4 ⟨_, rfl, ks, rfl, hkp, hks⟩
  refine wl_with fun hh => ?_
  obtain ⟨Ak, ck, rfl⟩ := row_slice hh (i := 0) rfl
  clear hh
  have hkl : ks.length = M.length := by rw [hkp.length_eq, keys, List.length_map]
  refine wl_f (f_len rfl Tryz.underlying30) ?_
  refine wl_f (f_move rfl) (wl_end [(0, _), (3, _), (15, _), (16, _), (17, _)] ⟨rfl, rfl, rfl, rfl, rfl, trivial⟩ ?_)
  refine w_block ?_
  refine w_nilrow 46 3 ?_
  refine w_loop (fun kk m' H w => ∃ (v : Value) (es : List En) (rest : List ByteArray), m' = [(0, .pointer (some ⟨t, 0, .none⟩)), (3, v), (15, .slice Ak ks.length ck), (16, .int .i64 ks.length), (17, .int .i64 es.length)] ∧
    H = [row v 46 3 es.length (encs es), row (.slice Ak ks.length ck) 9 1 ks.length (sv ks), rX, blk t [.pointer (some ⟨bR, 0, .none⟩), .pointer (some ⟨bX, 0, .none⟩), .int .i64 (m : Int), .slice (some ⟨g, 0, .none⟩) m cc, .int .u64 (base : Int), .int .u64 (total : Int)] 101, row (.slice (some ⟨g, 0, .none⟩) m cc) 46 3 m (ecells E), rR] ∧
    kk = rest.length ∧ ks = es.map Prod.fst ++ rest ∧ ∀ x ∈ es, ∃ i, Has E x.1 i x.2.1 x.2.2) ks.length ⟨_, [], ks, rfl, rfl, rfl, rfl, by simp⟩ ?_
  rintro kk _ _ w5 ⟨v, es, rest, rfl, rfl, rfl, hke, hes⟩
  have hel : ks.length = es.length + rest.length := by rw [hke]; simp
  refine w_seq (w_reg (wl_f (f_lss rfl rfl) ?_))
  refine wl_end [(0, _), (3, _), (15, _), (16, _), (17, _), (18, _)] ⟨rfl, rfl, rfl, rfl, rfl, rfl, trivial⟩ ?_
  refine w_seq ?_
  refine w_ifd rfl (fun hc2 => ?_) (fun hc2 => ?_)
  · skip
    obtain ⟨k, rest2, rfl⟩ : ∃ k rest2, rest = k :: rest2 := by
      cases rest with
      | nil =>
        have : (es.length : Int) < (ks.length : Int) := hc2
        simp at hel
        omega
      | cons k rest2 => exact ⟨k, rest2, rfl⟩
    rw [List.length_cons] at hel
    have hkk : ks[es.length]? = some k := by rw [hke]; simp
    have hkM : k ∈ keys M := hkp.mem_iff.1 (List.mem_of_getElem? hkk)
    obtain ⟨i, o, s, hi⟩ := (keys_free hI).1 hkM
    have hg := mget_some hX.nd ((hI.idx k i).2 ⟨i, o, s, rfl, hi⟩)
    have hksm := (hI.sm i k o s hi).1
    have hil : i < E.length := (List.getElem?_eq_some_iff.1 hi).1
    refine w_with fun hh => ?_
    obtain ⟨gk, cpk, e⟩ := row_form hh (i := 1) rfl (by omega)
    cases e
    clear hh
    refine w_skip ?_
    refine w_seq (w_block ?_)
    refine w_seq (w_reg (wl_f (f_indexAddr 1 (i := es.length) rfl rfl Tryz.underlying30 (by kernel_rfl) rfl (by omega)) ?_))
    refine wl_f (f_loadr (v := .string k) 1 rfl Tryz.underlying9 rfl rfl (map_get Value.string hkk)) ?_
    refine wl_f (f_assign rfl) (wl_end [(0, _), (3, _), (5, _), (15, _), (16, _), (17, _)] ⟨rfl, rfl, rfl, rfl, rfl, rfl, trivial⟩ ?_)
    refine w_seq (w_reg (wl_f (f_move rfl) (wl_f (f_nilCheck rfl) (wl_f (f_fieldAddr 1 rfl Tryz.underlying101 rfl rfl (by kernel_rfl)) ?_))))
    refine wl_f (f_fieldAddr 0 rfl Tryz.underlying99 rfl rfl (by kernel_rfl)) ?_
    refine wl_f (f_loadb 3 rfl Tryz.underlying92 rfl rfl rfl) ?_
    refine wl_f (f_move rfl) (wl_e (e_call1 rX [_, _, _, _, _] rfl Tryz.func82 (by kernel_rfl) (pk1 2 rfl) (fun w hh hs' => ixget_spec bX m T 0 M rX k w hksm hX hs')) ?_)
    rw [hg]
    rintro _ _ w7 ⟨_, rfl, rfl, rfl⟩
    refine wl_f (f_move rfl) (wl_f (f_extract rfl rfl) ?_)
    refine wl_f (f_extract rfl rfl) ?_
    refine wl_f (f_assign rfl) (wl_f (f_assign rfl) (wl_end [(0, _), (3, _), (6, _), (15, _), (16, _), (17, _)] ⟨rfl, rfl, rfl, rfl, rfl, rfl, trivial⟩ ?_))
    refine w_reg (wl_f (f_move rfl) (wl_f (f_move rfl) (wl_f (f_nilCheck rfl) (wl_f (f_fieldAddr 3 rfl Tryz.underlying101 rfl rfl (by kernel_rfl)) ?_))))
    refine wl_f (f_loadb 3 rfl Tryz.underlying42 rfl rfl rfl) ?_
    refine wl_f (f_move rfl) (wl_f (f_indexAddr 3 (i := i) rfl rfl Tryz.underlying42 (by kernel_rfl) rfl (by omega)) ?_)
    refine wl_f (f_loadsr (cs := ecell (some (k, o, s))) 4 rfl Tryz.underlying46 rfl (by kernel_rfl) rfl (ecells_get hi)) ?_
    refine wl_e (e_lit1 (cs := [_, _, _]) t42 rfl rfl rfl (by omega)) ?_
    rintro _ _ w8_8 ⟨b8_8, rfl, rfl⟩
    refine wl_e (e_appN 2 t42 rfl rfl rfl (fun w hh => Rd.held0 hh (i := 0) rfl) (by simp [Value.oneCell']) (by omega) (by omega)) ?_
    rintro v2 _ w8 ⟨_, rfl⟩
    refine wl_f (f_assign rfl) (wl_pick [2, 2, 1, 1, 1, 1] rfl ?_)
    refine wl_end [(0, _), (3, _), (15, _), (16, _), (17, _)] ⟨rfl, rfl, rfl, rfl, rfl, trivial⟩ ?_
    refine w_reg (wl_f (f_add rfl rfl (by omega)) ?_)
    refine wl_f (f_move rfl) (wl_end [(0, _), (3, _), (15, _), (16, _), (17, _)] ⟨rfl, rfl, rfl, rfl, rfl, trivial⟩ ?_)
    refine ⟨rest2.length, Nat.lt_succ_self _, v2, es ++ [(k, o, s)], rest2, ?_, ?_, rfl, ?_, fun x hx => ?_⟩
    · rw [show ((es ++ [(k, o, s)]).length : Int) = (es.length : Int) + 1 by simp]
    · rw [encs_snoc, List.length_append]; rfl
    · rw [hke]; simp
    · rcases List.mem_append.1 hx with h | h
      · exact hes x h
      · rw [List.mem_singleton] at h; subst h; exact ⟨i, hi⟩
  · skip
    obtain rfl : rest = [] := by
      cases rest with
      | nil => rfl
      | cons k rest2 =>
        rw [List.length_cons] at hel
        exact absurd (show (es.length : Int) < (ks.length : Int) by omega) hc2
    rw [List.append_nil] at hke
    refine w_exit0 ?_
    refine w_seq (w_reg (wl_f (f_move rfl) (wl_f (f_assign rfl) (wl_end [(2, _)] ⟨rfl, trivial⟩ ?_))))
    refine w_pick [3, 3, 3, 2, 0] rfl ?_
    refine w_bun (H := [_]) [_, _, _, _] ?_
    refine w_pick [1, 0] rfl ?_
    refine w_ret ?_
    refine ⟨_, _, fun a ha hh => results_tmps Tryz.results74 rfl a ha _, List.Sublist.refl _, ?_⟩
    exact ⟨es, rfl, fm_perm hI hX.nd hke.symm hkp hes, by have h5 := hks; rw [hke] at h5; exact h5⟩
end Go.Proofs.YtmagdjlcckgkpaaGreat
