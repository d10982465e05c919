/- The law RanksSorted: the call returns true. -/
import Derived.Test.YtkabdnijhjccoaaRS0
namespace Go.Proofs.Ytkabdnijhjccoaa
open Go.RowKit

set_option maxHeartbeats 4000000 in
theorem ranksSorted_spec (z : Nat) (A : Option Addr) (c : Nat) (L : List Int) (w : World) (hz : z < 256) (hx : Rd w Nil 1 (.slice A L.length c) L.length (iv L)) (hl : L.length ≤ 140737488355328) :
    Spec Try.prog 8 [.int .u8 z, .slice A L.length c] w Nil fun r _ => r = .bool true := by
  obtain ⟨A', c', e, hxl, hxc, hxA⟩ := id hx
  injection e with e1 _ e3
  subst e1; subst e3
  refine enter (n := 123) Try.func8 rfl rfl [(0, _), (1, _)] rfl ⟨rfl, rfl, trivial⟩ (Holds.start _ _) ?_
  refine w_seq ?_
  refine w_reg ?_
  refine wl_f (f_assign rfl) ?_
  refine wl_end [(0, _), (1, _)] ⟨rfl, rfl, trivial⟩ ?_
  refine w_seq ?_
  refine w_reg ?_
  refine wl_f (f_move rfl) ?_
  refine wl_f (f_convi rfl Try.underlying5 Try.underlying3 (by omega)) ?_
  refine wl_f (f_rem rfl rfl (by omega)) ?_
  refine wl_f (f_eqv (v' := .int .i64 ((1 + z % 16 : Nat) : Int)) (f_add rfl rfl (by omega)) (by congr 1)) ?_
  refine wl_e (e_call0 rfl Try.func45 (by kernel_rfl) (fun w hh => rknew_ok (1 + z % 16) w (by omega) (by omega))) ?_
  rintro u _ w1 ⟨_, rfl, b, r0, rfl, rfl, hr⟩
  have hr0 := RkO.new hr
  clear hr
  have hn : 1 + z % 16 ≤ 16 := by omega
  generalize 1 + z % 16 = n at hr0 hn
  refine wl_f (f_move rfl) ?_
  refine wl_f (f_extract rfl rfl) ?_
  refine wl_f (f_extract rfl rfl) ?_
  refine wl_f (f_assign rfl) ?_
  refine wl_f (f_assign rfl) ?_
  refine wl_end [(1, _), (5, _), (6, _)] ⟨rfl, rfl, rfl, trivial⟩ ?_
  refine w_seq ?_
  refine w_seq ?_
  refine w_reg ?_
  refine wl_f (f_move rfl) ?_
  refine wl_f (f_neq rfl rfl) ?_
  refine wl_f (f_move rfl) ?_
  refine wl_or (j := 2) (c := false) 2 [(1, _), (5, _)] ⟨rfl, rfl, trivial⟩ rfl rfl rfl rfl rfl (fun hg2_5 => ?_) (fun w2_5 => ?_)
  · skip
    refine wl_gf rfl rfl (f_move rfl) ?_
    refine wl_gf rfl rfl (f_eqlnil rfl rfl Try.underlying59) ?_
    exact wl_pend rfl rfl ⟨rfl, rfl, trivial⟩ (List.Sublist.refl _)
  refine wl_end [(1, _), (5, _), (31, _)] ⟨rfl, rfl, rfl, trivial⟩ ?_
  refine w_iff rfl ?_
  refine w_skip ?_
  refine w_seq ?_
  refine w_seq ?_
  refine w_reg ?_
  refine wl_f (f_assign rfl) ?_
  refine wl_end [(1, _), (5, _), (7, _)] ⟨rfl, rfl, rfl, trivial⟩ ?_
  refine w_block ?_
  refine w_loop (fun k m H w' => ∃ (i : Nat) (l : Ord) (r : Res), m = [(1, .slice A L.length c), (5, .pointer (some ⟨b, 0, .none⟩)), (7, .int .i64 i)] ∧ H = [r] ∧ RkO b n l r ∧ k + i = 60 ∧ i ≤ L.length) 60
    ⟨0, [], r0, rfl, rfl, hr0, rfl, Nat.zero_le _⟩ ?_
  rintro k _ _ w2 ⟨i, l, r, rfl, rfl, hr, hk, hiL⟩
  refine w_seq ?_
  refine w_seq ?_
  refine w_reg ?_
  refine wl_f (f_move rfl) ?_
  refine wl_f (f_move rfl) ?_
  refine wl_f (f_len rfl Try.underlying33) ?_
  refine wl_f (f_lss rfl rfl) ?_
  refine wl_f (f_move rfl) ?_
  refine wl_and (j := 4) (c := decide ((i : Int) < 60)) 2 [(1, _), (5, _), (7, _)] ⟨rfl, rfl, rfl, trivial⟩ rfl rfl rfl rfl rfl (fun hg5_7 => ?_) (fun w5_7 => ?_)
  · skip
    refine wl_gf rfl rfl (f_move rfl) ?_
    refine wl_gf rfl rfl (f_lss rfl rfl) ?_
    exact wl_pend rfl rfl ⟨rfl, rfl, rfl, trivial⟩ (List.Sublist.refl _)
  refine wl_end [(1, _), (5, _), (7, _), (39, _)] ⟨rfl, rfl, rfl, rfl, trivial⟩ ?_
  refine w_ifb rfl (fun hc2 => ?_) (fun hc2 => ?_)
  · skip
    simp only [Bool.and_eq_true, decide_eq_true_eq] at hc2
    have hi : i < L.length := by omega
    obtain ⟨s, hsi⟩ : ∃ s, L[i]? = some s := ⟨_, List.getElem?_eq_getElem hi⟩
    obtain ⟨b2, off, rfl, _, _, hcell⟩ := hxA.resolve_left (by omega)
    refine w_skip ?_
    refine w_seq ?_
    refine w_post (fun m H w' => ∃ (l' : Ord) (r' : Res), m = [(1, .slice (some ⟨b2, off, .none⟩) L.length c), (5, .pointer (some ⟨b, 0, .none⟩)), (7, .int .i64 i)] ∧ H = [r'] ∧ RkO b n l' r') ?_ ?_
    · skip
      refine w_block ?_
      refine w_seq ?_
      refine w_reg ?_
      refine wl_f (f_move rfl) ?_
      refine wl_f (f_move rfl) ?_
      refine wl_f (f_indexAddr 1 (i := i) rfl rfl Try.underlying33 (by kernel_rfl) rfl hi) ?_
      refine wl_f (f_loado (v := .int .i64 s) rfl Try.underlying3 rfl (hcell _ _ (by simp [iv, hsi])) id) ?_
      refine wl_f (f_assign rfl) ?_
      refine wl_end [(1, _), (5, _), (7, _), (8, _)] ⟨rfl, rfl, rfl, rfl, trivial⟩ ?_
      refine w_seq ?_
      refine w_reg ?_
      refine wl_f (f_move rfl) ?_
      refine wl_f (f_and rfl rfl rfl) ?_
      refine wl_f (f_eql rfl rfl) ?_
      refine wl_end [(1, _), (5, _), (7, _), (8, _), (48, _)] ⟨rfl, rfl, rfl, rfl, rfl, trivial⟩ ?_
      refine w_ifd rfl (fun hc3 => ?_) (fun hc3 => ?_)
      · skip
        refine w_reg ?_
        refine wl_f (f_move rfl) ?_
        refine wl_f (f_move rfl) ?_
        refine wl_f (f_shr rfl rfl (by omega) rfl) ?_
        refine wl_f (f_and rfl rfl rfl) ?_
        refine wl_f (f_move rfl) ?_
        refine wl_f (f_shr rfl rfl (by omega) rfl) ?_
        refine wl_f (f_and rfl rfl rfl) ?_
        refine wl_f (f_convw rfl Try.underlying3 Try.underlying63 rfl) ?_
        generalize hw : IntKind.u64.wrap _ = cw
        obtain ⟨cw, rfl, hcw⟩ := wrap_u64 hw
        refine wl_e (e_call1 r [] rfl Try.func46 (by kernel_rfl) (List.Perm.refl _) (fun w hh hs => rkinsert_spec b n l r _ cw w hr hs)) ?_
        rintro _ _ w3 ⟨_, rfl, rfl, r', rfl, hr'⟩
        refine wl_end [(1, _), (5, _), (7, _)] ⟨rfl, rfl, rfl, trivial⟩ ?_
        exact ⟨_, _, rfl, rfl, hr'⟩
      · skip
        refine w_reg ?_
        refine wl_f (f_move rfl) ?_
        refine wl_f (f_move rfl) ?_
        refine wl_f (f_shr rfl rfl (by omega) rfl) ?_
        refine wl_f (f_and rfl rfl rfl) ?_
        refine wl_f (f_move rfl) ?_
        refine wl_f (f_shr rfl rfl (by omega) rfl) ?_
        refine wl_f (f_and rfl rfl rfl) ?_
        refine wl_f (f_convw rfl Try.underlying3 Try.underlying63 rfl) ?_
        generalize hw : IntKind.u64.wrap _ = cw
        obtain ⟨cw, rfl, hcw⟩ := wrap_u64 hw
        refine wl_e (e_call1 r [] rfl Try.func47 (by kernel_rfl) (List.Perm.refl _) (fun w hh hs => rkraise_spec b n l r _ cw w hcw hr hs)) ?_
        rintro _ _ w3 ⟨_, rfl, rfl, r', rfl, _, hr'⟩
        refine wl_end [(1, _), (5, _), (7, _)] ⟨rfl, rfl, rfl, trivial⟩ ?_
        exact ⟨_, _, rfl, rfl, hr'⟩
    · rintro _ _ w4 ⟨l', r', rfl, rfl, hr'⟩
      refine w_reg ?_
      refine wl_f (f_move rfl) ?_
      refine wl_f (f_add rfl rfl (by omega)) ?_
      refine wl_f (f_assign rfl) ?_
      refine wl_end [(1, _), (5, _), (7, _)] ⟨rfl, rfl, rfl, trivial⟩ ?_
      exact ⟨k - 1, by omega, i + 1, l', r', rfl, rfl, hr', by omega, by omega⟩
  · skip
    refine w_exit0 ?_
    refine w_seq ?_
    refine w_reg ?_
    refine wl_f (f_move rfl) ?_
    refine wl_e (e_call1 r [] rfl Try.func48 (by kernel_rfl) (List.Perm.refl _) (fun w hh hs => rkorder_spec b n l r w hr hs)) ?_
    rintro u _ w5 ⟨_, rfl, rfl⟩
    refine wl_with fun hh => ?_
    obtain ⟨Au, cu, rfl⟩ := row_slice hh (i := 0) rfl
    clear hh
    have hO := hr.inv
    clear hxA hx
    refine wl_f (f_assign rfl) ?_
    refine wl_end [(5, _), (9, _)] ⟨rfl, rfl, trivial⟩ ?_
    refine w_seq ?_
    refine w_reg ?_
    refine wl_f (f_assign rfl) ?_
    refine wl_end [(5, _), (9, _), (10, _)] ⟨rfl, rfl, rfl, trivial⟩ ?_
    refine w_seq ?_
    refine w_seq ?_
    refine w_reg ?_
    refine wl_f (f_move rfl) ?_
    refine wl_f (f_len rfl Try.underlying33) ?_
    refine wl_f (f_move rfl) ?_
    refine wl_end [(5, _), (9, _), (10, _), (69, _), (70, _), (71, _)] ⟨rfl, rfl, rfl, rfl, rfl, rfl, trivial⟩ ?_
    refine w_block ?_
    refine w_loop (fun k m H w' => ∃ (i : Nat) (last : Nat), m = [(5, .pointer (some ⟨b, 0, .none⟩)), (9, .slice Au l.length cu), (10, .int .u64 last), (69, .slice Au l.length cu), (70, .int .i64 l.length), (71, .int .i64 i)] ∧ H = [row (.slice Au l.length cu) 3 1 l.length (iv (ids l)), r] ∧
      k + i = l.length ∧ ∀ p, l[i]? = some p → last ≤ p.2) l.length ⟨0, 0, rfl, rfl, rfl, fun _ _ => Nat.zero_le _⟩ ?_
    rintro k _ _ w6 ⟨i, last, rfl, rfl, hk, hlast⟩
    refine w_seq ?_
    refine w_reg ?_
    refine wl_f (f_lss rfl rfl) ?_
    refine wl_end [(5, _), (9, _), (10, _), (69, _), (70, _), (71, _), (72, _)] ⟨rfl, rfl, rfl, rfl, rfl, rfl, rfl, trivial⟩ ?_
    refine w_seq ?_
    refine w_ifd rfl (fun hc4 => ?_) (fun hc4 => ?_)
    · skip
      have hi : i < l.length := by
        have : (i : Int) < (l.length : Int) := hc4
        omega
      obtain ⟨p, hp⟩ : ∃ p, l[i]? = some p := ⟨_, List.getElem?_eq_getElem hi⟩
      have hlp := hlast p hp
      have hlk := look_get hO.nd hp
      have hol := hO.len
      obtain ⟨p0, l0, rfl⟩ : ∃ p0 l0, l = p0 :: l0 := by
        cases l with
        | nil => simp at hi
        | cons p0 l0 => exact ⟨p0, l0, rfl⟩
      refine w_with fun hh => ?_
      obtain ⟨g, cp, e⟩ := row_form hh (i := 0) rfl (by simp)
      cases e
      clear hh
      refine w_skip ?_
      refine w_seq ?_
      refine w_block ?_
      refine w_seq ?_
      refine w_reg ?_
      refine wl_f (f_move rfl) ?_
      refine wl_f (f_indexAddr 1 (i := i) rfl rfl Try.underlying33 (by kernel_rfl) rfl hi) ?_
      refine wl_f (f_loadr (v := .int .i64 p.1) 0 rfl Try.underlying3 rfl rfl (map_get (Value.int .i64) (ids_get hp))) ?_
      refine wl_f (f_assign rfl) ?_
      refine wl_f (f_assign rfl) ?_
      refine wl_end [(5, _), (9, _), (10, _), (11, _), (12, _), (69, _), (70, _), (71, _)] ⟨rfl, rfl, rfl, rfl, rfl, rfl, rfl, rfl, trivial⟩ ?_
      refine w_seq ?_
      refine w_reg ?_
      refine wl_f (f_move rfl) ?_
      refine wl_f (f_move rfl) ?_
      refine wl_e (e_call1 r [_] rfl Try.func50 (by kernel_rfl) (List.Perm.swap ..) (fun w hh hs => rkcount_spec b n _ r p.1 w hr hs)) ?_
      rintro _ _ w7 ⟨_, rfl, rfl, rfl⟩
      rw [hlk]
      refine wl_f (f_move rfl) ?_
      refine wl_f (f_extract rfl rfl) ?_
      refine wl_f (f_extract rfl rfl) ?_
      refine wl_f (f_assign rfl) ?_
      refine wl_f (f_assign rfl) ?_
      refine wl_end [(5, _), (9, _), (10, _), (11, _), (12, _), (13, _), (14, _), (69, _), (70, _), (71, _)] ⟨rfl, rfl, rfl, rfl, rfl, rfl, rfl, rfl, rfl, rfl, trivial⟩ ?_
      refine w_seq ?_
      refine w_reg ?_
      refine wl_f (f_move rfl) ?_
      refine wl_e (e_call1 r [_] rfl Try.func51 (by kernel_rfl) (List.Perm.refl _) (fun w hh hs => rkleast_spec b n _ r w hr hs)) ?_
      rintro _ _ w8 ⟨_, rfl, rfl, rfl⟩
      refine wl_pick [1, 0] rfl ?_
      refine wl_f (f_move rfl) ?_
      refine wl_f (f_extract rfl rfl) ?_
      refine wl_f (f_extract rfl rfl) ?_
      refine wl_f (f_extract rfl rfl) ?_
      refine wl_f (f_assign rfl) ?_
      refine wl_f (f_assign rfl) ?_
      refine wl_f (f_assign rfl) ?_
      refine wl_end [(5, _), (9, _), (10, _), (11, _), (12, _), (13, _), (14, _), (15, _), (16, _), (17, _), (69, _), (70, _), (71, _)] ⟨rfl, rfl, rfl, rfl, rfl, rfl, rfl, rfl, rfl, rfl, rfl, rfl, rfl, trivial⟩ ?_
      refine w_seq ?_
      refine w_seq ?_
      refine w_reg ?_
      refine wl_f (f_move rfl) ?_
      refine wl_f (f_not rfl rfl) ?_
      refine wl_f (f_move rfl) ?_
      refine wl_or (j := 2) (c := decide ((p.2 : Int) < (last : Int))) 3 [(5, _), (9, _), (11, _), (12, _), (13, _), (15, _), (16, _), (17, _), (69, _), (70, _), (71, _)] ⟨rfl, rfl, rfl, rfl, rfl, rfl, rfl, rfl, rfl, rfl, rfl, trivial⟩ rfl rfl rfl rfl rfl (fun hg18_6 => ?_) (fun w18_6 => ?_)
      · skip
        refine wl_gf rfl rfl (f_move rfl) ?_
        refine wl_gf rfl rfl (f_move rfl) ?_
        refine wl_gf rfl rfl (f_lss rfl rfl) ?_
        exact wl_pend rfl rfl ⟨rfl, rfl, rfl, rfl, rfl, rfl, rfl, rfl, rfl, rfl, rfl, trivial⟩ (List.Sublist.refl _)
      refine wl_f (f_move rfl) ?_
      refine wl_or (j := 7) (c := (decide ((i : Int) = 0) && ((!true || decide (p0.1 ≠ p.1)) || decide ((p0.2 : Int) ≠ (p.2 : Int))))) 16 [(5, _), (9, _), (13, _), (69, _), (70, _), (71, _)] ⟨rfl, rfl, rfl, rfl, rfl, rfl, trivial⟩ rfl rfl rfl rfl rfl (fun hg18_24 => ?_) (fun w18_24 => ?_)
      · skip
        refine wl_gf rfl rfl (f_move rfl) ?_
        refine wl_gf rfl rfl (f_eql rfl rfl) ?_
        refine wl_gf rfl rfl (f_move rfl) ?_
        refine wl_andg (j := 10) (c := ((!true || decide (p0.1 ≠ p.1)) || decide ((p0.2 : Int) ≠ (p.2 : Int)))) 12 [(5, _), (9, _), (13, _), (69, _), (70, _), (71, _), (95, _)] ⟨rfl, rfl, rfl, rfl, rfl, rfl, rfl, trivial⟩ rfl rfl rfl rfl rfl rfl rfl (fun hg18_23 => ?_) (fun w18_23 => ?_)
        · skip
          refine wl_gf rfl rfl (f_move rfl) ?_
          refine wl_gf rfl rfl (f_not rfl rfl) ?_
          refine wl_gf rfl rfl (f_move rfl) ?_
          refine wl_org (j := 13) (c := decide (p0.1 ≠ p.1)) 3 [(5, _), (9, _), (13, _), (16, _), (69, _), (70, _), (71, _), (95, _), (98, _)] ⟨rfl, rfl, rfl, rfl, rfl, rfl, rfl, rfl, rfl, trivial⟩ rfl rfl rfl rfl rfl rfl rfl (fun hg18_17 => ?_) (fun w18_17 => ?_)
          · skip
            refine wl_gf rfl rfl (f_move rfl) ?_
            refine wl_gf rfl rfl (f_move rfl) ?_
            refine wl_gf rfl rfl (f_neq rfl rfl) ?_
            exact wl_pend rfl rfl ⟨rfl, rfl, rfl, rfl, rfl, rfl, rfl, rfl, rfl, trivial⟩ (List.Sublist.refl _)
          refine wl_gf rfl rfl (f_move rfl) ?_
          refine wl_org (j := 18) (c := decide ((p0.2 : Int) ≠ (p.2 : Int))) 3 [(5, _), (9, _), (13, _), (69, _), (70, _), (71, _), (95, _), (98, _)] ⟨rfl, rfl, rfl, rfl, rfl, rfl, rfl, rfl, trivial⟩ rfl rfl rfl rfl rfl rfl rfl (fun hg18_22 => ?_) (fun w18_22 => ?_)
          · skip
            refine wl_gf rfl rfl (f_move rfl) ?_
            refine wl_gf rfl rfl (f_move rfl) ?_
            refine wl_gf rfl rfl (f_neq rfl rfl) ?_
            exact wl_pend rfl rfl ⟨rfl, rfl, rfl, rfl, rfl, rfl, rfl, rfl, trivial⟩ (List.Sublist.refl _)
          exact wl_pend rfl rfl ⟨rfl, rfl, rfl, rfl, rfl, rfl, rfl, trivial⟩ (List.Sublist.refl _)
        exact wl_pend rfl rfl ⟨rfl, rfl, rfl, rfl, rfl, rfl, trivial⟩ (List.Sublist.refl _)
      refine wl_end [(5, _), (9, _), (13, _), (69, _), (70, _), (71, _), (112, _)] ⟨rfl, rfl, rfl, rfl, rfl, rfl, rfl, trivial⟩ ?_
      refine w_ifb rfl (fun h => absurd h (by
        have e1 : decide ((p.2 : Int) < (last : Int)) = false := decide_eq_false (by omega)
        rw [e1]
        by_cases h0 : i = 0
        · subst h0; simp at hp; subst hp; simp
        · rw [show decide ((i : Int) = 0) = false from decide_eq_false (by omega)]; simp)) (fun _ => ?_)
      refine w_skip ?_
      refine w_reg ?_
      refine wl_f (f_move rfl) ?_
      refine wl_f (f_assign rfl) ?_
      refine wl_end [(5, _), (9, _), (10, _), (69, _), (70, _), (71, _)] ⟨rfl, rfl, rfl, rfl, rfl, rfl, trivial⟩ ?_
      refine w_reg ?_
      refine wl_f (f_add rfl rfl (by omega)) ?_
      refine wl_f (f_move rfl) ?_
      refine wl_end [(5, _), (9, _), (10, _), (69, _), (70, _), (71, _)] ⟨rfl, rfl, rfl, rfl, rfl, rfl, trivial⟩ ?_
      exact ⟨k - 1, by omega, i + 1, p.2, rfl, rfl, by omega, fun q hq => asc_get hO.asc hp hq⟩
    · skip
      refine w_exit0 ?_
      refine w_seq ?_
      refine w_reg ?_
      refine wl_f (f_move rfl) ?_
      refine wl_f (f_len rfl Try.underlying33) ?_
      refine wl_f (f_move rfl) ?_
      refine wl_e (e_call1 r [_] rfl Try.func52 (by kernel_rfl) (List.Perm.swap ..) (fun w hh hs => rklen_spec b n l r w hr hs)) ?_
      rintro _ _ w9 ⟨_, rfl, rfl, rfl⟩
      refine wl_f (f_eql rfl rfl) ?_
      refine wl_f (f_move rfl) ?_
      refine wl_and (j := 5) (c := true) 1 [] trivial rfl rfl rfl rfl rfl (fun hg22_7 => ?_) (fun w22_7 => ?_)
      · skip
        refine wl_ge rfl rfl (e_call0 rfl Try.func49 (by kernel_rfl) (fun w hh => awake12_spec w)) ?_
        rintro _ _ w15 ⟨_, rfl, rfl⟩
        exact wl_pend rfl rfl trivial (List.sublist_append_right _ _)
      refine wl_f (f_assign rfl) ?_
      refine wl_end [(4, _)] ⟨rfl, trivial⟩ ?_
      refine w_ret ?_
      refine ⟨_, _, fun a ha hh => results_tmps Try.results8 rfl a ha _, List.Sublist.refl _, ?_⟩
      show Value.bool _ = _
      simp
end Go.Proofs.Ytkabdnijhjccoaa
