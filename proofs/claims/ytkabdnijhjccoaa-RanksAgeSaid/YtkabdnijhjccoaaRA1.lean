/- The law RanksAge: the call returns true. -/
import Derived.Test.YtkabdnijhjccoaaRS0
namespace Go.Proofs.Ytkabdnijhjccoaa
open Go.RowKit

def mkO (W : List Int) (c : Nat) : Ord := W.map fun z => (z, c)
theorem ids_mkO (W : List Int) (c : Nat) : ids (mkO W c) = W := by simp [ids, mkO, Function.comp_def]
theorem mkO_len (W : List Int) (c : Nat) : (mkO W c).length = W.length := by simp [mkO]
theorem ins_mkO (W : List Int) (c : Nat) (z : Int) : ins (mkO W c) z c = mkO (W ++ [z]) c := by
  have h := ins_at (A := mkO W c) (B := []) (id := z) (c := c) (fun p hp => by obtain ⟨y, _, rfl⟩ := List.mem_map.1 hp; exact Nat.le_refl _) (by simp)
  rw [List.append_nil] at h
  rw [h]
  simp [mkO]
theorem age_ins (W : List Int) (z : Int) (c : Nat) (h0 : 0 ≤ z) (h1 : z < 40) (hc : c ≤ 9223372036854775808) : oins 40 (mkO W c) z c = if z ∈ W then (10, mkO W c) else (0, mkO (W ++ [z]) c) := by
  rw [oins, if_neg (by omega), ids_mkO]
  by_cases h : z ∈ W
  · rw [if_pos h, if_pos h]
  · rw [if_neg h, if_neg h, if_neg (by omega), ins_mkO]
theorem age_fin (W : List Int) (c k : Nat) (hW : (39 : Int) ∉ W) (hc : c + k ≤ 9223372036854775808) :
    (oins 40 (mkO W (c + k)) 39 c).1 = 0 ∧ (orai (oins 40 (mkO W (c + k)) 39 c).2 39 k).1 = 0 ∧ (orai (oins 40 (mkO W (c + k)) 39 c).2 39 k).2 = mkO (W ++ [39]) (c + k) := by
  have e1 : oins 40 (mkO W (c + k)) 39 c = (0, ins (mkO W (c + k)) 39 c) := by
    rw [oins, if_neg (by omega), ids_mkO, if_neg hW, if_neg (by omega)]
  rw [e1]
  refine ⟨rfl, ?_⟩
  by_cases hk : k = 0
  · subst hk
    rw [Nat.add_zero, ins_mkO]
    have e2 : look (mkO (W ++ [39]) c) 39 = some c := by
      have : mkO (W ++ [39]) c = mkO W c ++ [(39, c)] := by simp [mkO]
      rw [this]
      exact look_at (by rw [ids_mkO]; exact hW)
    simp only [orai, e2]
    rw [if_pos (by omega), if_pos trivial]
    exact ⟨rfl, rfl⟩
  · have e3 : ins (mkO W (c + k)) 39 c = (39, c) :: mkO W (c + k) := by
      have h := ins_at (A := []) (B := mkO W (c + k)) (id := 39) (c := c) (by simp) (fun p hp => by obtain ⟨y, _, rfl⟩ := List.mem_map.1 hp; show c < c + k; omega)
      exact h
    have e2 : look ((39, c) :: mkO W (c + k)) 39 = some c := by rw [look, if_pos rfl]
    have e4 : rem ((39, c) :: mkO W (c + k)) 39 = mkO W (c + k) := by rw [rem, if_pos rfl]
    rw [e3]
    simp only [orai, e2]
    rw [if_pos hc, if_neg hk, e4, ins_mkO]
    exact ⟨rfl, rfl⟩
theorem age_raise0 (W : List Int) (c : Nat) (hW : (39 : Int) ∉ W) (hc : c ≤ 9223372036854775808) : orai (mkO (W ++ [39]) c) 39 0 = (0, mkO (W ++ [39]) c) := by
  have e2 : look (mkO (W ++ [39]) c) 39 = some c := by
    have : mkO (W ++ [39]) c = mkO W c ++ [(39, c)] := by simp [mkO]
    rw [this]
    exact look_at (by rw [ids_mkO]; exact hW)
  simp only [orai, e2]
  rw [if_pos (by omega), if_pos trivial]

set_option maxHeartbeats 4000000 in
theorem ranksAge_spec (A : Option Addr) (ca : Nat) (L : List Int) (c k : Nat) (w : World) (hx : Rd w Nil 1 (.slice A L.length ca) L.length (L.map (Value.int .u8))) (hl : L.length ≤ 140737488355328) (hL : ∀ z ∈ L, 0 ≤ z ∧ z ≤ 255) (hc : c < 4294967296) (hk : k < 65536) :
    Spec Try.prog 7 [.slice A L.length ca, .int .u32 c, .int .u16 k] w Nil fun r _ => r = .bool true := by
  obtain ⟨A', c', e, hxl, hxc, hxA⟩ := id hx
  injection e with e1 _ e3
  subst e1; subst e3
  refine enter (n := 107) Try.func7 rfl rfl [(0, _), (1, _), (2, _)] rfl ⟨rfl, rfl, rfl, trivial⟩ (Holds.start _ _) ?_
  refine w_seq ?_
  refine w_reg ?_
  refine wl_f (f_assign rfl) ?_
  refine wl_end [(0, _), (1, _), (2, _)] ⟨rfl, rfl, rfl, trivial⟩ ?_
  refine w_seq ?_
  refine w_reg ?_
  refine wl_e (e_call0 rfl Try.func45 (by kernel_rfl) (fun w hh => rknew_ok 40 w (by omega) (by omega))) ?_
  rintro u _ w1 ⟨_, rfl, b, r0, rfl, rfl, hr⟩
  have hr0 := RkO.new hr
  clear hr
  refine wl_f (f_move rfl) ?_
  refine wl_f (f_extract rfl rfl) ?_
  refine wl_f (f_extract rfl rfl) ?_
  refine wl_f (f_assign rfl) ?_
  refine wl_f (f_assign rfl) ?_
  refine wl_end [(0, _), (1, _), (2, _), (7, _), (8, _)] ⟨rfl, rfl, rfl, rfl, rfl, trivial⟩ ?_
  refine w_seq ?_
  refine w_seq ?_
  refine w_reg ?_
  refine wl_f (f_move rfl) ?_
  refine wl_f (f_neq rfl rfl) ?_
  refine wl_f (f_move rfl) ?_
  refine wl_or (j := 2) (c := false) 2 [(0, _), (1, _), (2, _), (7, _)] ⟨rfl, rfl, rfl, rfl, trivial⟩ rfl rfl rfl rfl rfl (fun hg2_5 => ?_) (fun w2_5 => ?_)
  · skip
    refine wl_gf rfl rfl (f_move rfl) ?_
    refine wl_gf rfl rfl (f_eqlnil rfl rfl Try.underlying59) ?_
    exact wl_pend rfl rfl ⟨rfl, rfl, rfl, rfl, trivial⟩ (List.Sublist.refl _)
  refine wl_end [(0, _), (1, _), (2, _), (7, _), (23, _)] ⟨rfl, rfl, rfl, rfl, rfl, trivial⟩ ?_
  refine w_iff rfl ?_
  refine w_skip ?_
  refine w_seq ?_
  refine w_reg ?_
  refine wl_f (f_assign rfl) ?_
  refine wl_end [(0, _), (1, _), (2, _), (7, _), (9, _)] ⟨rfl, rfl, rfl, rfl, rfl, trivial⟩ ?_
  refine w_seq ?_
  refine w_seq ?_
  refine w_reg ?_
  refine wl_f (f_assign rfl) ?_
  refine wl_end [(0, _), (1, _), (2, _), (7, _), (9, _), (10, _)] ⟨rfl, rfl, rfl, rfl, rfl, rfl, trivial⟩ ?_
  refine w_block ?_
  refine w_nilrow 3 1 ?_
  refine w_loop (fun kk m H w' => ∃ (i : Nat) (W : List Int) (v : Value) (r : Res), m = [(0, .slice A L.length ca), (1, .int .u32 c), (2, .int .u16 k), (7, .pointer (some ⟨b, 0, .none⟩)), (9, v), (10, .int .i64 i)] ∧ H = [row v 3 1 W.length (iv W), r] ∧
    RkO b 40 (mkO W (c + k)) r ∧ kk + i = 30 ∧ i ≤ L.length ∧ ∀ z ∈ W, z < 39) 30
    ⟨0, [], _, r0, rfl, rfl, hr0, rfl, Nat.zero_le _, by simp⟩ ?_
  rintro kk _ _ w2 ⟨i, W, v, r, rfl, rfl, hr, hkk, hiL, hW⟩
  refine w_seq ?_
  refine w_seq ?_
  refine w_reg ?_
  refine wl_f (f_move rfl) ?_
  refine wl_f (f_move rfl) ?_
  refine wl_f (f_len rfl Try.underlying56) ?_
  refine wl_f (f_lss rfl rfl) ?_
  refine wl_f (f_move rfl) ?_
  refine wl_and (j := 4) (c := decide ((i : Int) < 30)) 2 [(0, _), (1, _), (2, _), (7, _), (9, _), (10, _)] ⟨rfl, rfl, rfl, rfl, rfl, rfl, trivial⟩ rfl rfl rfl rfl rfl (fun hg6_7 => ?_) (fun w6_7 => ?_)
  · skip
    refine wl_gf rfl rfl (f_move rfl) ?_
    refine wl_gf rfl rfl (f_lss rfl rfl) ?_
    exact wl_pend rfl rfl ⟨rfl, rfl, rfl, rfl, rfl, rfl, trivial⟩ (List.Sublist.refl _)
  refine wl_end [(0, _), (1, _), (2, _), (7, _), (9, _), (10, _), (31, _)] ⟨rfl, rfl, rfl, rfl, rfl, rfl, rfl, trivial⟩ ?_
  refine w_ifb rfl (fun hc2 => ?_) (fun hc2 => ?_)
  · skip
    simp only [Bool.and_eq_true, decide_eq_true_eq] at hc2
    have hi : i < L.length := by omega
    obtain ⟨s, hsi⟩ : ∃ s, L[i]? = some s := ⟨_, List.getElem?_eq_getElem hi⟩
    have hs := hL s (List.mem_of_getElem? hsi)
    obtain ⟨b2, off, rfl, _, _, hcell⟩ := hxA.resolve_left (by omega)
    have hWl := hr.inv.len
    rw [mkO_len] at hWl
    refine w_skip ?_
    refine w_seq ?_
    refine w_post (fun m H w' => ∃ (W' : List Int) (v' : Value) (r' : Res), m = [(0, .slice (some ⟨b2, off, .none⟩) L.length ca), (1, .int .u32 c), (2, .int .u16 k), (7, .pointer (some ⟨b, 0, .none⟩)), (9, v'), (10, .int .i64 i)] ∧ H = [row v' 3 1 W'.length (iv W'), r'] ∧
      RkO b 40 (mkO W' (c + k)) r' ∧ ∀ z ∈ W', z < 39) ?_ ?_
    · skip
      refine w_block ?_
      refine w_seq ?_
      refine w_reg ?_
      refine wl_f (f_move rfl) ?_
      refine wl_f (f_move rfl) ?_
      refine wl_f (f_indexAddr 1 (i := i) rfl rfl Try.underlying56 (by kernel_rfl) rfl hi) ?_
      refine wl_f (f_loado (v := .int .u8 s) rfl Try.underlying5 rfl (hcell _ _ (by simp [hsi])) id) ?_
      refine wl_f (f_convi rfl Try.underlying5 Try.underlying3 (by omega)) ?_
      refine wl_f (f_rem rfl rfl (by omega)) ?_
      refine wl_f (f_assign rfl) ?_
      refine wl_end [(0, _), (1, _), (2, _), (7, _), (9, _), (10, _), (11, _)] ⟨rfl, rfl, rfl, rfl, rfl, rfl, rfl, trivial⟩ ?_
      refine w_seq ?_
      refine w_reg ?_
      refine wl_f (f_move rfl) ?_
      refine wl_f (f_move rfl) ?_
      refine wl_f (f_move rfl) ?_
      refine wl_f (f_convu rfl Try.underlying57 Try.underlying63 (by omega)) ?_
      refine wl_f (f_move rfl) ?_
      refine wl_f (f_convu rfl Try.underlying58 Try.underlying63 (by omega)) ?_
      refine wl_f (f_eqv (v' := .int .u64 ((c + k : Nat) : Int)) (f_addu rfl rfl (by omega)) (by rw [Int.natCast_add])) ?_
      refine wl_e (e_call1 r [_] rfl Try.func46 (by kernel_rfl) (List.Perm.swap ..) (fun w hh hs => rkinsert_spec b 40 _ r (s % 39) (c + k) w hr hs)) ?_
      rw [age_ins W (s % 39) (c + k) (by omega) (by omega) (by omega)]
      rintro _ _ w3 ⟨_, rfl, rfl, r', rfl, hr'⟩
      refine wl_pick [1, 0] rfl ?_
      refine wl_f (f_eql rfl rfl) ?_
      refine wl_end [(0, _), (1, _), (2, _), (7, _), (9, _), (10, _), (11, _), (48, _)] ⟨rfl, rfl, rfl, rfl, rfl, rfl, rfl, rfl, trivial⟩ ?_
      refine w_ifd rfl (fun hc3 => ?_) (fun hc3 => ?_)
      · skip
        have hm : s % 39 ∉ W := fun h => by rw [if_pos h] at hc3; exact absurd (show (10 : Int) = 0 from hc3) (by decide)
        rw [if_neg hm] at hr'
        refine w_reg ?_
        refine wl_f (f_move rfl) ?_
        refine wl_f (f_move rfl) ?_
        refine wl_e (e_lit1 (cs := [_]) t33 rfl rfl rfl (by omega)) ?_
        rintro _ _ w10_2 ⟨b10_2, rfl, rfl⟩
        refine wl_e (e_app1 t33 rfl rfl (fun w hh => Rd.held0 hh (i := 0) rfl) (by simp [Value.oneCell']) (by omega) (by omega)) ?_
        rintro v2 _ w4 rfl
        refine wl_f (f_assign rfl) ?_
        refine wl_pick [1, 1] rfl ?_
        refine wl_end [(0, _), (1, _), (2, _), (7, _), (9, _), (10, _)] ⟨rfl, rfl, rfl, rfl, rfl, rfl, trivial⟩ ?_
        refine ⟨W ++ [s % 39], v2, r', rfl, by rw [List.length_append, iv_app]; rfl, hr', fun z hz => ?_⟩
        rcases List.mem_append.1 hz with h | h
        · exact hW z h
        · rw [List.mem_singleton] at h; omega
      · skip
        have hm : s % 39 ∈ W := Classical.byContradiction fun h => by rw [if_neg h] at hc3; exact absurd rfl hc3
        rw [if_pos hm] at hr'
        refine w_sub [(0, _), (1, _), (2, _), (7, _), (9, _), (10, _)] ⟨rfl, rfl, rfl, rfl, rfl, rfl, trivial⟩ (w_skip ?_)
        exact ⟨W, v, r', rfl, rfl, hr', hW⟩
    · rintro _ _ w5 ⟨W', v', r', rfl, rfl, hr', hW'⟩
      refine w_reg ?_
      refine wl_f (f_move rfl) ?_
      refine wl_f (f_add rfl rfl (by omega)) ?_
      refine wl_f (f_assign rfl) ?_
      refine wl_end [(0, _), (1, _), (2, _), (7, _), (9, _), (10, _)] ⟨rfl, rfl, rfl, rfl, rfl, rfl, trivial⟩ ?_
      exact ⟨kk - 1, by omega, i + 1, W', v', r', rfl, rfl, hr', by omega, by omega, hW'⟩
  · skip
    have h39 : (39 : Int) ∉ W := fun h => by have := hW 39 h; omega
    have hWl := hr.inv.len
    rw [mkO_len] at hWl
    obtain ⟨e1, e2, e3⟩ := age_fin W c k h39 (by omega)
    refine w_exit0 ?_
    refine w_seq ?_
    refine w_reg ?_
    refine wl_f (f_move rfl) ?_
    refine wl_f (f_move rfl) ?_
    refine wl_f (f_convu rfl Try.underlying57 Try.underlying63 (by omega)) ?_
    refine wl_e (e_call1 r [_] rfl Try.func46 (by kernel_rfl) (List.Perm.swap ..) (fun w hh hs => rkinsert_spec b 40 _ r 39 c w hr hs)) ?_
    rw [e1]
    rintro _ _ w6 ⟨_, rfl, rfl, r1, rfl, hr1⟩
    refine wl_f (f_assign rfl) ?_
    refine wl_end [(2, _), (7, _), (9, _), (12, _)] ⟨rfl, rfl, rfl, rfl, trivial⟩ ?_
    refine w_seq ?_
    refine w_reg ?_
    refine wl_f (f_move rfl) ?_
    refine wl_f (f_move rfl) ?_
    refine wl_f (f_convu rfl Try.underlying58 Try.underlying63 (by omega)) ?_
    refine wl_e (e_call1 r1 [_] rfl Try.func47 (by kernel_rfl) (List.Perm.refl _) (fun w hh hs => rkraise_spec b 40 _ r1 39 k w (by omega) hr1 hs)) ?_
    rw [e2, e3]
    rintro _ _ w7 ⟨_, rfl, rfl, r2, rfl, _, hr2⟩
    refine wl_pick [1, 0] rfl ?_
    refine wl_f (f_assign rfl) ?_
    refine wl_end [(2, _), (7, _), (9, _), (12, _), (13, _)] ⟨rfl, rfl, rfl, rfl, rfl, trivial⟩ ?_
    refine w_seq ?_
    refine w_reg ?_
    refine wl_f (f_move rfl) ?_
    refine wl_e (e_lit1 (cs := [_]) t33 rfl rfl rfl (by omega)) ?_
    rintro _ _ w13_1 ⟨b13_1, rfl, rfl⟩
    refine wl_e (e_app1 t33 rfl rfl (fun w hh => Rd.held0 hh (i := 0) rfl) (by simp [Value.oneCell']) (by omega) (by omega)) ?_
    rintro v3 _ w8 rfl
    rw [show W.length + 1 = (W ++ [39]).length by simp, ← iv_app]
    refine wl_f (f_assign rfl) ?_
    refine wl_pick [1, 1] rfl ?_
    have hWl2 : (W ++ [39]).length ≤ 140737488355328 := by simp; omega
    refine wl_end [(2, _), (7, _), (9, _), (12, _), (13, _)] ⟨rfl, rfl, rfl, rfl, rfl, trivial⟩ ?_
    refine w_seq ?_
    refine w_seq ?_
    refine w_reg ?_
    refine wl_f (f_move rfl) ?_
    refine wl_f (f_eql rfl rfl) ?_
    refine wl_end [(7, _), (9, _), (12, _), (13, _), (65, _)] ⟨rfl, rfl, rfl, rfl, rfl, trivial⟩ ?_
    refine w_ifd rfl (fun hc4 => ?_) (fun hc4 => ?_)
    · skip
      refine w_seq ?_
      refine w_reg ?_
      refine wl_f (f_move rfl) ?_
      refine wl_f (f_eql rfl rfl) ?_
      refine wl_f (f_move rfl) ?_
      refine wl_and (j := 2) (c := true) 2 [(7, _), (9, _)] ⟨rfl, rfl, trivial⟩ rfl rfl rfl rfl rfl (fun hg15_5 => ?_) (fun w15_5 => ?_)
      · skip
        refine wl_gf rfl rfl (f_move rfl) ?_
        refine wl_gf rfl rfl (f_eql rfl rfl) ?_
        exact wl_pend rfl rfl ⟨rfl, rfl, trivial⟩ (List.Sublist.refl _)
      refine wl_f (f_move rfl) ?_
      refine wl_and (j := 6) (c := decide ((W ++ [39] : List Int) = W ++ [39])) 4 [] trivial rfl rfl rfl rfl rfl (fun hg15_11 => ?_) (fun w15_11 => ?_)
      · skip
        refine wl_gf rfl rfl (f_move rfl) ?_
        refine wl_ge rfl rfl (e_call1 r2 [_] rfl Try.func48 (by kernel_rfl) (List.Perm.swap ..) (fun w hh hs => rkorder_spec b 40 _ r2 w hr2 hs)) ?_
        rintro u _ w9 ⟨_, rfl, rfl⟩
        rw [ids_mkO, mkO_len]
        refine wl_gf rfl rfl (f_move rfl) ?_
        refine wl_ge rfl rfl (e_call0 rfl Try.func37 (by kernel_rfl) (fun w hh => sameInts_spec _ _ (W ++ [39]) (W ++ [39]) w (Rd.held0 hh (i := 0) rfl) (Rd.held0 hh (i := 2) rfl) hWl2 hWl2)) ?_
        rintro _ _ w10 ⟨_, rfl, rfl, rfl⟩
        refine wl_pick [2, 1] rfl ?_
        exact wl_pend rfl rfl trivial (List.Sublist.refl _)
      refine wl_f (f_move rfl) ?_
      refine wl_and (j := 12) (c := true) 1 [] trivial rfl rfl rfl rfl rfl (fun hg15_14 => ?_) (fun w15_14 => ?_)
      · skip
        refine wl_ge rfl rfl (e_call0 rfl Try.func49 (by kernel_rfl) (fun w hh => awake12_spec w)) ?_
        rintro _ _ w11 ⟨_, rfl, rfl⟩
        exact wl_pend rfl rfl trivial (List.sublist_append_right _ _)
      refine wl_f (f_assign rfl) ?_
      refine wl_end [(6, _)] ⟨rfl, trivial⟩ ?_
      refine w_ret ?_
      refine ⟨_, _, fun a ha hh => results_tmps Try.results7 rfl a ha _, List.Sublist.refl _, ?_⟩
      show Value.bool _ = _
      simp
    · skip
      refine w_skip ?_
      refine w_seq ?_
      refine w_reg ?_
      refine wl_f (f_move rfl) ?_
      refine wl_f (f_eql rfl rfl) ?_
      refine wl_f (f_move rfl) ?_
      refine wl_and (j := 2) (c := true) 2 [(7, _), (9, _)] ⟨rfl, rfl, trivial⟩ rfl rfl rfl rfl rfl (fun hg16_5 => ?_) (fun w16_5 => ?_)
      · skip
        refine wl_gf rfl rfl (f_move rfl) ?_
        refine wl_gf rfl rfl (f_eql rfl rfl) ?_
        exact wl_pend rfl rfl ⟨rfl, rfl, trivial⟩ (List.Sublist.refl _)
      refine wl_f (f_move rfl) ?_
      refine wl_and (j := 6) (c := decide ((W ++ [39] : List Int) = W ++ [39])) 4 [(7, _), (9, _)] ⟨rfl, rfl, trivial⟩ rfl rfl rfl rfl rfl (fun hg16_11 => ?_) (fun w16_11 => ?_)
      · skip
        refine wl_gf rfl rfl (f_move rfl) ?_
        refine wl_ge rfl rfl (e_call1 r2 [_] rfl Try.func48 (by kernel_rfl) (List.Perm.swap ..) (fun w hh hs => rkorder_spec b 40 _ r2 w hr2 hs)) ?_
        rintro u _ w9 ⟨_, rfl, rfl⟩
        rw [ids_mkO, mkO_len]
        refine wl_gf rfl rfl (f_move rfl) ?_
        refine wl_ge rfl rfl (e_call0 rfl Try.func37 (by kernel_rfl) (fun w hh => sameInts_spec _ _ (W ++ [39]) (W ++ [39]) w (Rd.held0 hh (i := 0) rfl) (Rd.held0 hh (i := 2) rfl) hWl2 hWl2)) ?_
        rintro _ _ w10 ⟨_, rfl, rfl, rfl⟩
        refine wl_pick [2, 1] rfl ?_
        exact wl_pend rfl rfl ⟨rfl, rfl, trivial⟩ (List.Sublist.refl _)
      refine wl_f (f_move rfl) ?_
      refine wl_and (j := 12) (c := true) 3 [(7, _), (9, _)] ⟨rfl, rfl, trivial⟩ rfl rfl rfl rfl rfl (fun hg16_16 => ?_) (fun w16_16 => ?_)
      · skip
        refine wl_gf rfl rfl (f_move rfl) ?_
        refine wl_ge rfl rfl (e_call1 r2 [_] rfl Try.func47 (by kernel_rfl) (List.Perm.swap ..) (fun w hh hs => rkraise_spec b 40 _ r2 39 0 w (by omega) hr2 hs)) ?_
        rw [age_raise0 W (c + k) h39 (by omega)]
        rintro _ _ w11 ⟨_, rfl, rfl, r3, rfl, h3, _⟩
        obtain rfl := h3 rfl
        refine wl_gf rfl rfl (f_eql rfl rfl) ?_
        refine wl_pick [1, 0] rfl ?_
        exact wl_pend rfl rfl ⟨rfl, rfl, trivial⟩ (List.Sublist.refl _)
      refine wl_f (f_move rfl) ?_
      refine wl_and (j := 17) (c := decide ((W ++ [39] : List Int) = W ++ [39])) 4 [] trivial rfl rfl rfl rfl rfl (fun hg16_22 => ?_) (fun w16_22 => ?_)
      · skip
        refine wl_gf rfl rfl (f_move rfl) ?_
        refine wl_ge rfl rfl (e_call1 r2 [_] rfl Try.func48 (by kernel_rfl) (List.Perm.swap ..) (fun w hh hs => rkorder_spec b 40 _ r2 w hr2 hs)) ?_
        rintro u _ w12 ⟨_, rfl, rfl⟩
        rw [ids_mkO, mkO_len]
        refine wl_gf rfl rfl (f_move rfl) ?_
        refine wl_ge rfl rfl (e_call0 rfl Try.func37 (by kernel_rfl) (fun w hh => sameInts_spec _ _ (W ++ [39]) (W ++ [39]) w (Rd.held0 hh (i := 0) rfl) (Rd.held0 hh (i := 2) rfl) hWl2 hWl2)) ?_
        rintro _ _ w13 ⟨_, rfl, rfl, rfl⟩
        refine wl_pick [2, 1] rfl ?_
        exact wl_pend rfl rfl trivial (List.Sublist.refl _)
      refine wl_f (f_move rfl) ?_
      refine wl_and (j := 23) (c := true) 1 [] trivial rfl rfl rfl rfl rfl (fun hg16_25 => ?_) (fun w16_25 => ?_)
      · skip
        refine wl_ge rfl rfl (e_call0 rfl Try.func49 (by kernel_rfl) (fun w hh => awake12_spec w)) ?_
        rintro _ _ w14 ⟨_, rfl, rfl⟩
        exact wl_pend rfl rfl trivial (List.sublist_append_right _ _)
      refine wl_f (f_assign rfl) ?_
      refine wl_end [(6, _)] ⟨rfl, trivial⟩ ?_
      refine w_ret ?_
      refine ⟨_, _, fun a ha hh => results_tmps Try.results7 rfl a ha _, List.Sublist.refl _, ?_⟩
      show Value.bool _ = _
      simp
end Go.Proofs.Ytkabdnijhjccoaa
