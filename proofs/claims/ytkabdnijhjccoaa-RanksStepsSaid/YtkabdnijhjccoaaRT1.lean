/- The law RanksSteps: the call returns true. -/
import Derived.Test.YtkabdnijhjccoaaRR3
import Derived.Test.YtkabdnijhjccoaaRS0
namespace Go.Proofs.Ytkabdnijhjccoaa
open Go.RowKit

theorem count_spec (s : Int) (raw : Nat) (w : World) (hr : raw < 18446744073709551616) : Spec Try.prog 55 [.int .i64 s, .int .u64 (raw : Int)] w Nil fun r H => ∃ c : Nat, r = .int .u64 (c : Int) ∧ c < 18446744073709551616 ∧ H = [] := by
  refine enter (n := 14) Try.func55 rfl rfl [(0, _), (1, _)] rfl ⟨rfl, rfl, trivial⟩ (Holds.start _ _) ?_
  refine w_seq ?_
  refine w_reg ?_
  refine wl_f (f_assign rfl) ?_
  refine wl_end [(0, _), (1, _)] ⟨rfl, rfl, trivial⟩ ?_
  refine w_seq ?_
  refine w_seq ?_
  refine w_reg ?_
  refine wl_f (f_move rfl) ?_
  refine wl_f (f_shr rfl rfl (by omega) rfl) ?_
  refine wl_f (f_and rfl rfl rfl) ?_
  refine wl_f (f_eql rfl rfl) ?_
  refine wl_end [(0, _), (1, _), (8, _)] ⟨rfl, rfl, rfl, trivial⟩ ?_
  refine w_ifd rfl (fun hc1 => ?_) (fun hc1 => ?_)
  · skip
    refine w_seq ?_
    refine w_reg ?_
    refine wl_f (f_move rfl) ?_
    refine wl_f (f_assign rfl) ?_
    refine wl_end [(4, _)] ⟨rfl, trivial⟩ ?_
    refine w_ret ?_
    refine ⟨_, _, fun a ha hh => results_tmps Try.results55 rfl a ha _, List.Sublist.refl _, ?_⟩
    exact ⟨raw, rfl, hr, rfl⟩
  · skip
    refine w_skip ?_
    refine w_seq ?_
    refine w_reg ?_
    refine wl_f (f_move rfl) ?_
    refine wl_f (f_shr rfl rfl (by omega) rfl) ?_
    refine wl_f (f_and rfl rfl rfl) ?_
    refine wl_f (f_convw rfl Try.underlying3 Try.underlying63 rfl) ?_
    generalize hw : IntKind.u64.wrap _ = cw
    obtain ⟨cw, rfl, hcw⟩ := wrap_u64 hw
    refine wl_f (f_assign rfl) ?_
    refine wl_end [(4, _)] ⟨rfl, trivial⟩ ?_
    refine w_ret ?_
    refine ⟨_, _, fun a ha hh => results_tmps Try.results55 rfl a ha _, List.Sublist.refl _, ?_⟩
    exact ⟨cw, rfl, hcw, rfl⟩
theorem oleast_form (l : Ord) : ∃ (a h : Int) (ok : Bool), oleast l = .tuple [.int .i64 a, .int .u64 h, .bool ok].toArray := by
  cases l with
  | nil => exact ⟨_, _, _, rfl⟩
  | cons p l => exact ⟨_, _, _, rfl⟩

set_option maxHeartbeats 8000000 in
theorem ranksSteps_spec (z : Nat) (A : Option Addr) (c : Nat) (L : List Int) (raw : Nat) (any : Int) (w : World) (hz : z < 256) (hx : Rd w Nil 1 (.slice A L.length c) L.length (iv L)) (hl : L.length ≤ 140737488355328) (hraw : raw < 18446744073709551616) :
    Spec Try.prog 11 [.int .u8 z, .slice A L.length c, .int .u64 raw, .int .i64 any] w Nil fun r _ => r = .bool true := by
  obtain ⟨A', c', e, hxl, hxc, hxA⟩ := id hx
  injection e with e1 _ e3
  subst e1; subst e3
  refine enter (n := 204) Try.func11 rfl rfl [(0, _), (1, _), (2, _), (3, _)] rfl ⟨rfl, rfl, rfl, rfl, trivial⟩ (Holds.start _ _) ?_
  refine w_seq ?_
  refine w_reg ?_
  refine wl_f (f_assign rfl) ?_
  refine wl_end [(0, _), (1, _), (2, _), (3, _)] ⟨rfl, rfl, rfl, rfl, trivial⟩ ?_
  refine w_seq ?_
  refine w_reg ?_
  refine wl_f (f_move rfl) ?_
  refine wl_f (f_convi rfl Try.underlying5 Try.underlying3 (by omega)) ?_
  refine wl_f (f_rem rfl rfl (by omega)) ?_
  refine wl_f (f_eqv (v' := .int .i64 ((1 + z % 10 : Nat) : Int)) (f_add rfl rfl (by omega)) (by congr 1)) ?_
  refine wl_e (e_call0 rfl Try.func45 (by kernel_rfl) (fun w hh => rknew_ok (1 + z % 10) w (by omega) (by omega))) ?_
  rintro u _ w1 ⟨_, rfl, b, r0, rfl, rfl, hr⟩
  have hr0 := RkO.new hr
  clear hr
  refine wl_f (f_move rfl) ?_
  refine wl_f (f_extract rfl rfl) ?_
  refine wl_f (f_extract rfl rfl) ?_
  refine wl_f (f_assign rfl) ?_
  refine wl_f (f_assign rfl) ?_
  refine wl_end [(0, _), (1, _), (2, _), (3, _), (9, _), (10, _)] ⟨rfl, rfl, rfl, rfl, rfl, rfl, trivial⟩ ?_
  refine w_seq ?_
  refine w_reg ?_
  refine wl_f (f_move rfl) ?_
  refine wl_f (f_convi rfl Try.underlying5 Try.underlying3 (by omega)) ?_
  refine wl_f (f_rem rfl rfl (by omega)) ?_
  refine wl_f (f_eqv (v' := .int .i64 ((1 + z % 10 : Nat) : Int)) (f_add rfl rfl (by omega)) (by congr 1)) ?_
  refine wl_e (e_call0 rfl Try.func54 (by kernel_rfl) (fun w hh => rfnew_spec ((1 + z % 10 : Nat) : Int) w)) ?_
  rintro u _ w1 ⟨H1, rfl, hH⟩
  obtain ⟨q, rr0, rfl, rfl, hrr0⟩ := rfnew_ok (1 + z % 10) (by omega) hH
  clear hH
  have hn : 1 + z % 10 ≤ 10 := by omega
  generalize 1 + z % 10 = n at hr0 hrr0 hn
  refine wl_f (f_move rfl) ?_
  refine wl_f (f_extract rfl rfl) ?_
  refine wl_f (f_extract rfl rfl) ?_
  refine wl_f (f_assign rfl) ?_
  refine wl_f (f_assign rfl) ?_
  refine wl_pick [1, 0] rfl ?_
  refine wl_end [(1, _), (2, _), (3, _), (9, _), (10, _), (11, _), (12, _)] ⟨rfl, rfl, rfl, rfl, rfl, rfl, rfl, trivial⟩ ?_
  refine w_seq ?_
  refine w_seq ?_
  refine w_reg ?_
  refine wl_f (f_move rfl) ?_
  refine wl_f (f_neq rfl rfl) ?_
  refine wl_f (f_move rfl) ?_
  refine wl_or (j := 2) (c := false) 2 [(1, _), (2, _), (3, _), (9, _), (11, _)] ⟨rfl, rfl, rfl, rfl, rfl, trivial⟩ rfl rfl rfl rfl rfl (fun hg3_5 => ?_) (fun w3_5 => ?_)
  · skip
    refine wl_gf rfl rfl (f_move rfl) ?_
    refine wl_gf rfl rfl (f_neq rfl rfl) ?_
    exact wl_pend rfl rfl ⟨rfl, rfl, rfl, rfl, rfl, trivial⟩ (List.Sublist.refl _)
  refine wl_f (f_move rfl) ?_
  refine wl_or (j := 6) (c := false) 2 [(1, _), (2, _), (3, _), (9, _), (11, _)] ⟨rfl, rfl, rfl, rfl, rfl, trivial⟩ rfl rfl rfl rfl rfl (fun hg3_9 => ?_) (fun w3_9 => ?_)
  · skip
    refine wl_gf rfl rfl (f_move rfl) ?_
    refine wl_gf rfl rfl (f_eqlnil rfl rfl Try.underlying59) ?_
    exact wl_pend rfl rfl ⟨rfl, rfl, rfl, rfl, rfl, trivial⟩ (List.Sublist.refl _)
  refine wl_end [(1, _), (2, _), (3, _), (9, _), (11, _), (56, _)] ⟨rfl, rfl, rfl, rfl, rfl, rfl, trivial⟩ ?_
  refine w_iff rfl ?_
  refine w_skip ?_
  refine w_seq ?_
  refine w_seq ?_
  refine w_reg ?_
  refine wl_f (f_assign rfl) ?_
  refine wl_end [(1, _), (2, _), (3, _), (9, _), (11, _), (13, _)] ⟨rfl, rfl, rfl, rfl, rfl, rfl, trivial⟩ ?_
  refine w_block ?_
  refine w_loop (fun k m H w' => ∃ (i : Nat) (l : Ord) (r rr : Res), m = [(1, .slice A L.length c), (2, .int .u64 raw), (3, .int .i64 any), (9, .pointer (some ⟨b, 0, .none⟩)), (11, .pointer (some ⟨q, 0, .none⟩)), (13, .int .i64 i)] ∧ H = [r, rr] ∧ RkO b n l r ∧ RfR q n l rr ∧ k + i = 80 ∧ i ≤ L.length) 80
    ⟨0, [], r0, rr0, rfl, rfl, hr0, hrr0, rfl, Nat.zero_le _⟩ ?_
  rintro k _ _ w2 ⟨i, l, r, rr, rfl, rfl, hr, hrr, hk, hiL⟩
  refine w_seq ?_
  refine w_seq ?_
  refine w_reg ?_
  refine wl_f (f_move rfl) ?_
  refine wl_f (f_move rfl) ?_
  refine wl_f (f_len rfl Try.underlying33) ?_
  refine wl_f (f_lss rfl rfl) ?_
  refine wl_f (f_move rfl) ?_
  refine wl_and (j := 4) (c := decide ((i : Int) < 80)) 2 [(1, _), (2, _), (3, _), (9, _), (11, _), (13, _)] ⟨rfl, rfl, rfl, rfl, rfl, rfl, trivial⟩ rfl rfl rfl rfl rfl (fun hg6_7 => ?_) (fun w6_7 => ?_)
  · skip
    refine wl_gf rfl rfl (f_move rfl) ?_
    refine wl_gf rfl rfl (f_lss rfl rfl) ?_
    exact wl_pend rfl rfl ⟨rfl, rfl, rfl, rfl, rfl, rfl, trivial⟩ (List.Sublist.refl _)
  refine wl_end [(1, _), (2, _), (3, _), (9, _), (11, _), (13, _), (64, _)] ⟨rfl, rfl, rfl, rfl, rfl, rfl, rfl, trivial⟩ ?_
  refine w_ifb rfl (fun hc2 => ?_) (fun hc2 => ?_)
  · skip
    simp only [Bool.and_eq_true, decide_eq_true_eq] at hc2
    have hi : i < L.length := by omega
    obtain ⟨s, hsi⟩ : ∃ s, L[i]? = some s := ⟨_, List.getElem?_eq_getElem hi⟩
    obtain ⟨b2, off, rfl, _, _, hcell⟩ := hxA.resolve_left (by omega)
    have hO := hr.inv
    have hll : l.length ≤ 8192 := by have := hO.len; omega
    have hcl := hO.cnt
    refine w_skip ?_
    refine w_seq ?_
    refine w_block ?_
    refine w_seq ?_
    refine w_reg ?_
    refine wl_f (f_move rfl) ?_
    refine wl_f (f_move rfl) ?_
    refine wl_f (f_indexAddr 1 (i := i) rfl rfl Try.underlying33 (by kernel_rfl) rfl hi) ?_
    refine wl_f (f_loado (v := .int .i64 s) rfl Try.underlying3 rfl (hcell _ _ (by simp [iv, hsi])) id) ?_
    refine wl_f (f_assign rfl) ?_
    refine wl_end [(1, _), (2, _), (3, _), (9, _), (11, _), (13, _), (14, _)] ⟨rfl, rfl, rfl, rfl, rfl, rfl, rfl, trivial⟩ ?_
    refine w_seq ?_
    refine w_reg ?_
    refine wl_f (f_move rfl) ?_
    refine wl_f (f_shr rfl rfl (by omega) rfl) ?_
    refine wl_f (f_and rfl rfl rfl) ?_
    refine wl_f (f_assign rfl) ?_
    refine wl_end [(1, _), (2, _), (3, _), (9, _), (11, _), (13, _), (14, _), (15, _)] ⟨rfl, rfl, rfl, rfl, rfl, rfl, rfl, rfl, trivial⟩ ?_
    refine w_seq ?_
    refine w_seq ?_
    refine w_reg ?_
    refine wl_f (f_move rfl) ?_
    refine wl_f (f_shr rfl rfl (by omega) rfl) ?_
    refine wl_f (f_and rfl rfl rfl) ?_
    refine wl_f (f_eql rfl rfl) ?_
    refine wl_f (f_move rfl) ?_
    refine wl_and (j := 4) (c := decide (bits .and .i64 (s.fdiv (2 ^ min (13 : Int).toNat IntKind.i64.bits)) 3 = 0)) 4 [(1, _), (2, _), (3, _), (9, _), (11, _), (13, _), (14, _), (15, _)] ⟨rfl, rfl, rfl, rfl, rfl, rfl, rfl, rfl, trivial⟩ rfl rfl rfl rfl rfl (fun hg10_9 => ?_) (fun w10_9 => ?_)
    · skip
      refine wl_gf rfl rfl (f_move rfl) ?_
      refine wl_gf rfl rfl (f_shr rfl rfl (by omega) rfl) ?_
      refine wl_gf rfl rfl (f_and rfl rfl rfl) ?_
      refine wl_gf rfl rfl (f_eql rfl rfl) ?_
      exact wl_pend rfl rfl ⟨rfl, rfl, rfl, rfl, rfl, rfl, rfl, rfl, trivial⟩ (List.Sublist.refl _)
    refine wl_end [(1, _), (2, _), (3, _), (9, _), (11, _), (13, _), (14, _), (15, _), (83, _)] ⟨rfl, rfl, rfl, rfl, rfl, rfl, rfl, rfl, rfl, trivial⟩ ?_
    refine w_post (fun m H w' => ∃ id : Int, m = [(1, .slice (some ⟨b2, off, .none⟩) L.length c), (2, .int .u64 raw), (3, .int .i64 any), (9, .pointer (some ⟨b, 0, .none⟩)), (11, .pointer (some ⟨q, 0, .none⟩)), (13, .int .i64 i), (14, .int .i64 s), (15, .int .i64 id)] ∧ H = [r, rr]) ?_ ?_
    · skip
      refine w_ifb rfl (fun hc3 => ?_) (fun hc3 => ?_)
      · skip
        refine w_reg ?_
        refine wl_f (f_move rfl) ?_
        refine wl_f (f_assign rfl) ?_
        refine wl_end [(1, _), (2, _), (3, _), (9, _), (11, _), (13, _), (14, _), (15, _)] ⟨rfl, rfl, rfl, rfl, rfl, rfl, rfl, rfl, trivial⟩ ?_
        exact ⟨_, rfl, rfl⟩
      · skip
        refine w_sub [(1, _), (2, _), (3, _), (9, _), (11, _), (13, _), (14, _), (15, _)] ⟨rfl, rfl, rfl, rfl, rfl, rfl, rfl, rfl, trivial⟩ (w_skip ?_)
        exact ⟨_, rfl, rfl⟩
    · rintro _ _ w5 ⟨id, rfl, rfl⟩
      refine w_seq ?_
      refine w_reg ?_
      refine wl_f (f_move rfl) ?_
      refine wl_f (f_move rfl) ?_
      refine wl_e (e_call0 rfl Try.func55 (by kernel_rfl) (fun w hh => count_spec s raw w hraw)) ?_
      rintro _ _ w6 ⟨_, rfl, cc, rfl, hcc, rfl⟩
      refine wl_f (f_assign rfl) ?_
      refine wl_end [(1, _), (2, _), (3, _), (9, _), (11, _), (13, _), (14, _), (15, _), (16, _)] ⟨rfl, rfl, rfl, rfl, rfl, rfl, rfl, rfl, rfl, trivial⟩ ?_
      refine w_seq ?_
      refine w_reg ?_
      refine wl_f (f_assign rfl) ?_
      refine wl_f (f_assign rfl) ?_
      refine wl_end [(1, _), (2, _), (3, _), (9, _), (11, _), (13, _), (14, _), (15, _), (16, _), (17, _), (18, _)] ⟨rfl, rfl, rfl, rfl, rfl, rfl, rfl, rfl, rfl, rfl, rfl, trivial⟩ ?_
      refine w_seq ?_
      refine w_reg ?_
      refine wl_f (f_assign rfl) ?_
      refine wl_f (f_assign rfl) ?_
      refine wl_end [(1, _), (2, _), (3, _), (9, _), (11, _), (13, _), (14, _), (15, _), (16, _), (17, _), (18, _)] ⟨rfl, rfl, rfl, rfl, rfl, rfl, rfl, rfl, rfl, rfl, rfl, trivial⟩ ?_
      refine w_seq ?_
      refine w_seq ?_
      refine w_reg ?_
      refine wl_f (f_move rfl) ?_
      refine wl_f (f_and rfl rfl rfl) ?_
      generalize bits .and .i64 s 7 = s7
      refine wl_end [(1, _), (2, _), (3, _), (9, _), (11, _), (13, _), (15, _), (16, _), (17, _), (18, _), (89, _)] ⟨rfl, rfl, rfl, rfl, rfl, rfl, rfl, rfl, rfl, rfl, rfl, trivial⟩ ?_
      refine w_post (fun m H w' => ∃ (l' : Ord) (r1 r2 : Res) (x e : Int), m = [(1, .slice (some ⟨b2, off, .none⟩) L.length c), (2, .int .u64 raw), (3, .int .i64 any), (9, .pointer (some ⟨b, 0, .none⟩)), (11, .pointer (some ⟨q, 0, .none⟩)), (13, .int .i64 i), (15, .int .i64 id), (17, .int .u64 x), (18, .int .u64 x), (19, .int .i64 e), (20, .int .i64 e)] ∧ H = [r1, r2] ∧ RkO b n l' r1 ∧ RfR q n l' r2) ?_ ?_
      · skip
        refine w_block ?_
        refine w_seq ?_
        refine w_seq ?_
        refine w_reg ?_
        refine wl_f (f_eql rfl rfl) ?_
        refine wl_f (f_assign rfl) ?_
        refine wl_end [(1, _), (2, _), (3, _), (9, _), (11, _), (13, _), (15, _), (16, _), (17, _), (18, _), (89, _), (102, _)] ⟨rfl, rfl, rfl, rfl, rfl, rfl, rfl, rfl, rfl, rfl, rfl, rfl, trivial⟩ ?_
        refine w_post (fun m H w' => ∃ bb : Bool, m = [(1, .slice (some ⟨b2, off, .none⟩) L.length c), (2, .int .u64 raw), (3, .int .i64 any), (9, .pointer (some ⟨b, 0, .none⟩)), (11, .pointer (some ⟨q, 0, .none⟩)), (13, .int .i64 i), (15, .int .i64 id), (16, .int .u64 cc), (17, .int .u64 0), (18, .int .u64 0), (89, .int .i64 s7), (102, .bool bb)] ∧ H = [r, rr]) ?_ ?_
        · skip
          refine w_ifd rfl (fun hc4 => ?_) (fun hc4 => ?_)
          · skip
            refine w_sub [(1, _), (2, _), (3, _), (9, _), (11, _), (13, _), (15, _), (16, _), (17, _), (18, _), (89, _), (102, _)] ⟨rfl, rfl, rfl, rfl, rfl, rfl, rfl, rfl, rfl, rfl, rfl, rfl, trivial⟩ (w_skip ?_)
            exact ⟨_, rfl, rfl⟩
          · skip
            refine w_seq ?_
            refine w_reg ?_
            refine wl_f (f_eql rfl rfl) ?_
            refine wl_f (f_assign rfl) ?_
            refine wl_end [(1, _), (2, _), (3, _), (9, _), (11, _), (13, _), (15, _), (16, _), (17, _), (18, _), (89, _), (102, _)] ⟨rfl, rfl, rfl, rfl, rfl, rfl, rfl, rfl, rfl, rfl, rfl, rfl, trivial⟩ ?_
            refine w_ifd rfl (fun hc5 => ?_) (fun hc5 => ?_)
            · skip
              refine w_sub [(1, _), (2, _), (3, _), (9, _), (11, _), (13, _), (15, _), (16, _), (17, _), (18, _), (89, _), (102, _)] ⟨rfl, rfl, rfl, rfl, rfl, rfl, rfl, rfl, rfl, rfl, rfl, rfl, trivial⟩ (w_skip ?_)
              exact ⟨_, rfl, rfl⟩
            · skip
              refine w_reg ?_
              refine wl_f (f_eql rfl rfl) ?_
              refine wl_f (f_assign rfl) ?_
              refine wl_end [(1, _), (2, _), (3, _), (9, _), (11, _), (13, _), (15, _), (16, _), (17, _), (18, _), (89, _), (102, _)] ⟨rfl, rfl, rfl, rfl, rfl, rfl, rfl, rfl, rfl, rfl, rfl, rfl, trivial⟩ ?_
              exact ⟨_, rfl, rfl⟩
        · rintro _ _ w7 ⟨bb, rfl, rfl⟩
          refine w_ifb rfl (fun hc6 => ?_) (fun hc6 => ?_)
          · skip
            refine w_reg ?_
            refine wl_f (f_move rfl) ?_
            refine wl_f (f_move rfl) ?_
            refine wl_f (f_move rfl) ?_
            refine wl_e (e_call1 r [_] rfl Try.func46 (by kernel_rfl) (List.Perm.refl _) (fun w hh hs => rkinsert_spec b n l r id cc w hr hs)) ?_
            rintro _ _ w8 ⟨_, rfl, rfl, r1, rfl, h1⟩
            refine wl_f (f_move rfl) ?_
            refine wl_f (f_move rfl) ?_
            refine wl_f (f_move rfl) ?_
            refine wl_e (e_call1 rr [r1] rfl Try.func56 (by kernel_rfl) (List.Perm.swap ..) (fun w hh hs => rfinsert_spec q n l id cc rr w hll hrr hs)) ?_
            rintro _ _ w9 ⟨_, rfl, rfl, r2, rfl, h2⟩
            refine wl_f (f_assign rfl) ?_
            refine wl_f (f_assign rfl) ?_
            refine wl_pick [1, 0] rfl ?_
            refine wl_end [(1, _), (2, _), (3, _), (9, _), (11, _), (13, _), (15, _), (17, _), (18, _), (19, _), (20, _)] ⟨rfl, rfl, rfl, rfl, rfl, rfl, rfl, rfl, rfl, rfl, rfl, trivial⟩ ?_
            exact ⟨_, _, _, _, _, rfl, rfl, h1, h2⟩
          · skip
            refine w_seq ?_
            refine w_seq ?_
            refine w_reg ?_
            refine wl_f (f_eql rfl rfl) ?_
            refine wl_f (f_assign rfl) ?_
            refine wl_end [(1, _), (2, _), (3, _), (9, _), (11, _), (13, _), (15, _), (16, _), (17, _), (18, _), (89, _), (114, _)] ⟨rfl, rfl, rfl, rfl, rfl, rfl, rfl, rfl, rfl, rfl, rfl, rfl, trivial⟩ ?_
            refine w_post (fun m H w' => ∃ bb : Bool, m = [(1, .slice (some ⟨b2, off, .none⟩) L.length c), (2, .int .u64 raw), (3, .int .i64 any), (9, .pointer (some ⟨b, 0, .none⟩)), (11, .pointer (some ⟨q, 0, .none⟩)), (13, .int .i64 i), (15, .int .i64 id), (16, .int .u64 cc), (17, .int .u64 0), (18, .int .u64 0), (114, .bool bb)] ∧ H = [r, rr]) ?_ ?_
            · skip
              refine w_ifd rfl (fun hc7 => ?_) (fun hc7 => ?_)
              · skip
                refine w_sub [(1, _), (2, _), (3, _), (9, _), (11, _), (13, _), (15, _), (16, _), (17, _), (18, _), (114, _)] ⟨rfl, rfl, rfl, rfl, rfl, rfl, rfl, rfl, rfl, rfl, rfl, trivial⟩ (w_skip ?_)
                exact ⟨_, rfl, rfl⟩
              · skip
                refine w_seq ?_
                refine w_reg ?_
                refine wl_f (f_eql rfl rfl) ?_
                refine wl_f (f_assign rfl) ?_
                refine wl_end [(1, _), (2, _), (3, _), (9, _), (11, _), (13, _), (15, _), (16, _), (17, _), (18, _), (89, _), (114, _)] ⟨rfl, rfl, rfl, rfl, rfl, rfl, rfl, rfl, rfl, rfl, rfl, rfl, trivial⟩ ?_
                refine w_ifd rfl (fun hc8 => ?_) (fun hc8 => ?_)
                · skip
                  refine w_sub [(1, _), (2, _), (3, _), (9, _), (11, _), (13, _), (15, _), (16, _), (17, _), (18, _), (114, _)] ⟨rfl, rfl, rfl, rfl, rfl, rfl, rfl, rfl, rfl, rfl, rfl, trivial⟩ (w_skip ?_)
                  exact ⟨_, rfl, rfl⟩
                · skip
                  refine w_reg ?_
                  refine wl_f (f_eql rfl rfl) ?_
                  refine wl_f (f_assign rfl) ?_
                  refine wl_end [(1, _), (2, _), (3, _), (9, _), (11, _), (13, _), (15, _), (16, _), (17, _), (18, _), (114, _)] ⟨rfl, rfl, rfl, rfl, rfl, rfl, rfl, rfl, rfl, rfl, rfl, trivial⟩ ?_
                  exact ⟨_, rfl, rfl⟩
            · rintro _ _ w7 ⟨bb2, rfl, rfl⟩
              refine w_ifb rfl (fun hc9 => ?_) (fun hc9 => ?_)
              · skip
                refine w_reg ?_
                refine wl_f (f_move rfl) ?_
                refine wl_f (f_move rfl) ?_
                refine wl_f (f_move rfl) ?_
                refine wl_e (e_call1 r [_] rfl Try.func47 (by kernel_rfl) (List.Perm.refl _) (fun w hh hs => rkraise_spec b n l r id cc w hcc hr hs)) ?_
                rintro _ _ w8 ⟨_, rfl, rfl, r1, rfl, _, h1⟩
                refine wl_f (f_move rfl) ?_
                refine wl_f (f_move rfl) ?_
                refine wl_f (f_move rfl) ?_
                refine wl_e (e_call1 rr [r1] rfl Try.func57 (by kernel_rfl) (List.Perm.swap ..) (fun w hh hs => rfraise_spec q n l id cc rr w hcc hll hcl hrr hs)) ?_
                rintro _ _ w9 ⟨_, rfl, rfl, r2, rfl, h2⟩
                refine wl_f (f_assign rfl) ?_
                refine wl_f (f_assign rfl) ?_
                refine wl_pick [1, 0] rfl ?_
                refine wl_end [(1, _), (2, _), (3, _), (9, _), (11, _), (13, _), (15, _), (17, _), (18, _), (19, _), (20, _)] ⟨rfl, rfl, rfl, rfl, rfl, rfl, rfl, rfl, rfl, rfl, rfl, trivial⟩ ?_
                exact ⟨_, _, _, _, _, rfl, rfl, h1, h2⟩
              · skip
                refine w_seq ?_
                refine w_reg ?_
                refine wl_f (f_move rfl) ?_
                refine wl_f (f_move rfl) ?_
                refine wl_e (e_call1 r [_] rfl Try.func53 (by kernel_rfl) (List.Perm.refl _) (fun w hh hs => rkremove_spec b n l r id w hr hs)) ?_
                rintro _ _ w8 ⟨_, rfl, rfl, r1, rfl, h1⟩
                refine wl_f (f_move rfl) ?_
                refine wl_f (f_extract rfl rfl) ?_
                refine wl_f (f_extract rfl rfl) ?_
                refine wl_f (f_assign rfl) ?_
                refine wl_f (f_assign rfl) ?_
                refine wl_end [(1, _), (2, _), (3, _), (9, _), (11, _), (13, _), (15, _), (17, _), (19, _)] ⟨rfl, rfl, rfl, rfl, rfl, rfl, rfl, rfl, rfl, trivial⟩ ?_
                refine w_reg ?_
                refine wl_f (f_move rfl) ?_
                refine wl_f (f_move rfl) ?_
                refine wl_e (e_call1 rr [r1] rfl Try.func58 (by kernel_rfl) (List.Perm.swap ..) (fun w hh hs => rfremove_spec q n l id rr w hll hrr hs)) ?_
                rintro _ _ w9 ⟨_, rfl, rfl, r2, rfl, h2⟩
                refine wl_f (f_move rfl) ?_
                refine wl_f (f_extract rfl rfl) ?_
                refine wl_f (f_extract rfl rfl) ?_
                refine wl_f (f_assign rfl) ?_
                refine wl_f (f_assign rfl) ?_
                refine wl_pick [1, 0] rfl ?_
                refine wl_end [(1, _), (2, _), (3, _), (9, _), (11, _), (13, _), (15, _), (17, _), (18, _), (19, _), (20, _)] ⟨rfl, rfl, rfl, rfl, rfl, rfl, rfl, rfl, rfl, rfl, rfl, trivial⟩ ?_
                exact ⟨_, _, _, _, _, rfl, rfl, h1, h2⟩
      · rintro _ _ w9 ⟨l', r1, r2, x, e, rfl, rfl, h1, h2⟩
        refine w_seq ?_
        refine w_reg ?_
        refine wl_f (f_move rfl) ?_
        refine wl_f (f_move rfl) ?_
        refine wl_e (e_call1 r1 [_] rfl Try.func50 (by kernel_rfl) (List.Perm.refl _) (fun w hh hs => rkcount_spec b n l' r1 id w h1 hs)) ?_
        rintro _ _ w10 ⟨_, rfl, rfl, rfl⟩
        have hll' : l'.length ≤ 8192 := by have := h1.inv.len; omega
        refine wl_f (f_move rfl) ?_
        refine wl_f (f_extract rfl rfl) ?_
        refine wl_f (f_extract rfl rfl) ?_
        refine wl_f (f_assign rfl) ?_
        refine wl_f (f_assign rfl) ?_
        refine wl_end [(1, _), (2, _), (3, _), (9, _), (11, _), (13, _), (15, _), (17, _), (18, _), (19, _), (20, _), (21, _), (22, _)] ⟨rfl, rfl, rfl, rfl, rfl, rfl, rfl, rfl, rfl, rfl, rfl, rfl, rfl, trivial⟩ ?_
        refine w_seq ?_
        refine w_reg ?_
        refine wl_f (f_move rfl) ?_
        refine wl_f (f_move rfl) ?_
        refine wl_e (e_call1 r2 [_] rfl Try.func59 (by kernel_rfl) (List.Perm.swap ..) (fun w hh hs => rfcount_spec q n l' id r2 w hll' h2 hs)) ?_
        rintro _ _ w11 ⟨_, rfl, rfl, rfl⟩
        refine wl_f (f_move rfl) ?_
        refine wl_f (f_extract rfl rfl) ?_
        refine wl_f (f_extract rfl rfl) ?_
        refine wl_f (f_assign rfl) ?_
        refine wl_f (f_assign rfl) ?_
        refine wl_end [(1, _), (2, _), (3, _), (9, _), (11, _), (13, _), (17, _), (18, _), (19, _), (20, _), (21, _), (22, _), (23, _), (24, _)] ⟨rfl, rfl, rfl, rfl, rfl, rfl, rfl, rfl, rfl, rfl, rfl, rfl, rfl, rfl, trivial⟩ ?_
        refine w_seq ?_
        refine w_reg ?_
        refine wl_f (f_move rfl) ?_
        refine wl_e (e_call1 r1 [_] rfl Try.func51 (by kernel_rfl) (List.Perm.swap ..) (fun w hh hs => rkleast_spec b n l' r1 w h1 hs)) ?_
        rintro _ _ w12 ⟨_, rfl, rfl, rfl⟩
        obtain ⟨la, lh, lok, hle⟩ := oleast_form l'
        rw [hle]
        refine wl_f (f_move rfl) ?_
        refine wl_f (f_extract rfl rfl) ?_
        refine wl_f (f_extract rfl rfl) ?_
        refine wl_f (f_extract rfl rfl) ?_
        refine wl_f (f_assign rfl) ?_
        refine wl_f (f_assign rfl) ?_
        refine wl_f (f_assign rfl) ?_
        refine wl_end [(1, _), (2, _), (3, _), (9, _), (11, _), (13, _), (17, _), (18, _), (19, _), (20, _), (21, _), (22, _), (23, _), (24, _), (25, _), (26, _), (27, _)] ⟨rfl, rfl, rfl, rfl, rfl, rfl, rfl, rfl, rfl, rfl, rfl, rfl, rfl, rfl, rfl, rfl, rfl, trivial⟩ ?_
        refine w_seq ?_
        refine w_reg ?_
        refine wl_f (f_move rfl) ?_
        refine wl_e (e_call1 r2 [_] rfl Try.func60 (by kernel_rfl) (List.Perm.swap ..) (fun w hh hs => rfleast_spec q n l' r2 w hll' h2 hs)) ?_
        rintro _ _ w13 ⟨_, rfl, rfl, rfl⟩
        rw [hle]
        refine wl_f (f_move rfl) ?_
        refine wl_f (f_extract rfl rfl) ?_
        refine wl_f (f_extract rfl rfl) ?_
        refine wl_f (f_extract rfl rfl) ?_
        refine wl_f (f_assign rfl) ?_
        refine wl_f (f_assign rfl) ?_
        refine wl_f (f_assign rfl) ?_
        refine wl_end [(1, _), (2, _), (3, _), (9, _), (11, _), (13, _), (17, _), (18, _), (19, _), (20, _), (21, _), (22, _), (23, _), (24, _), (25, _), (26, _), (27, _), (28, _), (29, _), (30, _)] ⟨rfl, rfl, rfl, rfl, rfl, rfl, rfl, rfl, rfl, rfl, rfl, rfl, rfl, rfl, rfl, rfl, rfl, rfl, rfl, rfl, trivial⟩ ?_
        refine w_seq ?_
        obtain ⟨IV, CV, rfl⟩ := _root_.id h2
        refine w_with fun hh => ?_
        obtain ⟨N, cn, rfl⟩ := rowB_slice hh (i := 0) (j := 1) rfl rfl
        clear hh
        refine w_draw [(0, true), (1, true), (2, true), (3, true), (4, true), (5, true), (6, true), (7, true), (8, true), (9, true), (10, true), (11, true), (12, true), (13, true), (14, true), (15, true), (16, true), (17, true), (18, true), (19, true), (20, true), (21, true), (22, true), (23, true), (24, true), (25, true), (26, true), (27, true), (28, true), (29, true), (30, true), (31, true), (32, true), (33, true), (34, true), (36, true), (37, true), (38, true), (39, true), (35, false), (40, false), (41, true), (42, true), (43, true), (44, true), (46, true), (47, true), (48, true), (49, true), (50, true), (45, false), (51, true), (52, true)] ([_]) ([_]) mixed (by kernel_rfl) (by kernel_rfl) rfl (List.Perm.refl _) (fun w30_ => ?_)
        refine wd_f rfl (f_move rfl) ?_
        refine wd_f rfl (f_move rfl) ?_
        refine wd_f rfl (f_eqv (v' := .bool false) (f_neq rfl rfl) (by simp)) ?_
        refine wd_f rfl (f_move rfl) ?_
        refine wd_gf rfl rfl rfl (f_move rfl) ?_
        refine wd_gf rfl rfl rfl (f_move rfl) ?_
        refine wd_gf rfl rfl rfl (f_eqv (v' := .bool false) (f_neq rfl rfl) (by simp)) ?_
        refine wd_f rfl (f_pick0 rfl rfl) ?_
        refine wd_f rfl (f_move rfl) ?_
        refine wd_gf rfl rfl rfl (f_move rfl) ?_
        refine wd_gf rfl rfl rfl (f_move rfl) ?_
        refine wd_gf rfl rfl rfl (f_eqv (v' := .bool false) (f_neq rfl rfl) (by simp)) ?_
        refine wd_f rfl (f_pick0 rfl rfl) ?_
        refine wd_f rfl (f_move rfl) ?_
        refine wd_gf rfl rfl rfl (f_move rfl) ?_
        refine wd_gf rfl rfl rfl (f_move rfl) ?_
        refine wd_gf rfl rfl rfl (f_eqv (v' := .bool false) (f_neqb rfl rfl Try.underlying4) (by simp)) ?_
        refine wd_f rfl (f_pick0 rfl rfl) ?_
        refine wd_f rfl (f_move rfl) ?_
        refine wd_gf rfl rfl rfl (f_move rfl) ?_
        refine wd_gf rfl rfl rfl (f_move rfl) ?_
        refine wd_gf rfl rfl rfl (f_eqv (v' := .bool false) (f_neq rfl rfl) (by simp)) ?_
        refine wd_f rfl (f_pick0 rfl rfl) ?_
        refine wd_f rfl (f_move rfl) ?_
        refine wd_gf rfl rfl rfl (f_move rfl) ?_
        refine wd_gf rfl rfl rfl (f_move rfl) ?_
        refine wd_gf rfl rfl rfl (f_eqv (v' := .bool false) (f_neq rfl rfl) (by simp)) ?_
        refine wd_f rfl (f_pick0 rfl rfl) ?_
        refine wd_f rfl (f_move rfl) ?_
        refine wd_gf rfl rfl rfl (f_move rfl) ?_
        refine wd_gf rfl rfl rfl (f_move rfl) ?_
        refine wd_gf rfl rfl rfl (f_eqv (v' := .bool false) (f_neqb rfl rfl Try.underlying4) (by simp)) ?_
        refine wd_f rfl (f_pick0 rfl rfl) ?_
        refine wd_f rfl (f_move rfl) ?_
        refine wd_gf rfl rfl rfl (f_move rfl) ?_
        refine wd_gf rfl rfl rfl (f_move rfl) ?_
        refine wd_gf rfl rfl rfl (f_nilCheck rfl) ?_
        refine wd_gf rfl rfl rfl (f_fieldAddr 1 rfl Try.underlying79 rfl rfl (by kernel_rfl)) ?_
        refine wd_gf rfl rfl rfl (f_loadB 0 0 rfl rfl rfl Try.underlying33 rfl rfl) ?_
        refine wd_ge rfl rfl rfl (e_call1 r1 [_] rfl Try.func48 (by kernel_rfl) (List.Perm.swap ..) (fun w hh hs => rkorder_spec b n l' r1 w h1 hs)) ?_
        rintro vo _ w14 ⟨_, rfl, rfl⟩
        refine ⟨_, List.perm_append_comm, ?_⟩
        refine wd_ge rfl rfl rfl (e_call0 rfl Try.func37 (by kernel_rfl) (fun w hh => sameInts_spec _ _ (ids l') (ids l') w (by rw [ids_len]; exact Rd.held0 hh (i := 1) rfl) (by rw [ids_len]; exact Rd.heldB hh (i := 0) (j := 1) rfl rfl) (by rw [ids_len]; omega) (by rw [ids_len]; omega))) ?_
        rintro _ _ w15 ⟨_, rfl, rfl, rfl⟩
        refine ⟨_, List.perm_append_comm_assoc _ _ _, ?_⟩
        refine wd_gf rfl rfl rfl (f_eqv (v' := .bool false) (f_not rfl rfl) (by simp)) ?_
        refine wd_f rfl (f_pick0 rfl rfl) ?_
        refine wd_f rfl (f_move rfl) ?_
        refine wd_gf rfl rfl rfl (f_move rfl) ?_
        refine wd_gf rfl rfl rfl (f_move rfl) ?_
        refine wd_gf rfl rfl rfl (f_nilCheck rfl) ?_
        refine wd_gf rfl rfl rfl (f_fieldAddr 1 rfl Try.underlying79 rfl rfl (by kernel_rfl)) ?_
        refine wd_gf rfl rfl rfl (f_loadB 0 0 rfl rfl rfl Try.underlying33 rfl rfl) ?_
        refine wd_gf rfl rfl rfl (f_len rfl Try.underlying33) ?_
        refine wd_ge rfl rfl rfl (e_call1 r1 [_, _] rfl Try.func52 (by kernel_rfl) (pk1 2 rfl) (fun w hh hs => rklen_spec b n l' r1 w h1 hs)) ?_
        rintro _ _ w16 ⟨_, rfl, rfl, rfl⟩
        refine ⟨_, List.Perm.swap .., ?_⟩
        refine wd_gf rfl rfl rfl (f_eqv (v' := .bool false) (f_neq rfl rfl) (by simp)) ?_
        refine wd_f rfl (f_pick0 rfl rfl) ?_
        refine wd_endp [(1, _), (2, _), (3, _), (9, _), (11, _), (13, _), (202, _)] [1, 0] ⟨rfl, rfl, rfl, rfl, rfl, rfl, rfl, trivial⟩ rfl ?_
        refine w_iff rfl ?_
        refine w_skip ?_
        refine w_reg ?_
        refine wl_f (f_move rfl) ?_
        refine wl_f (f_add rfl rfl (by omega)) ?_
        refine wl_f (f_assign rfl) ?_
        refine wl_end [(1, _), (2, _), (3, _), (9, _), (11, _), (13, _)] ⟨rfl, rfl, rfl, rfl, rfl, rfl, trivial⟩ ?_
        exact ⟨k - 1, by omega, i + 1, l', r1, _, rfl, rfl, h1, h2, by omega, by omega⟩
  · skip
    refine w_exit0 ?_
    refine w_seq ?_
    refine w_reg ?_
    refine wl_e (e_call0 rfl Try.func49 (by kernel_rfl) (fun w hh => awake12_spec w)) ?_
    rintro _ _ w20 ⟨_, rfl, rfl⟩
    refine wl_f (f_assign rfl) ?_
    refine wl_end [(8, _)] ⟨rfl, trivial⟩ ?_
    refine w_ret ?_
    refine ⟨_, _, fun a ha hh => results_tmps Try.results11 rfl a ha _, List.Sublist.refl _, ?_⟩
    rfl
end Go.Proofs.Ytkabdnijhjccoaa
