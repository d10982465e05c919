/- Texts of this proof, part MB11: what the code does, step by step. They have no conditions. -/
import Derived.Test.YtmagdjlcckgkpaaGreatMB10
import Derived.Test.YtmagdjlcckgkpaaGreatMB9
import Derived.Test.YtmagdjlcckgkpaaGreatMB2
import Derived.Test.YtmagdjlcckgkpaaGreatMB7
import Derived.ProofKit
import Derived.Deep.Slices
import Derived.Test.YtmagdjlcckgkpaaGreatMB4
import Derived.Test.YtmagdjlcckgkpaaGreatRows
/- The reference's tables in the mode Saving: adding, exchanging. -/
namespace Go.Proofs.YtmagdjlcckgkpaaGreat
open Go.RowKit

set_option maxHeartbeats 8000000 in
theorem rsadd_spec (q n : Nat) (l : List En) (base sum : Nat) (r : Res) (k : ByteArray) (v : Nat) (w : World) (hn : n ≤ 64) (hl : l.length ≤ n) (hn1 : 1 ≤ n) (hb : base ≤ sum) (hsm : sum ≤ 9223372036854775808) (hls : ∀ x ∈ l, x.2.1 + x.2.2 ≤ sum) (hr : RtR q 1 n l base sum r) (hs : Holds w r.foot [r] w) :
    Spec Tryz.prog 28 [.pointer (some ⟨q, 0, .none⟩), .string k, .int .u64 (v : Int)] w r.foot fun u H => ∃ (e : Int) (l' : List En) (base' sum' : Nat) (r' : Res), u = .int .i64 e ∧ H = [r'] ∧ RtR q 1 n l' base' sum' r' ∧ RsAddG n l base sum k v e l' base' sum' := by
  obtain ⟨LV, rfl⟩ := hr
  refine enter (n := 162) Tryz.func28 rfl rfl [(0, _), (1, _), (2, _)] rfl ⟨rfl, rfl, rfl, trivial⟩ hs ?_
  refine w_with fun hh => ?_
  obtain ⟨L, cl, rfl⟩ := rowB_slice hh (i := 0) (j := 1) rfl rfl
  clear hh
  refine w_unb (H := []) (rts q 1 n l (.slice L l.length cl) base sum) ?_
  refine w_seq (w_reg (wl_f (f_assign rfl) (wl_end [(0, _), (1, _), (2, _)] ⟨rfl, rfl, rfl, trivial⟩ ?_)))
  refine w_seq (w_seq (w_reg (wl_f (f_move rfl) (wl_f (f_eqls rfl rfl) ?_))))
  refine wl_end [(0, _), (1, _), (2, _), (13, _)] ⟨rfl, rfl, rfl, rfl, trivial⟩ ?_
  refine w_ifd rfl (fun hc1 => ?_) (fun hc1 => ?_)
  · skip
    have hk : k = ByteArray.empty := hc1
    refine w_seq (w_reg (wl_f (f_assign rfl) (wl_end [(6, _)] ⟨rfl, trivial⟩ ?_)))
    refine w_bun (H := []) [_, _] ?_
    refine w_ret ?_
    refine ⟨_, _, fun a ha hh => results_tmps Tryz.results28 rfl a ha _, List.Sublist.refl _, ?_⟩
    exact ⟨3, l, base, sum, _, rfl, rfl, ⟨_, rfl⟩, .inl ⟨by decide, rfl, rfl, rfl, .inl ⟨hk, rfl⟩⟩⟩
  · skip
    have hk : k ≠ ByteArray.empty := hc1
    refine w_skip ?_
    refine w_seq (w_seq (w_reg (wl_f (f_move rfl) (wl_f (f_eql rfl rfl) ?_))))
    refine wl_end [(0, _), (1, _), (2, _), (15, _)] ⟨rfl, rfl, rfl, rfl, trivial⟩ ?_
    refine w_ifd rfl (fun hc2 => ?_) (fun hc2 => ?_)
    · skip
      have hv0 : v = 0 := by
        have : (v : Int) = 0 := hc2
        omega
      refine w_seq (w_reg (wl_f (f_assign rfl) (wl_end [(6, _)] ⟨rfl, trivial⟩ ?_)))
      refine w_bun (H := []) [_, _] ?_
      refine w_ret ?_
      refine ⟨_, _, fun a ha hh => results_tmps Tryz.results28 rfl a ha _, List.Sublist.refl _, ?_⟩
      exact ⟨1, l, base, sum, _, rfl, rfl, ⟨_, rfl⟩, .inl ⟨by decide, rfl, rfl, rfl, .inr (.inl ⟨hk, hv0, rfl⟩)⟩⟩
    · skip
      have hv0 : v ≠ 0 := fun h => hc2 (by rw [h]; rfl)
      refine w_skip ?_
      refine w_seq (w_seq (w_reg (wl_f (f_move rfl) (wl_f (f_nilCheck rfl) (wl_f (f_fieldAddr 4 rfl Tryz.underlying65 rfl rfl (by kernel_rfl)) ?_)))))
      refine wl_f (f_loadb 0 rfl Tryz.underlying33 rfl rfl rfl) ?_
      refine wl_f (f_move rfl) (wl_e (e_call0 rfl Tryz.func42 (by kernel_rfl) (fun w hh => rfits_spec sum v w)) ?_)
      rintro _ _ w1 ⟨_, rfl, rfl, rfl⟩
      refine wl_f (f_not rfl rfl) ?_
      refine wl_end [(0, _), (1, _), (2, _), (22, _)] ⟨rfl, rfl, rfl, rfl, trivial⟩ ?_
      refine w_ifb rfl (fun hc3 => ?_) (fun hc3 => ?_)
      · skip
        have hov : 9223372036854775808 < sum + v := by
          refine Classical.byContradiction fun h => ?_
          rw [decide_eq_true (show sum + v ≤ 9223372036854775808 by omega)] at hc3
          cases hc3
        refine w_seq (w_reg (wl_f (f_assign rfl) (wl_end [(6, _)] ⟨rfl, trivial⟩ ?_)))
        refine w_bun (H := []) [_, _] ?_
        refine w_ret ?_
        refine ⟨_, _, fun a ha hh => results_tmps Tryz.results28 rfl a ha _, List.Sublist.refl _, ?_⟩
        exact ⟨12, l, base, sum, _, rfl, rfl, ⟨_, rfl⟩, .inl ⟨by decide, rfl, rfl, rfl, .inr (.inr ⟨hk, hv0, hov, rfl⟩)⟩⟩
      · skip
        have hov : sum + v ≤ 9223372036854775808 := by
          refine Classical.byContradiction fun h => hc3 ?_
          rw [decide_eq_false h]
          rfl
        refine w_skip ?_
        refine w_seq (w_reg (wl_f (f_move rfl) (wl_f (f_nilCheck rfl) (wl_f (f_fieldAddr 4 rfl Tryz.underlying65 rfl rfl (by kernel_rfl)) ?_))))
        refine wl_f (f_loadb 0 rfl Tryz.underlying33 rfl rfl rfl) ?_
        refine wl_f (f_move rfl) (wl_f (f_eqv (v' := .int .u64 ((sum + v : Nat) : Int)) (f_addu rfl rfl (by omega)) (by rw [Int.natCast_add])) ?_)
        refine wl_f (f_nilCheck rfl) (wl_f (f_fieldAddr 4 rfl Tryz.underlying65 rfl rfl (by kernel_rfl)) ?_)
        refine wl_e0 (e_store0 (us := [_]) rfl rfl rfl (by kernel_rfl) (by simp [Value.oneCell']) rfl rfl) ?_
        rintro _ _ w7_8 rfl
        refine wl_end [(0, _), (1, _), (2, _)] ⟨rfl, rfl, rfl, trivial⟩ ?_
        refine w_seq (w_seq (w_reg (wl_f (f_move rfl) (wl_f (f_nilCheck rfl) (wl_f (f_fieldAddr 2 rfl Tryz.underlying65 rfl rfl (by kernel_rfl)) ?_)))))
        refine wl_f (f_loadb 0 rfl Tryz.underlying42 rfl rfl rfl) ?_
        refine wl_f (f_move rfl) (wl_e (e_call0 rfl Tryz.func40 (by kernel_rfl) (fun w hh => rplace_spec _ l k w (Rd.held0 hh (i := 1) rfl) (by omega))) ?_)
        rintro _ _ w2 ⟨_, rfl, rfl, y, rfl, hy⟩
        refine wl_f (f_assign rfl) (wl_end [(0, _), (1, _), (2, _), (7, _)] ⟨rfl, rfl, rfl, rfl, trivial⟩ ?_)
        refine w_seq (w_reg (wl_f (f_move rfl) (wl_f (f_geq rfl rfl) ?_)))
        refine wl_end [(0, _), (1, _), (2, _), (7, _), (38, _)] ⟨rfl, rfl, rfl, rfl, rfl, trivial⟩ ?_
        refine w_ifd rfl (fun hc4 => ?_) (fun hc4 => ?_)
        · skip
          obtain ⟨A, o, s, B, rfl, hA, rfl⟩ := rplE_at hy (by omega)
          have hAl : A.length < (A ++ (k, o, s) :: B).length := by simp
          have hAB : (A ++ B).length ≤ 64 := by
            simp only [List.length_append, List.length_cons] at hl ⊢
            omega
          have hos := hls (k, o, s) (by simp)
          have hos' : o + s ≤ sum := hos
          refine w_with fun hh => ?_
          obtain ⟨g, cap, e⟩ := row_form hh (i := 1) rfl (by omega)
          injection e with e1 _ e3
          subst e1; subst e3
          clear hh
          refine w_seq (w_reg (wl_f (f_move rfl) (wl_f (f_nilCheck rfl) (wl_f (f_fieldAddr 2 rfl Tryz.underlying65 rfl rfl (by kernel_rfl)) ?_))))
          refine wl_f (f_loadb 0 rfl Tryz.underlying42 rfl rfl rfl) ?_
          refine wl_f (f_move rfl) (wl_f (f_indexAddr 3 (i := A.length) rfl rfl Tryz.underlying42 (by kernel_rfl) rfl hAl) ?_)
          refine wl_f (f_loadsr (cs := ecell (some (k, o, s))) 1 rfl Tryz.underlying46 rfl (by kernel_rfl) rfl (encs_get encs_loc)) ?_
          refine wl_e (e_allocs [.string ByteArray.empty, .int .u64 0, .int .u64 0] (by kernel_rfl)) ?_
          rintro _ _ w10_7 ⟨b10_7, rfl, rfl⟩
          refine wl_e0 (e_store0 (us := [_, _, _]) rfl rfl rfl (by kernel_rfl) (by simp [Value.oneCell']) rfl rfl) ?_
          rintro _ _ w10_8 rfl
          refine wl_end [(0, _), (2, _), (7, _), (8, _)] ⟨rfl, rfl, rfl, rfl, trivial⟩ ?_
          refine w_seq (w_reg (wl_f (f_fieldAddr 1 rfl Tryz.underlying46 rfl rfl (by kernel_rfl)) ?_))
          refine wl_f (f_loadb 0 rfl Tryz.underlying33 rfl rfl rfl) ?_
          refine wl_f (f_move rfl) (wl_f (f_eqv (v' := .int .u64 ((o + v : Nat) : Int)) (f_addu rfl rfl (by omega)) (by rw [Int.natCast_add])) ?_)
          refine wl_f (f_fieldAddr 1 rfl Tryz.underlying46 rfl rfl (by kernel_rfl)) ?_
          refine wl_e0 (e_store0 (us := [_]) rfl rfl rfl (by kernel_rfl) (by simp [Value.oneCell']) rfl rfl) ?_
          rintro _ _ w11_5 rfl
          refine wl_end [(0, _), (7, _), (8, _)] ⟨rfl, rfl, rfl, trivial⟩ ?_
          refine w_seq ?_
          refine w_post (fun m H w' => ∃ (U : Value), m = [] ∧ H = rts q 1 n (A ++ B ++ [(k, o + v, s)]) U base (sum + v)) ?_ ?_
          · skip
            refine w_drawx (.fl 0 (.fl 1 (.fl 2 (.fl 3 (.fl 4 (.fl 5 (.fl 7 (.two 6 (.ef 8 (.ef 9 (.fl 10 (.fl 11 (.ef 12 .done))))) 8 (.ef 6 (.ef 9 (.fl 10 (.fl 11 (.ef 12 .done))))))))))))) ([(_, none), (_, some 12), (_, none)]) ([]) mixed (by kernel_rfl) (by kernel_rfl) rfl rfl (List.Perm.refl _) (fun w12_ => ?_)
            refine wx_f rfl (f_move rfl) (wx_f rfl (f_move rfl) (wx_f rfl (f_nilCheck rfl) (wx_f rfl (f_fieldAddr 2 rfl Tryz.underlying65 rfl rfl (by kernel_rfl)) ?_)))
            refine wx_f rfl (f_loadb 1 rfl Tryz.underlying42 rfl rfl rfl) ?_
            refine wx_f rfl (f_move rfl) (wx_f rfl (f_loadsb (cs := [_, _, _]) 0 rfl Tryz.underlying46 rfl (by kernel_rfl) rfl rfl) ?_)
            refine wx_two ?_ ?_
            · skip
              refine ks_e rfl (e_call0 rfl Tryz.func39 (by kernel_rfl) (fun w hh => rwithout_spec _ _ A B (k, o, s) w (Rd.held0 hh (i := 2) rfl) (by omega))) ?_
              rintro _ _ w12_6 ⟨_, rfl, U1, a1, rfl, rfl⟩
              refine ⟨_, List.perm_append_comm_assoc _ _ _, ?_⟩
              refine wx_ef ?_
              refine ks_e rfl (e_lit1 (cs := [_, _, _]) t42 rfl rfl rfl (by omega)) ?_
              rintro _ _ w12_8 ⟨b12_8, rfl, rfl⟩
              refine ⟨_, List.perm_middle.symm, ?_⟩
              refine wx_ef ?_
              refine ks_e rfl (e_appN 4 t42 rfl rfl rfl (fun w hh => Rd.held0 hh (i := 3) rfl) (by simp [Value.oneCell']) (by omega) (by omega)) ?_
              rintro _ _ w12_9 ⟨⟨U2, a2, rfl⟩, rfl⟩
              refine ⟨_, List.Perm.refl _, ?_⟩
              refine wx_f rfl (f_nilCheck rfl) (wx_f rfl (f_fieldAddr 2 rfl Tryz.underlying65 rfl rfl (by kernel_rfl)) ?_)
              refine wx_ef ?_
              refine ks_e0 rfl (e_storeN 1 (us := [_]) rfl rfl rfl rfl (by kernel_rfl) (by simp [Value.oneCell']) rfl rfl) ?_
              rintro _ _ w12_12 rfl
              refine ⟨_, pick_perm [0, 1] _ rfl, ?_⟩
              refine wx_endp [] [2, 3] trivial rfl ?_
              refine ⟨.slice U2 ((A ++ B).length + 1) a2, rfl, ?_⟩
              rw [rts, encs_snoc, List.length_append (bs := [(k, o + v, s)])]
              rfl
            · skip
              refine ks_e rfl (e_lit1 (cs := [_, _, _]) t42 rfl rfl rfl (by omega)) ?_
              rintro _ _ w12_8 ⟨b12_8, rfl, rfl⟩
              refine ⟨_, List.perm_middle.symm, ?_⟩
              refine wx_ef ?_
              refine ks_e rfl (e_call0 rfl Tryz.func39 (by kernel_rfl) (fun w hh => rwithout_spec _ _ A B (k, o, s) w (Rd.held0 hh (i := 2) rfl) (by omega))) ?_
              rintro _ _ w12_6 ⟨_, rfl, U1, a1, rfl, rfl⟩
              refine ⟨_, List.perm_append_comm_assoc _ _ _, ?_⟩
              refine wx_ef ?_
              refine ks_e rfl (e_appN 3 t42 rfl rfl rfl (fun w hh => Rd.held0 hh (i := 4) rfl) (by simp [Value.oneCell']) (by omega) (by omega)) ?_
              rintro _ _ w12_9 ⟨⟨U2, a2, rfl⟩, rfl⟩
              refine ⟨_, List.Perm.refl _, ?_⟩
              refine wx_f rfl (f_nilCheck rfl) (wx_f rfl (f_fieldAddr 2 rfl Tryz.underlying65 rfl rfl (by kernel_rfl)) ?_)
              refine wx_ef ?_
              refine ks_e0 rfl (e_storeN 1 (us := [_]) rfl rfl rfl rfl (by kernel_rfl) (by simp [Value.oneCell']) rfl rfl) ?_
              rintro _ _ w12_12 rfl
              refine ⟨_, pick_perm [0, 1] _ rfl, ?_⟩
              refine wx_endp [] [2, 2] trivial rfl ?_
              refine ⟨.slice U2 ((A ++ B).length + 1) a2, rfl, ?_⟩
              rw [rts, encs_snoc, List.length_append (bs := [(k, o + v, s)])]
              rfl
          rintro _ _ w12_ ⟨U, rfl, rfl⟩
          refine w_seq (w_reg (wl_f (f_assign rfl) (wl_end [(6, _)] ⟨rfl, trivial⟩ ?_)))
          refine w_bun (H := []) [_, _] ?_
          refine w_ret ?_
          refine ⟨_, _, fun a ha hh => results_tmps Tryz.results28 rfl a ha _, List.Sublist.refl _, ?_⟩
          exact ⟨0, _, base, sum + v, _, rfl, rfl, ⟨U, rfl⟩, .inr ⟨rfl, hk, hv0, hov, rfl, .inl ⟨A, o, s, B, rfl, hA, rfl, rfl⟩⟩⟩
        · skip
          have hno := rplE_no hy (by omega)
          refine w_skip ?_
          refine w_seq (w_seq (w_reg (wl_f (f_move rfl) (wl_f (f_nilCheck rfl) (wl_f (f_fieldAddr 0 rfl Tryz.underlying65 rfl rfl (by kernel_rfl)) ?_)))))
          refine wl_f (f_loadb 0 rfl Tryz.underlying3 rfl rfl rfl) ?_
          refine wl_f (f_eql rfl rfl) ?_
          refine wl_end [(0, _), (1, _), (2, _), (67, _)] ⟨rfl, rfl, rfl, rfl, trivial⟩ ?_
          refine w_ifd rfl (fun h => absurd h (by decide)) (fun _ => ?_)
          refine w_skip ?_
          refine w_seq (w_seq ?_)
          refine w_draw [(0, true), (1, true), (2, true), (3, true), (4, true), (5, true), (6, true), (7, true), (8, true), (9, true)] (_) ([]) mixed (by kernel_rfl) (by kernel_rfl) rfl (perm_all _) (fun w17_ => ?_)
          refine wd_f rfl (f_move rfl) (wd_f rfl (f_nilCheck rfl) (wd_f rfl (f_fieldAddr 2 rfl Tryz.underlying65 rfl rfl (by kernel_rfl)) ?_))
          refine wd_f rfl (f_loadb 0 rfl Tryz.underlying42 rfl rfl rfl) ?_
          refine wd_f rfl (f_len rfl Tryz.underlying42) ?_
          refine wd_f rfl (f_move rfl) (wd_f rfl (f_nilCheck rfl) (wd_f rfl (f_fieldAddr 1 rfl Tryz.underlying65 rfl rfl (by kernel_rfl)) ?_))
          refine wd_f rfl (f_loadb 0 rfl Tryz.underlying3 rfl rfl rfl) ?_
          refine wd_f rfl (f_eql rfl rfl) ?_
          refine wd_end [(0, _), (1, _), (2, _), (81, _)] ⟨rfl, rfl, rfl, rfl, trivial⟩ ?_
          refine w_post (fun m' H w' => ∃ (l1 : List En) (base1 : Nat) (O : Value), m' = [(0, .pointer (some ⟨q, 0, .none⟩)), (1, .string k), (2, .int .u64 (v : Int))] ∧ H = rts q 1 n l1 O base1 (sum + v) ∧ l1.length ≤ 64 ∧ ((l.length ≠ n ∧ l1 = l ∧ base1 = base) ∨ (l.length = n ∧ ∃ A y B, l = A ++ y :: B ∧ (∀ a ∈ A, cnt y < cnt a) ∧ (∀ b ∈ B, cnt y ≤ cnt b) ∧ base1 = cnt y ∧ l1 = A ++ B))) ?_ ?_
          · skip
            refine w_ifd rfl (fun hc6 => ?_) (fun hc6 => ?_)
            · skip
              have hln : l.length = n := by
                have : (l.length : Int) = (n : Int) := hc6
                omega
              refine w_seq (w_reg (wl_f (f_assign rfl) (wl_end [(0, _), (1, _), (2, _), (9, _)] ⟨rfl, rfl, rfl, rfl, trivial⟩ ?_)))
              refine w_seq (w_seq (w_reg (wl_f (f_move rfl) (wl_f (f_nilCheck rfl) (wl_f (f_fieldAddr 2 rfl Tryz.underlying65 rfl rfl (by kernel_rfl)) ?_)))))
              refine wl_f (f_loadb 0 rfl Tryz.underlying42 rfl rfl rfl) ?_
              refine wl_f (f_len rfl Tryz.underlying42) ?_
              refine wl_f (f_move rfl) (wl_end [(0, _), (1, _), (2, _), (9, _), (85, _), (86, _), (87, _)] ⟨rfl, rfl, rfl, rfl, rfl, rfl, rfl, trivial⟩ ?_)
              refine w_block ?_
              obtain ⟨y0, hy0⟩ : ∃ y, l[0]? = some y := ⟨_, List.getElem?_eq_getElem (by omega)⟩
              refine w_loop (fun j m H w => ∃ (i a : Nat) (y : En), m = [(0, .pointer (some ⟨q, 0, .none⟩)), (1, .string k), (2, .int .u64 (v : Int)), (9, .int .i64 a), (85, .slice L l.length cl), (86, .int .i64 l.length), (87, .int .i64 i)] ∧ H = rts q 1 n l (.slice L l.length cl) base (sum + v) ∧ j + i = l.length ∧ l[a]? = some y ∧ (∀ b < a, ∀ z, l[b]? = some z → cnt y < cnt z) ∧ (∀ b < i, ∀ z, l[b]? = some z → cnt y ≤ cnt z)) l.length
                ⟨0, 0, y0, rfl, rfl, rfl, hy0, fun b hb => absurd hb (Nat.not_lt_zero b), fun b hb => absurd hb (Nat.not_lt_zero b)⟩ ?_
              rintro j _ _ w1 ⟨i, a, y, rfl, rfl, hj, hya, hlo, hhi⟩
              refine w_seq (w_reg (wl_f (f_lss rfl rfl) ?_))
              refine wl_end [(0, _), (1, _), (2, _), (9, _), (85, _), (86, _), (87, _), (88, _)] ⟨rfl, rfl, rfl, rfl, rfl, rfl, rfl, rfl, trivial⟩ ?_
              refine w_seq ?_
              refine w_ifd rfl (fun hc7 => ?_) (fun hc7 => ?_)
              · skip
                have hi : i < l.length := by
                  have : (i : Int) < (l.length : Int) := hc7
                  omega
                have ha : a < l.length := (List.getElem?_eq_some_iff.1 hya).1
                obtain ⟨p, hpi⟩ : ∃ p, l[i]? = some p := ⟨_, List.getElem?_eq_getElem hi⟩
                have hpc := hls p (List.mem_of_getElem? hpi)
                have hyc := hls y (List.mem_of_getElem? hya)
                refine w_with fun hh => ?_
                obtain ⟨g, cap, e⟩ := row_form hh (i := 1) rfl (by omega)
                injection e with e1 _ e3
                subst e1; subst e3
                clear hh
                refine w_skip ?_
                refine w_seq ?_
                refine w_post (fun m' H w' => ∃ (a' : Nat) (y' : En), m' = [(0, .pointer (some ⟨q, 0, .none⟩)), (1, .string k), (2, .int .u64 (v : Int)), (9, .int .i64 a'), (85, .slice (some ⟨g, 0, .none⟩) l.length cl), (86, .int .i64 l.length), (87, .int .i64 i)] ∧ H = rts q 1 n l (.slice (some ⟨g, 0, .none⟩) l.length cl) base (sum + v) ∧ l[a']? = some y' ∧ (∀ b < a', ∀ z, l[b]? = some z → cnt y' < cnt z) ∧ (∀ b < i + 1, ∀ z, l[b]? = some z → cnt y' ≤ cnt z)) ?_ ?_
                · skip
                  refine w_block ?_
                  refine w_seq (w_reg (wl_f (f_move rfl) (wl_f (f_indexAddr 3 (i := i) rfl rfl Tryz.underlying42 (by kernel_rfl) rfl hi) ?_)))
                  refine wl_f (f_loadsr (cs := ecell (some p)) 1 rfl Tryz.underlying46 rfl (by kernel_rfl) rfl (encs_get hpi)) ?_
                  refine wl_e (e_allocs [.string ByteArray.empty, .int .u64 0, .int .u64 0] (by kernel_rfl)) ?_
                  rintro _ _ w21_3 ⟨b21_3, rfl, rfl⟩
                  refine wl_f (f_assign rfl) (wl_e0 (e_store0 (us := [_, _, _]) rfl rfl rfl (by kernel_rfl) (by simp [Value.oneCell']) rfl rfl) ?_)
                  rintro _ _ w21_5 rfl
                  refine wl_end [(0, _), (1, _), (2, _), (9, _), (10, _), (11, _), (85, _), (86, _), (87, _)] ⟨rfl, rfl, rfl, rfl, rfl, rfl, rfl, rfl, rfl, trivial⟩ ?_
                  refine w_seq ?_
                  refine w_draw [(0, true), (1, true), (2, true), (3, true), (4, true), (5, true), (6, true), (7, true), (8, true), (9, true), (10, true), (11, true), (12, true), (13, true), (14, true), (15, true), (16, true), (17, true), (18, true), (19, true), (20, true), (21, true), (22, true)] (_) ([]) mixed (by kernel_rfl) (by kernel_rfl) rfl (perm_all _) (fun w22_ => ?_)
                  refine wd_f rfl (f_fieldAddr 1 rfl Tryz.underlying46 rfl rfl (by kernel_rfl)) ?_
                  refine wd_f rfl (f_loadb 0 rfl Tryz.underlying33 rfl rfl rfl) ?_
                  refine wd_f rfl (f_fieldAddr 2 rfl Tryz.underlying46 rfl rfl (by kernel_rfl)) ?_
                  refine wd_f rfl (f_loadb 0 rfl Tryz.underlying33 rfl rfl rfl) ?_
                  refine wd_f rfl (f_eqv (v' := .int .u64 ((cnt p : Nat) : Int)) (f_addu rfl rfl (by omega)) (by rw [cnt, Int.natCast_add])) ?_
                  refine wd_f rfl (f_move rfl) (wd_f rfl (f_nilCheck rfl) (wd_f rfl (f_fieldAddr 2 rfl Tryz.underlying65 rfl rfl (by kernel_rfl)) ?_))
                  refine wd_f rfl (f_loadb 1 rfl Tryz.underlying42 rfl rfl rfl) ?_
                  refine wd_f rfl (f_move rfl) (wd_f rfl (f_indexAddr 3 (i := a) rfl rfl Tryz.underlying42 (by kernel_rfl) rfl ha) ?_)
                  refine wd_f rfl (f_fieldAddr 1 rfl Tryz.underlying46 rfl rfl (by kernel_rfl)) ?_
                  refine wd_f rfl (f_loadr (v := .int .u64 (y.2.1 : Int)) 2 rfl Tryz.underlying33 rfl rfl (ecells_j (o := some y) (by rw [List.getElem?_map, hya]; rfl) 1 rfl (by omega))) ?_
                  refine wd_f rfl (f_move rfl) (wd_f rfl (f_nilCheck rfl) (wd_f rfl (f_fieldAddr 2 rfl Tryz.underlying65 rfl rfl (by kernel_rfl)) ?_))
                  refine wd_f rfl (f_loadb 1 rfl Tryz.underlying42 rfl rfl rfl) ?_
                  refine wd_f rfl (f_move rfl) (wd_f rfl (f_indexAddr 3 (i := a) rfl rfl Tryz.underlying42 (by kernel_rfl) rfl ha) ?_)
                  refine wd_f rfl (f_fieldAddr 2 rfl Tryz.underlying46 rfl rfl (by kernel_rfl)) ?_
                  refine wd_f rfl (f_loadr (v := .int .u64 (y.2.2 : Int)) 2 rfl Tryz.underlying33 rfl rfl (ecells_j (o := some y) (by rw [List.getElem?_map, hya]; rfl) 2 rfl (by omega))) ?_
                  refine wd_f rfl (f_eqv (v' := .int .u64 ((cnt y : Nat) : Int)) (f_addu rfl rfl (by omega)) (by rw [cnt, Int.natCast_add])) ?_
                  refine wd_f rfl (f_lss rfl rfl) ?_
                  refine wd_endp [(0, _), (1, _), (2, _), (9, _), (10, _), (85, _), (86, _), (87, _), (114, _)] [1, 1] ⟨rfl, rfl, rfl, rfl, rfl, rfl, rfl, rfl, rfl, trivial⟩ rfl ?_
                  refine w_ifd rfl (fun hc8 => ?_) (fun hc8 => ?_)
                  · skip
                    have hlt : cnt p < cnt y := by
                      have : (cnt p : Int) < (cnt y : Int) := hc8
                      omega
                    refine w_reg (wl_f (f_move rfl) (wl_f (f_assign rfl) (wl_end [(0, _), (1, _), (2, _), (9, _), (85, _), (86, _), (87, _)] ⟨rfl, rfl, rfl, rfl, rfl, rfl, rfl, trivial⟩ ?_)))
                    refine ⟨i, p, rfl, rfl, hpi, fun b hb z hz => by have := hhi b hb z hz; omega, fun b hb z hz => ?_⟩
                    rcases Nat.lt_or_eq_of_le (Nat.le_of_lt_succ hb) with h | rfl
                    · have := hhi b h z hz; omega
                    · rw [hpi] at hz; injection hz with hz; subst hz; exact Nat.le_refl _
                  · skip
                    have hlt : cnt y ≤ cnt p := by
                      have : ¬ (cnt p : Int) < (cnt y : Int) := hc8
                      omega
                    refine w_sub [(0, _), (1, _), (2, _), (9, _), (85, _), (86, _), (87, _)] ⟨rfl, rfl, rfl, rfl, rfl, rfl, rfl, trivial⟩ (w_skip ?_)
                    refine ⟨a, y, rfl, rfl, hya, hlo, fun b hb z hz => ?_⟩
                    rcases Nat.lt_or_eq_of_le (Nat.le_of_lt_succ hb) with h | rfl
                    · exact hhi b h z hz
                    · rw [hpi] at hz; injection hz with hz; subst hz; exact hlt
                · rintro _ _ w9 ⟨a', y', rfl, rfl, hya', hlo', hhi'⟩
                  refine w_reg (wl_f (f_add rfl rfl (by omega)) ?_)
                  refine wl_f (f_move rfl) (wl_end [(0, _), (1, _), (2, _), (9, _), (85, _), (86, _), (87, _)] ⟨rfl, rfl, rfl, rfl, rfl, rfl, rfl, trivial⟩ ?_)
                  exact ⟨j - 1, by omega, i + 1, a', y', rfl, rfl, by omega, hya', hlo', hhi'⟩
              · skip
                have hil : i = l.length := by
                  have : ¬ (i : Int) < (l.length : Int) := hc7
                  omega
                have ha : a < l.length := (List.getElem?_eq_some_iff.1 hya).1
                have hyc := hls y (List.mem_of_getElem? hya)
                obtain ⟨A, B, hAl, rfl⟩ : ∃ A B, A.length = a ∧ l = A ++ y :: B := by
                  refine ⟨l.take a, l.drop (a + 1), by rw [List.length_take]; omega, ?_⟩
                  obtain ⟨h1, h2⟩ := List.getElem?_eq_some_iff.1 hya
                  rw [← h2, ← List.drop_eq_getElem_cons h1, List.take_append_drop]
                subst hAl
                have hyA : ∀ x ∈ A, cnt y < cnt x := fun x hx => by
                  obtain ⟨b, hb⟩ := List.mem_iff_getElem?.1 hx
                  have hbl : b < A.length := (List.getElem?_eq_some_iff.1 hb).1
                  exact hlo b hbl x (by rw [List.getElem?_append_left hbl]; exact hb)
                have hyB : ∀ x ∈ B, cnt y ≤ cnt x := fun x hx => by
                  obtain ⟨b, hb⟩ := List.mem_iff_getElem?.1 hx
                  have hbl : b < B.length := (List.getElem?_eq_some_iff.1 hb).1
                  refine hhi (A.length + (b + 1)) (by rw [hil]; simp only [List.length_append, List.length_cons]; omega) x ?_
                  rw [List.getElem?_append_right (by omega), Nat.add_sub_cancel_left]
                  exact hb
                refine w_with fun hh => ?_
                obtain ⟨g, cap, e⟩ := row_form hh (i := 1) rfl (by omega)
                injection e with e1 _ e3
                subst e1; subst e3
                clear hh
                refine w_exit0 ?_
                refine w_seq ?_
                refine w_drawk [(0, true), (1, true), (2, true), (3, true), (4, true), (5, true), (6, true), (7, true), (8, true), (9, true), (10, true), (11, true), (12, true), (13, true), (14, true), (15, true), (16, true), (17, true), (18, true), (19, true), (20, false)] ([(_, some 20), (_, none)]) ([]) mixed (by kernel_rfl) (by kernel_rfl) rfl rfl (List.Perm.refl _) (fun w25_ => ?_)
                refine wk_f rfl (f_move rfl) (wk_f rfl (f_move rfl) (wk_f rfl (f_nilCheck rfl) (wk_f rfl (f_fieldAddr 2 rfl Tryz.underlying65 rfl rfl (by kernel_rfl)) ?_)))
                refine wk_f rfl (f_loadb 0 rfl Tryz.underlying42 rfl rfl rfl) ?_
                refine wk_f rfl (f_move rfl) (wk_f rfl (f_indexAddr 3 (i := A.length) rfl rfl Tryz.underlying42 (by kernel_rfl) rfl ha) ?_)
                refine wk_f rfl (f_fieldAddr 1 rfl Tryz.underlying46 rfl rfl (by kernel_rfl)) ?_
                refine wk_f rfl (f_loadr (v := .int .u64 (y.2.1 : Int)) 1 rfl Tryz.underlying33 rfl rfl (ecells_j (o := some y) (by rw [List.getElem?_map, hya]; rfl) 1 rfl (by omega))) ?_
                refine wk_f rfl (f_move rfl) (wk_f rfl (f_nilCheck rfl) (wk_f rfl (f_fieldAddr 2 rfl Tryz.underlying65 rfl rfl (by kernel_rfl)) ?_))
                refine wk_f rfl (f_loadb 0 rfl Tryz.underlying42 rfl rfl rfl) ?_
                refine wk_f rfl (f_move rfl) (wk_f rfl (f_indexAddr 3 (i := A.length) rfl rfl Tryz.underlying42 (by kernel_rfl) rfl ha) ?_)
                refine wk_f rfl (f_fieldAddr 2 rfl Tryz.underlying46 rfl rfl (by kernel_rfl)) ?_
                refine wk_f rfl (f_loadr (v := .int .u64 (y.2.2 : Int)) 1 rfl Tryz.underlying33 rfl rfl (ecells_j (o := some y) (by rw [List.getElem?_map, hya]; rfl) 2 rfl (by omega))) ?_
                refine wk_f rfl (f_eqv (v' := .int .u64 ((cnt y : Nat) : Int)) (f_addu rfl rfl (by omega)) (by rw [cnt, Int.natCast_add])) ?_
                refine wk_f rfl (f_nilCheck rfl) (wk_f rfl (f_fieldAddr 3 rfl Tryz.underlying65 rfl rfl (by kernel_rfl)) ?_)
                refine wk_e0 rfl (e_storeN 0 (us := [_]) rfl rfl rfl rfl (by kernel_rfl) (by simp [Value.oneCell']) rfl rfl) ?_
                rintro _ _ w25 rfl
                refine ⟨_, List.Perm.swap .., ?_⟩
                refine wk_endp [(0, _), (1, _), (2, _), (9, _)] [1, 0] ⟨rfl, rfl, rfl, rfl, trivial⟩ rfl ?_
                refine w_reg (wl_f (f_move rfl) (wl_f (f_move rfl) (wl_f (f_nilCheck rfl) (wl_f (f_fieldAddr 2 rfl Tryz.underlying65 rfl rfl (by kernel_rfl)) ?_))))
                refine wl_f (f_loadb 0 rfl Tryz.underlying42 rfl rfl rfl) ?_
                refine wl_f (f_move rfl) (wl_e (e_call0 rfl Tryz.func39 (by kernel_rfl) (fun w hh => rwithout_spec _ _ A B y w (Rd.held0 hh (i := 1) rfl) (by omega))) ?_)
                rintro _ _ w26 ⟨_, rfl, U2, u2, rfl, rfl⟩
                refine wl_f (f_nilCheck rfl) (wl_f (f_fieldAddr 2 rfl Tryz.underlying65 rfl rfl (by kernel_rfl)) ?_)
                refine wl_e0 (e_store1 (us := [_]) rfl rfl rfl (by kernel_rfl) (by simp [Value.oneCell']) rfl rfl) ?_
                rintro _ _ w26_9 rfl
                refine wl_pick [1, 0] rfl ?_
                refine wl_end [(0, _), (1, _), (2, _)] ⟨rfl, rfl, rfl, trivial⟩ ?_
                exact ⟨A ++ B, cnt y, .slice U2 (A ++ B).length u2, rfl, rfl, by simp only [List.length_append, List.length_cons] at hl ⊢; omega, .inr ⟨hln, A, y, B, rfl, hyA, hyB, rfl, rfl⟩⟩
            · skip
              refine w_sub [(0, _), (1, _), (2, _)] ⟨rfl, rfl, rfl, trivial⟩ (w_skip ?_)
              exact ⟨l, base, .slice L l.length cl, rfl, rfl, by omega, .inl ⟨fun e => hc6 (by rw [e]), rfl, rfl⟩⟩
          · rintro _ _ w9 ⟨l1, base1, O, rfl, rfl, hl1, hD⟩
            refine w_seq ?_
            refine w_drawk [(0, true), (1, true), (2, true), (3, true), (4, true), (5, true), (6, true), (7, true), (8, true), (9, true), (10, true), (11, true), (12, false), (13, false), (14, true), (15, true), (16, false)] ([(_, some 16)]) ([_]) mixed (by kernel_rfl) (by kernel_rfl) rfl rfl (List.Perm.refl _) (fun w27_ => ?_)
            refine wk_f rfl (f_move rfl) (wk_f rfl (f_move rfl) (wk_f rfl (f_nilCheck rfl) (wk_f rfl (f_fieldAddr 2 rfl Tryz.underlying65 rfl rfl (by kernel_rfl)) ?_)))
            refine wk_f rfl (f_loadb 0 rfl Tryz.underlying42 rfl rfl rfl) ?_
            refine wk_f rfl (f_move rfl) (wk_f rfl (f_move rfl) (wk_f rfl (f_move rfl) (wk_f rfl (f_nilCheck rfl) (wk_f rfl (f_fieldAddr 3 rfl Tryz.underlying65 rfl rfl (by kernel_rfl)) ?_))))
            refine wk_f rfl (f_loadb 0 rfl Tryz.underlying33 rfl rfl rfl) ?_
            refine wk_f rfl (f_build rfl (fun w => build_entry _ _ _ w)) ?_
            refine wk_e rfl (e_lit1 (cs := [_, _, _]) t42 rfl rfl rfl (by omega)) ?_
            rintro _ _ w27_12 ⟨b27_12, rfl, rfl⟩
            refine ⟨_, List.perm_middle.symm, ?_⟩
            refine wk_e rfl (e_appN 2 t42 rfl rfl rfl (fun w hh => Rd.held0 hh (i := 1) rfl) (by simp [Value.oneCell']) (by omega) (by omega)) ?_
            rintro _ _ w5 ⟨⟨U2, u2, rfl⟩, rfl⟩
            refine ⟨_, List.Perm.refl _, ?_⟩
            refine wk_f rfl (f_nilCheck rfl) (wk_f rfl (f_fieldAddr 2 rfl Tryz.underlying65 rfl rfl (by kernel_rfl)) ?_)
            refine wk_e0 rfl (e_storeN 0 (us := [_]) rfl rfl rfl rfl (by kernel_rfl) (by simp [Value.oneCell']) rfl rfl) ?_
            rintro _ _ w27_16 rfl
            refine ⟨_, List.Perm.refl _, ?_⟩
            refine wk_endp [] [0, 1] trivial rfl ?_
            refine w_seq (w_reg (wl_f (f_assign rfl) (wl_end [(6, _)] ⟨rfl, trivial⟩ ?_)))
            refine w_bun (H := []) [_, _] ?_
            refine w_ret ?_
            refine ⟨_, _, fun a ha hh => results_tmps Tryz.results28 rfl a ha _, List.Sublist.refl _, ?_⟩
            refine ⟨0, l1 ++ [(k, v, base1)], base1, sum + v, _, rfl, rfl, ⟨.slice U2 (l1.length + 1) u2, ?_⟩, .inr ⟨rfl, hk, hv0, hov, rfl, .inr ?_⟩⟩
            · rw [rts, encs_snoc, List.length_append (bs := [(k, v, base1)])]
              rfl
            · rcases hD with ⟨h1, rfl, rfl⟩ | ⟨h1, A, y, B, h2, h3, h4, rfl, rfl⟩
              · exact .inl ⟨hno, h1, rfl, rfl⟩
              · exact .inr ⟨hno, h1, A, y, B, h2, h3, h4, rfl, rfl⟩
end Go.Proofs.YtmagdjlcckgkpaaGreat

/- The reference's tables in the mode Saving: exchanging. -/
namespace Go.Proofs.YtmagdjlcckgkpaaGreat
open Go.RowKit

def RsSwapG (l : List En) (base : Nat) (k x : ByteArray) (xo xs : Nat) (v : Value) (l' : List En) : Prop :=
  (∃ e : Int, v = .tuple [enZ, .int .i64 e].toArray ∧ l' = l ∧ (k ∉ eks l ∧ e = 8 ∨ ∃ o s A B, RAt l k o s A B ∧ (x = ByteArray.empty ∧ e = 3 ∨ x ≠ ByteArray.empty ∧ (x ∈ eks l ∧ e = 10 ∨ x ∉ eks l ∧ o + s < xo + xs ∧ e = 1)))) ∨
  (∃ o s A B, RAt l k o s A B ∧ x ≠ ByteArray.empty ∧ x ∉ eks l ∧ xo + xs ≤ o + s ∧ v = .tuple [enV k o s, .int .i64 0].toArray ∧ l' = A ++ B ++ [(x, xo, max xs (base - xo))])
theorem rexact_spec (a b c : Nat) (w : World) (hc : c < 18446744073709551616) : Spec Tryz.prog 41 [.int .u64 (a : Int), .int .u64 (b : Int), .int .u64 (c : Int)] w Nil fun r H => r = .bool (decide (a + b ≤ c)) ∧ H = [] := by
  refine enter (n := 17) Tryz.func41 rfl rfl [(0, _), (1, _), (2, _)] rfl ⟨rfl, rfl, rfl, trivial⟩ (Holds.start _ _) ?_
  refine w_seq (w_reg (wl_f (f_assign rfl) (wl_end [(0, _), (1, _), (2, _)] ⟨rfl, rfl, rfl, trivial⟩ ?_)))
  refine w_seq (w_reg (wl_f (f_move rfl) (wl_f (f_move rfl) (wl_f (f_leq rfl rfl) ?_))))
  refine wl_f (f_move rfl) ?_
  refine wl_and (j := 3) (c := decide ((b : Int) ≤ (c : Int) - (a : Int))) 5 [] trivial rfl rfl rfl rfl rfl (fun hg1_9 => ?_) (fun w1_9 => ?_)
  · skip
    refine wl_gf rfl rfl (f_move rfl) ?_
    refine wl_gf rfl rfl (f_move rfl) ?_
    refine wl_gf rfl rfl (f_move rfl) ?_
    refine wl_gf rfl rfl (f_subu rfl rfl (by have := of_decide_eq_true hg1_9; omega)) ?_
    refine wl_gf rfl rfl (f_leq rfl rfl) ?_
    exact wl_pend rfl rfl trivial (List.Sublist.refl _)
  refine wl_f (f_assign rfl) (wl_end [(6, _)] ⟨rfl, trivial⟩ ?_)
  refine w_ret ?_
  refine ⟨_, _, fun a ha hh => results_tmps Tryz.results41 rfl a ha _, List.Sublist.refl _, ?_⟩
  refine ⟨congrArg Value.bool ?_, rfl⟩
  rw [← Bool.decide_and, decide_eq_decide]
  omega
set_option maxHeartbeats 8000000 in
theorem rsswap_spec (q n : Nat) (l : List En) (base sum : Nat) (r : Res) (k x : ByteArray) (xo xs : Nat) (w : World) (hl : l.length ≤ 64) (hxo : xo < 18446744073709551616) (hb : base < 18446744073709551616) (hls : ∀ x ∈ l, x.2.1 + x.2.2 < 18446744073709551616) (hr : RtR q 1 n l base sum r) (hs : Holds w r.foot [r] w) :
    Spec Tryz.prog 27 [.pointer (some ⟨q, 0, .none⟩), .string k, .agg #[.string x, .int .u64 (xo : Int), .int .u64 (xs : Int)]] w r.foot fun v H => ∃ l' r', H = [r'] ∧ RtR q 1 n l' base sum r' ∧ RsSwapG l base k x xo xs v l' := by
  have hr0 := hr
  obtain ⟨LV, rfl⟩ := hr
  refine enter (n := 106) Tryz.func27 rfl rfl [(0, _), (1, _), (2, _)] rfl ⟨rfl, rfl, rfl, trivial⟩ hs ?_
  refine w_seq (w_reg (wl_e (e_box (cs := [_, _, _]) rfl rfl) ?_))
  rintro _ _ w0_0 ⟨b0_0, rfl, rfl⟩
  refine wl_e (e_allocs [.string ByteArray.empty, .int .u64 0, .int .u64 0] (by kernel_rfl)) ?_
  rintro _ _ w0_1 ⟨b0_1, rfl, rfl⟩
  refine wl_f (f_assign rfl) (wl_end [(0, _), (1, _), (5, _), (6, _)] ⟨rfl, rfl, rfl, rfl, trivial⟩ ?_)
  refine w_seq (w_reg (wl_f (f_move rfl) (wl_f (f_move rfl) (wl_e (e_call1 _ [_, _] rfl Tryz.func38 (by kernel_rfl) (pk1 2 rfl) (fun w hh hs' => rget_spec q 1 n l base sum _ k w (by omega) hr0 hs')) ?_))))
  rintro _ _ w1 ⟨_, rfl, rfl, k', o, s', is, rfl, hG⟩
  refine wl_f (f_move rfl) (wl_f (f_extract rfl rfl) ?_)
  refine wl_f (f_extract rfl rfl) ?_
  refine wl_e (e_allocs [.string ByteArray.empty, .int .u64 0, .int .u64 0] (by kernel_rfl)) ?_
  rintro _ _ w1_6 ⟨b1_6, rfl, rfl⟩
  refine wl_e0 (e_store0 (us := [_, _, _]) rfl rfl rfl (by kernel_rfl) (by simp [Value.oneCell']) rfl rfl) ?_
  rintro _ _ w1_7 rfl
  refine wl_f (f_assign rfl) (wl_end [(0, _), (1, _), (5, _), (6, _), (8, _), (9, _)] ⟨rfl, rfl, rfl, rfl, rfl, rfl, trivial⟩ ?_)
  refine w_seq (w_seq (w_reg (wl_f (f_move rfl) (wl_f (f_not rfl rfl) ?_))))
  refine wl_end [(0, _), (1, _), (5, _), (6, _), (8, _), (17, _)] ⟨rfl, rfl, rfl, rfl, rfl, rfl, trivial⟩ ?_
  refine w_ifb rfl (fun hc1 => ?_) (fun hc1 => ?_)
  · skip
    have hno : k ∉ eks l := by
      rcases hG with ⟨_, h, _⟩ | ⟨h, _⟩
      · exact h
      · rw [h] at hc1; cases hc1
    refine w_seq (w_reg (wl_f (f_build rfl build_entry0) ?_))
    refine wl_e0 (e_store2 (us := [_, _, _]) rfl rfl rfl (by kernel_rfl) (by simp [Value.oneCell']) rfl rfl) ?_
    rintro _ _ w3_1 rfl
    refine wl_f (f_assign rfl) (wl_end [(6, _), (7, _)] ⟨rfl, rfl, trivial⟩ ?_)
    refine w_pick [2, 1] rfl ?_
    refine w_ret ?_
    refine ⟨_, _, fun a ha hh => results_mix Tryz.results27 (rm_cell (cell_agg 0 rfl Tryz.underlying46 rfl (by kernel_rfl) rfl) (rm_tmp rfl rm_nil)) a ha _ hh, List.sublist_cons_self .., ?_⟩
    exact ⟨l, _, rfl, ⟨_, rfl⟩, .inl ⟨8, rfl, rfl, .inl ⟨hno, rfl⟩⟩⟩
  · skip
    obtain ⟨A, s, B, hl2, hA, hk2, hs2⟩ : ∃ A s B, l = A ++ (k, o, s) :: B ∧ k ∉ eks A ∧ k' = k ∧ s' = s := by
      rcases hG with ⟨h, _⟩ | ⟨_, A, s, B, h2, h3, h4, h5⟩
      · rw [h] at hc1; exact absurd rfl hc1
      · exact ⟨A, s, B, h2, h3, h4, h5⟩
    subst hl2
    have hk3 := hk2.symm
    subst hk3
    have hs3 := hs2.symm
    subst hs3
    have hAt : RAt (A ++ (k, o, s) :: B) k o s A B := ⟨rfl, hA⟩
    clear hG hc1
    refine w_skip ?_
    refine w_seq (w_seq (w_reg (wl_f (f_fieldAddr 0 rfl Tryz.underlying46 rfl rfl (by kernel_rfl)) ?_)))
    refine wl_f (f_loadb 3 rfl Tryz.underlying9 rfl rfl rfl) ?_
    refine wl_f (f_eqls rfl rfl) ?_
    refine wl_end [(0, _), (1, _), (5, _), (6, _), (8, _), (21, _)] ⟨rfl, rfl, rfl, rfl, rfl, rfl, trivial⟩ ?_
    refine w_ifd rfl (fun hc2 => ?_) (fun hc2 => ?_)
    · skip
      have hx : x = ByteArray.empty := hc2
      refine w_seq (w_reg (wl_f (f_build rfl build_entry0) ?_))
      refine wl_e0 (e_store2 (us := [_, _, _]) rfl rfl rfl (by kernel_rfl) (by simp [Value.oneCell']) rfl rfl) ?_
      rintro _ _ w5_1 rfl
      refine wl_f (f_assign rfl) (wl_end [(6, _), (7, _)] ⟨rfl, rfl, trivial⟩ ?_)
      refine w_pick [2, 1] rfl ?_
      refine w_ret ?_
      refine ⟨_, _, fun a ha hh => results_mix Tryz.results27 (rm_cell (cell_agg 0 rfl Tryz.underlying46 rfl (by kernel_rfl) rfl) (rm_tmp rfl rm_nil)) a ha _ hh, List.sublist_cons_self .., ?_⟩
      exact ⟨_, _, rfl, ⟨_, rfl⟩, .inl ⟨3, rfl, rfl, .inr ⟨o, s, A, B, hAt, .inl ⟨hx, rfl⟩⟩⟩⟩
    · skip
      have hx : x ≠ ByteArray.empty := hc2
      refine w_skip ?_
      refine w_seq (w_seq ?_)
      refine w_draw [(0, true), (1, true), (2, true), (3, true), (4, true), (5, true), (6, false), (7, true)] (_) ([]) mixed (by kernel_rfl) (by kernel_rfl) rfl (perm_all _) (fun w6_ => ?_)
      refine wd_f rfl (f_move rfl) (wd_f rfl (f_nilCheck rfl) (wd_f rfl (f_fieldAddr 2 rfl Tryz.underlying65 rfl rfl (by kernel_rfl)) ?_))
      refine wd_f rfl (f_loadB 1 0 rfl rfl rfl Tryz.underlying42 rfl rfl) ?_
      refine wd_f rfl (f_fieldAddr 0 rfl Tryz.underlying46 rfl rfl (by kernel_rfl)) ?_
      refine wd_f rfl (f_loadb 3 rfl Tryz.underlying9 rfl rfl rfl) ?_
      refine wd_e rfl (e_call0 rfl Tryz.func40 (by kernel_rfl) (fun w hh => rplace_spec LV _ x w (Rd.heldB hh (i := 1) (j := 1) rfl rfl) (by omega))) ?_
      rintro _ _ w2 ⟨_, rfl, rfl, y, rfl, hy⟩
      refine ⟨_, List.Perm.refl _, ?_⟩
      refine wd_f rfl (f_geq rfl rfl) ?_
      refine wd_end [(0, _), (1, _), (5, _), (6, _), (8, _), (30, _)] ⟨rfl, rfl, rfl, rfl, rfl, rfl, trivial⟩ ?_
      refine w_ifd rfl (fun hc3 => ?_) (fun hc3 => ?_)
      · skip
        have hxi := rplE_in hy (by omega)
        refine w_seq (w_reg (wl_f (f_build rfl build_entry0) ?_))
        refine wl_e0 (e_store2 (us := [_, _, _]) rfl rfl rfl (by kernel_rfl) (by simp [Value.oneCell']) rfl rfl) ?_
        rintro _ _ w7_1 rfl
        refine wl_f (f_assign rfl) (wl_end [(6, _), (7, _)] ⟨rfl, rfl, trivial⟩ ?_)
        refine w_pick [2, 1] rfl ?_
        refine w_ret ?_
        refine ⟨_, _, fun a ha hh => results_mix Tryz.results27 (rm_cell (cell_agg 0 rfl Tryz.underlying46 rfl (by kernel_rfl) rfl) (rm_tmp rfl rm_nil)) a ha _ hh, List.sublist_cons_self .., ?_⟩
        exact ⟨_, _, rfl, ⟨_, rfl⟩, .inl ⟨10, rfl, rfl, .inr ⟨o, s, A, B, hAt, .inr ⟨hx, .inl ⟨hxi, rfl⟩⟩⟩⟩⟩
      · skip
        have hxn := rplE_no hy (by omega)
        refine w_skip ?_
        refine w_seq (w_seq (w_reg (wl_f (f_move rfl) (wl_f (f_nilCheck rfl) (wl_f (f_fieldAddr 0 rfl Tryz.underlying65 rfl rfl (by kernel_rfl)) ?_)))))
        refine wl_f (f_loadB 1 0 rfl rfl rfl Tryz.underlying3 rfl rfl) ?_
        refine wl_f (f_eql rfl rfl) ?_
        refine wl_end [(0, _), (1, _), (5, _), (6, _), (8, _), (36, _)] ⟨rfl, rfl, rfl, rfl, rfl, rfl, trivial⟩ ?_
        refine w_ifd rfl (fun _ => ?_) (fun h => absurd rfl h)
        refine w_seq (w_seq (w_reg (wl_f (f_fieldAddr 1 rfl Tryz.underlying46 rfl rfl (by kernel_rfl)) ?_)))
        refine wl_f (f_loadb 3 rfl Tryz.underlying33 rfl rfl rfl) ?_
        refine wl_f (f_fieldAddr 2 rfl Tryz.underlying46 rfl rfl (by kernel_rfl)) ?_
        refine wl_f (f_loadb 3 rfl Tryz.underlying33 rfl rfl rfl) ?_
        refine wl_f (f_fieldAddr 1 rfl Tryz.underlying46 rfl rfl (by kernel_rfl)) ?_
        refine wl_f (f_loadb 0 rfl Tryz.underlying33 rfl rfl rfl) ?_
        refine wl_f (f_fieldAddr 2 rfl Tryz.underlying46 rfl rfl (by kernel_rfl)) ?_
        refine wl_f (f_loadb 0 rfl Tryz.underlying33 rfl rfl rfl) ?_
        have hos := hls (k, o, s) (by simp)
        have hos' : o + s < 18446744073709551616 := hos
        refine wl_f (f_eqv (v' := .int .u64 ((o + s : Nat) : Int)) (f_addu rfl rfl (by omega)) (by rw [Int.natCast_add])) ?_
        refine wl_e (e_call0 rfl Tryz.func41 (by kernel_rfl) (fun w hh => rexact_spec xo xs (o + s) w hos')) ?_
        rintro _ _ w9 ⟨_, rfl, rfl, rfl⟩
        refine wl_f (f_not rfl rfl) ?_
        refine wl_end [(0, _), (1, _), (5, _), (6, _), (8, _), (47, _)] ⟨rfl, rfl, rfl, rfl, rfl, rfl, trivial⟩ ?_
        refine w_ifb rfl (fun hc5 => ?_) (fun hc5 => ?_)
        · skip
          have hex : o + s < xo + xs := by
            refine Classical.byContradiction fun h => ?_
            rw [decide_eq_true (show xo + xs ≤ o + s by omega)] at hc5
            cases hc5
          refine w_seq (w_reg (wl_f (f_build rfl build_entry0) ?_))
          refine wl_e0 (e_store2 (us := [_, _, _]) rfl rfl rfl (by kernel_rfl) (by simp [Value.oneCell']) rfl rfl) ?_
          rintro _ _ w10_1 rfl
          refine wl_f (f_assign rfl) (wl_end [(6, _), (7, _)] ⟨rfl, rfl, trivial⟩ ?_)
          refine w_pick [2, 1] rfl ?_
          refine w_ret ?_
          refine ⟨_, _, fun a ha hh => results_mix Tryz.results27 (rm_cell (cell_agg 0 rfl Tryz.underlying46 rfl (by kernel_rfl) rfl) (rm_tmp rfl rm_nil)) a ha _ hh, List.sublist_cons_self .., ?_⟩
          exact ⟨_, _, rfl, ⟨_, rfl⟩, .inl ⟨1, rfl, rfl, .inr ⟨o, s, A, B, hAt, .inr ⟨hx, .inr ⟨hxn, hex, rfl⟩⟩⟩⟩⟩
        · skip
          have hex : xo + xs ≤ o + s := by
            refine Classical.byContradiction fun h => hc5 ?_
            rw [decide_eq_false h]
            rfl
          refine w_skip ?_
          refine w_seq ?_
          refine w_draw [(0, true), (1, true), (2, true), (3, true), (4, true), (5, true), (6, true)] (_) ([]) mixed (by kernel_rfl) (by kernel_rfl) rfl (perm_all _) (fun w11_ => ?_)
          refine wd_f rfl (f_fieldAddr 1 rfl Tryz.underlying46 rfl rfl (by kernel_rfl)) ?_
          refine wd_f rfl (f_loadb 3 rfl Tryz.underlying33 rfl rfl rfl) ?_
          refine wd_f rfl (f_move rfl) (wd_f rfl (f_nilCheck rfl) (wd_f rfl (f_fieldAddr 3 rfl Tryz.underlying65 rfl rfl (by kernel_rfl)) ?_))
          refine wd_f rfl (f_loadB 1 0 rfl rfl rfl Tryz.underlying33 rfl rfl) ?_
          refine wd_f rfl (f_lss rfl rfl) ?_
          refine wd_end [(0, _), (1, _), (5, _), (6, _), (8, _), (55, _)] ⟨rfl, rfl, rfl, rfl, rfl, rfl, trivial⟩ ?_
          refine w_post (fun m' H w' => m' = [(0, .pointer (some ⟨q, 0, .none⟩)), (1, .string k), (5, .pointer (some ⟨b0_0, 0, .none⟩)), (6, .pointer (some ⟨b0_1, 0, .none⟩)), (8, .pointer (some ⟨b1_6, 0, .none⟩))] ∧ H = [blk b1_6 [.string k, .int .u64 (o : Int), .int .u64 (s : Int)] 46, bun (rts q 1 n (A ++ (k, o, s) :: B) LV base sum), blk b0_1 [.string ByteArray.empty, .int .u64 0, .int .u64 0] 46, blk b0_0 [.string x, .int .u64 (xo : Int), .int .u64 ((max xs (base - xo) : Nat) : Int)] 46]) ?_ ?_
          · skip
            refine w_ifd rfl (fun hc6 => ?_) (fun hc6 => ?_)
            · skip
              have hlt : xo < base := by
                have : (xo : Int) < (base : Int) := hc6
                omega
              refine w_drawk [(0, true), (1, true), (2, true), (3, true), (4, true), (5, true), (6, true), (7, true), (8, true), (9, true), (10, true), (11, false)] ([(_, none), (_, none), (_, none), (_, some 11)]) ([]) mixed (by kernel_rfl) (by kernel_rfl) rfl rfl (List.Perm.refl _) (fun w12_ => ?_)
              refine wk_f rfl (f_fieldAddr 2 rfl Tryz.underlying46 rfl rfl (by kernel_rfl)) ?_
              refine wk_f rfl (f_loadb 3 rfl Tryz.underlying33 rfl rfl rfl) ?_
              refine wk_f rfl (f_move rfl) (wk_f rfl (f_nilCheck rfl) (wk_f rfl (f_fieldAddr 3 rfl Tryz.underlying65 rfl rfl (by kernel_rfl)) ?_))
              refine wk_f rfl (f_loadB 1 0 rfl rfl rfl Tryz.underlying33 rfl rfl) ?_
              refine wk_f rfl (f_fieldAddr 1 rfl Tryz.underlying46 rfl rfl (by kernel_rfl)) ?_
              refine wk_f rfl (f_loadb 3 rfl Tryz.underlying33 rfl rfl rfl) ?_
              refine wk_f rfl (f_eqv (v' := .int .u64 ((base - xo : Nat) : Int)) (f_subu rfl rfl (by omega)) (by congr 1; omega)) ?_
              refine wk_f rfl (f_max (r := ((max xs (base - xo) : Nat) : Int)) rfl rfl (by split <;> omega)) ?_
              refine wk_f rfl (f_fieldAddr 2 rfl Tryz.underlying46 rfl rfl (by kernel_rfl)) ?_
              refine wk_e0 rfl (e_storeN 3 (us := [_]) rfl rfl rfl rfl (by kernel_rfl) (by simp [Value.oneCell']) rfl rfl) ?_
              rintro _ _ w12_11 rfl
              refine ⟨_, List.Perm.refl _, ?_⟩
              refine wk_end [(0, _), (1, _), (5, _), (6, _), (8, _)] ⟨rfl, rfl, rfl, rfl, rfl, trivial⟩ ?_
              exact ⟨rfl, rfl⟩
            · skip
              have hge : base - xo = 0 := by
                have : ¬ (xo : Int) < (base : Int) := hc6
                omega
              refine w_sub [(0, _), (1, _), (5, _), (6, _), (8, _)] ⟨rfl, rfl, rfl, rfl, rfl, trivial⟩ (w_skip ?_)
              rw [hge, Nat.max_eq_left (Nat.zero_le xs)]; exact ⟨rfl, rfl⟩
          · rintro _ _ w10 ⟨rfl, rfl⟩
            refine w_seq (w_pick [1, 0, 0, 0] rfl ?_)
            refine w_with fun hh => ?_
            obtain ⟨g, cap, e⟩ := rowB_form hh (i := 0) (j := 1) rfl rfl (by simp; omega)
            subst e
            clear hh
            refine w_unb [_, _] ?_
            have hAB : (A ++ B).length ≤ 64 := by
              simp only [List.length_append, List.length_cons] at hl ⊢
              omega
            refine w_post (fun m H w' => ∃ (U : Value), m = [(6, .pointer (some ⟨b0_1, 0, .none⟩)), (8, .pointer (some ⟨b1_6, 0, .none⟩))] ∧ H = rts q 1 n (A ++ B ++ [(x, xo, max xs (base - xo))]) U base sum ++ [blk b1_6 [.string k, .int .u64 (o : Int), .int .u64 (s : Int)] 46, blk b0_1 [.string ByteArray.empty, .int .u64 0, .int .u64 0] 46]) ?_ ?_
            · skip
              refine w_drawx (.fl 0 (.fl 1 (.fl 2 (.fl 3 (.fl 4 (.fl 5 (.fl 6 (.fl 7 (.fl 8 (.fl 9 (.fl 12 (.two 10 (.two 11 (.ef 13 (.ef 14 (.fl 15 (.fl 16 (.ef 17 .done))))) 13 (.ef 11 (.ef 14 (.fl 15 (.fl 16 (.ef 17 .done)))))) 13 (.ef 10 (.ef 11 (.ef 14 (.fl 15 (.fl 16 (.ef 17 .done)))))))))))))))))) ([(_, some 17), (_, none), (_, none), (_, none), (_, none)]) ([]) mixed (by kernel_rfl) (by kernel_rfl) rfl rfl (List.Perm.refl _) (fun w16_ => ?_)
              refine wx_f rfl (f_move rfl) (wx_f rfl (f_move rfl) (wx_f rfl (f_nilCheck rfl) (wx_f rfl (f_fieldAddr 2 rfl Tryz.underlying65 rfl rfl (by kernel_rfl)) ?_)))
              refine wx_f rfl (f_loadb 0 rfl Tryz.underlying42 rfl rfl rfl) ?_
              refine wx_f rfl (f_move rfl) (wx_f rfl (f_nilCheck rfl) (wx_f rfl (f_fieldAddr 2 rfl Tryz.underlying65 rfl rfl (by kernel_rfl)) ?_))
              refine wx_f rfl (f_loadb 0 rfl Tryz.underlying42 rfl rfl rfl) ?_
              refine wx_f rfl (f_move rfl) (wx_f rfl (f_loadsb (cs := [_, _, _]) 4 rfl Tryz.underlying46 rfl (by kernel_rfl) rfl rfl) ?_)
              refine wx_two ?_ ?_
              · skip
                refine ks_e rfl (e_call0 rfl Tryz.func40 (by kernel_rfl) (fun w hh => rplace_spec _ _ k w (Rd.held0 hh (i := 1) rfl) (by omega))) ?_
                rintro _ _ w16_10 ⟨_, rfl, rfl, y2, rfl, hy2⟩
                obtain rfl : y2 = (A.length : Nat) := rplE_uniq hA hy2
                refine ⟨_, List.Perm.refl _, ?_⟩
                refine wx_two ?_ ?_
                · skip
                  refine ks_e rfl (e_call0 rfl Tryz.func39 (by kernel_rfl) (fun w hh => rwithout_spec _ _ A B (k, o, s) w (Rd.held0 hh (i := 1) rfl) (by omega))) ?_
                  rintro _ _ w16_11 ⟨_, rfl, U1, a1, rfl, rfl⟩
                  refine ⟨_, List.perm_append_comm_assoc _ _ _, ?_⟩
                  refine wx_ef ?_
                  refine ks_e rfl (e_lit1 (cs := [_, _, _]) t42 rfl rfl rfl (by omega)) ?_
                  rintro _ _ w16_13 ⟨b16_13, rfl, rfl⟩
                  refine ⟨_, List.perm_middle.symm, ?_⟩
                  refine wx_ef ?_
                  refine ks_e rfl (e_appN 6 t42 rfl rfl rfl (fun w hh => Rd.held0 hh (i := 5) rfl) (by simp [Value.oneCell']) (by omega) (by omega)) ?_
                  rintro _ _ w16_14 ⟨⟨U2, a2, rfl⟩, rfl⟩
                  refine ⟨_, List.Perm.refl _, ?_⟩
                  refine wx_f rfl (f_nilCheck rfl) (wx_f rfl (f_fieldAddr 2 rfl Tryz.underlying65 rfl rfl (by kernel_rfl)) ?_)
                  refine wx_ef ?_
                  refine ks_e0 rfl (e_storeN 0 (us := [_]) rfl rfl rfl rfl (by kernel_rfl) (by simp [Value.oneCell']) rfl rfl) ?_
                  rintro _ _ w16_17 rfl
                  refine ⟨_, pick_perm [1, 1, 1, 1] _ rfl, ?_⟩
                  refine wx_endp [(6, _), (8, _)] [4, 5, 1, 1] ⟨rfl, rfl, trivial⟩ rfl ?_
                  refine ⟨.slice U2 ((A ++ B).length + 1) a2, rfl, ?_⟩
                  rw [rts, encs_snoc, List.length_append (bs := [(x, xo, max xs (base - xo))])]
                  rfl
                · skip
                  refine ks_e rfl (e_lit1 (cs := [_, _, _]) t42 rfl rfl rfl (by omega)) ?_
                  rintro _ _ w16_13 ⟨b16_13, rfl, rfl⟩
                  refine ⟨_, List.perm_middle.symm, ?_⟩
                  refine wx_ef ?_
                  refine ks_e rfl (e_call0 rfl Tryz.func39 (by kernel_rfl) (fun w hh => rwithout_spec _ _ A B (k, o, s) w (Rd.held0 hh (i := 1) rfl) (by omega))) ?_
                  rintro _ _ w16_11 ⟨_, rfl, U1, a1, rfl, rfl⟩
                  refine ⟨_, List.perm_append_comm_assoc _ _ _, ?_⟩
                  refine wx_ef ?_
                  refine ks_e rfl (e_appN 5 t42 rfl rfl rfl (fun w hh => Rd.held0 hh (i := 6) rfl) (by simp [Value.oneCell']) (by omega) (by omega)) ?_
                  rintro _ _ w16_14 ⟨⟨U2, a2, rfl⟩, rfl⟩
                  refine ⟨_, List.Perm.refl _, ?_⟩
                  refine wx_f rfl (f_nilCheck rfl) (wx_f rfl (f_fieldAddr 2 rfl Tryz.underlying65 rfl rfl (by kernel_rfl)) ?_)
                  refine wx_ef ?_
                  refine ks_e0 rfl (e_storeN 0 (us := [_]) rfl rfl rfl rfl (by kernel_rfl) (by simp [Value.oneCell']) rfl rfl) ?_
                  rintro _ _ w16_17 rfl
                  refine ⟨_, pick_perm [1, 1, 1, 1] _ rfl, ?_⟩
                  refine wx_endp [(6, _), (8, _)] [4, 4, 1, 1] ⟨rfl, rfl, trivial⟩ rfl ?_
                  refine ⟨.slice U2 ((A ++ B).length + 1) a2, rfl, ?_⟩
                  rw [rts, encs_snoc, List.length_append (bs := [(x, xo, max xs (base - xo))])]
                  rfl
              · skip
                refine ks_e rfl (e_lit1 (cs := [_, _, _]) t42 rfl rfl rfl (by omega)) ?_
                rintro _ _ w16_13 ⟨b16_13, rfl, rfl⟩
                refine ⟨_, List.perm_middle.symm, ?_⟩
                refine wx_ef ?_
                refine ks_e rfl (e_call0 rfl Tryz.func40 (by kernel_rfl) (fun w hh => rplace_spec _ _ k w (Rd.held0 hh (i := 1) rfl) (by omega))) ?_
                rintro _ _ w16_10 ⟨_, rfl, rfl, y2, rfl, hy2⟩
                obtain rfl : y2 = (A.length : Nat) := rplE_uniq hA hy2
                refine ⟨_, List.Perm.refl _, ?_⟩
                refine wx_ef ?_
                refine ks_e rfl (e_call0 rfl Tryz.func39 (by kernel_rfl) (fun w hh => rwithout_spec _ _ A B (k, o, s) w (Rd.held0 hh (i := 1) rfl) (by omega))) ?_
                rintro _ _ w16_11 ⟨_, rfl, U1, a1, rfl, rfl⟩
                refine ⟨_, List.perm_append_comm_assoc _ _ _, ?_⟩
                refine wx_ef ?_
                refine ks_e rfl (e_appN 5 t42 rfl rfl rfl (fun w hh => Rd.held0 hh (i := 6) rfl) (by simp [Value.oneCell']) (by omega) (by omega)) ?_
                rintro _ _ w16_14 ⟨⟨U2, a2, rfl⟩, rfl⟩
                refine ⟨_, List.Perm.refl _, ?_⟩
                refine wx_f rfl (f_nilCheck rfl) (wx_f rfl (f_fieldAddr 2 rfl Tryz.underlying65 rfl rfl (by kernel_rfl)) ?_)
                refine wx_ef ?_
                refine ks_e0 rfl (e_storeN 0 (us := [_]) rfl rfl rfl rfl (by kernel_rfl) (by simp [Value.oneCell']) rfl rfl) ?_
                rintro _ _ w16_17 rfl
                refine ⟨_, pick_perm [1, 1, 1, 1] _ rfl, ?_⟩
                refine wx_endp [(6, _), (8, _)] [4, 4, 1, 1] ⟨rfl, rfl, trivial⟩ rfl ?_
                refine ⟨.slice U2 ((A ++ B).length + 1) a2, rfl, ?_⟩
                rw [rts, encs_snoc, List.length_append (bs := [(x, xo, max xs (base - xo))])]
                rfl
            rintro _ _ w16_ ⟨U, rfl, rfl⟩
            refine w_seq (w_reg (wl_f (f_loadsb (cs := [_, _, _]) 2 rfl Tryz.underlying46 rfl (by kernel_rfl) rfl rfl) ?_))
            refine wl_e0 (e_store3 (us := [_, _, _]) rfl rfl rfl (by kernel_rfl) (by simp [Value.oneCell']) rfl rfl) ?_
            rintro _ _ w17_1 rfl
            refine wl_f (f_assign rfl) (wl_end [(6, _), (7, _)] ⟨rfl, rfl, trivial⟩ ?_)
            refine w_bun (H := [_, _]) [_, _] ?_
            refine w_pick [2, 0] rfl ?_
            refine w_ret ?_
            refine ⟨_, _, fun a ha hh => results_mix Tryz.results27 (rm_cell (cell_agg 0 rfl Tryz.underlying46 rfl (by kernel_rfl) rfl) (rm_tmp rfl rm_nil)) a ha _ hh, List.sublist_cons_self .., ?_⟩
            exact ⟨_, _, rfl, ⟨_, rfl⟩, .inr ⟨o, s, A, B, hAt, hx, hxn, hex, rfl, rfl⟩⟩
end Go.Proofs.YtmagdjlcckgkpaaGreat

/- Saving's exchanging against the reference, plain. -/
namespace Go.Proofs.YtmagdjlcckgkpaaGreat
open Go.RowKit

section
variable {m : Nat} {E E' : List (Option En)} {l l' : Ord} {L L' : List En} {k x : ByteArray}
theorem enz_inj {k' : ByteArray} {o s : Nat} {e e' : Int} (h : (Value.tuple [enZ, .int .i64 e].toArray) = .tuple [enV k' o s, .int .i64 e'].toArray) : k' = ByteArray.empty ∧ e = e' := by
  simp [enZ, enV] at h
  exact ⟨h.1.1.symm, h.2⟩
theorem SRel.swap {base xo xs : Nat} {u u' : Value} (h : SRel E l L) (hf : SFact m E l) (hS : SwapG E base k x xo xs u E') (hL : SwapL E l base k xo xs u l') (hR : RsSwapG L base k x xo xs u' L') : u' = u ∧ SRel E' l' L' := by
  have hx1 : x ∈ eks L → ∃ i o s, Has E x i o s := fun hx => by
    obtain ⟨y, hy, rfl⟩ := List.mem_map.1 hx
    obtain ⟨i, hi⟩ := (h.mem hf).1 hy
    exact ⟨i, y.2.1, y.2.2, hi⟩
  rcases hS with ⟨e, rfl, rfl, hE⟩ | ⟨i, o, s, hi, hx, hno, hc, rfl, rfl⟩
  · have he0 : e ≠ 0 := by
      rcases hE with ⟨_, rfl⟩ | ⟨_, _, _, _, ⟨_, rfl⟩ | ⟨_, ⟨_, rfl⟩ | ⟨_, _, rfl⟩⟩⟩ <;> decide
    have hl' : l' = l := by
      rcases hL with ⟨_, _, hl⟩ | ⟨_, _, _, _, hu, _⟩
      · exact hl
      · exact absurd (enz_inj hu).2 he0
    subst hl'
    rcases hR with ⟨e', rfl, rfl, hE'⟩ | ⟨o', s', A, B, hAt, hx', hno', hc', _, _⟩
    · refine ⟨?_, h⟩
      suffices e' = e by rw [this]
      rcases hE with ⟨h1, rfl⟩ | ⟨i, o, s, hi, hE⟩
      · rcases hE' with ⟨_, rfl⟩ | ⟨o', s', A, B, hAt, _⟩
        · rfl
        · obtain ⟨j, hj⟩ := (h.mem hf (x := (k, o', s'))).1 (by rw [hAt.1]; simp)
          exact absurd hj (h1 j o' s')
      · rcases hE' with ⟨h1, _⟩ | ⟨o', s', A, B, hAt, hE'⟩
        · exact absurd hi ((h.hasnt hf).1 h1 i o s)
        · obtain ⟨rfl, rfl⟩ := h.at hf hi hAt.1
          rcases hE with ⟨h1, rfl⟩ | ⟨h1, ⟨⟨j, oj, sj, hj⟩, rfl⟩ | ⟨h2, h3, rfl⟩⟩ <;> rcases hE' with ⟨h4, rfl⟩ | ⟨h4, ⟨h5, rfl⟩ | ⟨h5, h6, rfl⟩⟩
          · rfl
          · exact absurd h1 h4
          · exact absurd h1 h4
          · exact absurd h4 h1
          · rfl
          · exact absurd hj ((h.hasnt hf).1 h5 j oj sj)
          · exact absurd h4 h1
          · obtain ⟨j, oj, sj, hj⟩ := hx1 h5
            exact absurd hj (h2 j oj sj)
          · rfl
    · exfalso
      rcases hE with ⟨h1, _⟩ | ⟨i, o, s, hi, hE⟩
      · obtain ⟨j, hj⟩ := (h.mem hf (x := (k, o', s'))).1 (by rw [hAt.1]; simp)
        exact absurd hj (h1 j o' s')
      · obtain ⟨rfl, rfl⟩ := h.at hf hi hAt.1
        rcases hE with ⟨h1, _⟩ | ⟨_, ⟨⟨j, oj, sj, hj⟩, _⟩ | ⟨_, h3, _⟩⟩
        · exact hx' h1
        · exact absurd hj ((h.hasnt hf).1 hno' j oj sj)
        · omega
  · have hk := hf.ne i _ hi
    have hl' : l' = ins (rem l i) i (xo + max xs (base - xo)) := by
      rcases hL with ⟨e', hu, _⟩ | ⟨i2, o2, s2, hi2, hu, hl⟩
      · exact absurd (enz_inj hu.symm).1 hk
      · have : i = i2 := hf.uq i2 i _ _ hi2 hi rfl
        subst this
        exact hl
    subst hl'
    rcases hR with ⟨e', rfl, rfl, hE'⟩ | ⟨o', s', A, B, hAt, hx', hno', hc', rfl, rfl⟩
    · exfalso
      rcases hE' with ⟨h1, _⟩ | ⟨o', s', A, B, hAt, hE'⟩
      · exact absurd hi ((h.hasnt hf).1 h1 i o s)
      · obtain ⟨rfl, rfl⟩ := h.at hf hi hAt.1
        rcases hE' with ⟨h1, _⟩ | ⟨_, ⟨h2, _⟩ | ⟨_, h3, _⟩⟩
        · exact hx h1
        · obtain ⟨j, oj, sj, hj⟩ := hx1 h2
          exact absurd hj (hno j oj sj)
        · omega
    · obtain ⟨rfl, rfl⟩ := h.at hf hi hAt.1
      refine ⟨rfl, ?_⟩
      have h1 := h.del hf hi hAt.1
      have hil : i < E.length := (List.getElem?_eq_some_iff.1 hi).1
      have h2 := h1.put (n := i) (x := (x, xo, max xs (base - xo))) (by rw [List.length_set]; exact hil) (fun p hp e => by
        obtain ⟨hp1, hp2⟩ := rem_ne hf.nd hp
        have := hf.rng p hp1
        exact hp2 (by omega)) (by
          rw [eks_app]
          have h3 := hno'
          rw [hAt.1, eks_app] at h3
          exact fun hm => (List.mem_append.1 hm).elim (fun hm => h3 (List.mem_append_left _ hm)) (fun hm => h3 (List.mem_append_right _ (by simp only [eks, List.map_cons, List.mem_cons] at hm ⊢; exact .inr hm))))
      rw [List.set_set] at h2
      exact h2
theorem SRel.rdy {base total : Nat} (h : SRel E l L) (hf : SFact m E l) (hB : BInv E base total) (hm : 1 ≤ m) (ht : total ≤ 9223372036854775808) : L.length ≤ m ∧ base ≤ total ∧ (∀ y ∈ L, y.2.1 + y.2.2 ≤ total) ∧ TOk E base total := by
  have hlen := hf.len
  have hT := hB.tok (by omega) ht
  have h1 := h.len
  have h2 := hf.cnt
  have h3 : (E.filterMap id).length ≤ E.length := List.length_filterMap_le ..
  refine ⟨by omega, hT.2.1, fun y hy => ?_, hT⟩
  obtain ⟨i, hi⟩ := (h.mem hf).1 hy
  exact hT.2.2 i y.1 y.2.1 y.2.2 hi
theorem SRel.new (m : Nat) : SRel (List.replicate m none) [] [] := ⟨rfl, List.nodup_nil⟩
end
end Go.Proofs.YtmagdjlcckgkpaaGreat

/- Tables by the method of Misra and Gries: the example of the chapter. -/
namespace Go.Proofs.YtmagdjlcckgkpaaGreat
open Go.RowKit

section
variable {m : Nat} {M M' : UM} {ded ded' total total' v : Nat} {k : ByteArray} {e : Int}
theorem FAddG.room (h : FAddG m M ded total k v e M' ded' total') (hk : k ≠ ByteArray.empty) (hv : v ≠ 0) (ht : total + v ≤ 9223372036854775808) (hno : mget M k = none) (hl : M.length < m) : e = 0 ∧ M' = (k, v) :: M ∧ ded' = ded ∧ total' = total + v := by
  have he := h.ok hk hv ht
  rcases h with ⟨he', _⟩ | ⟨_, _, _, _, h1, ⟨o, ho, _⟩ | ⟨_, _, h2, h3⟩ | ⟨_, hl', _⟩⟩
  · exact absurd he he'
  · rw [hno] at ho; cases ho
  · exact ⟨he, h2, h3, h1⟩
  · omega
theorem FAddG.full (h : FAddG m M ded total k v e M' ded' total') (hk : k ≠ ByteArray.empty) (hv : v ≠ 0) (ht : total + v ≤ 9223372036854775808) (hno : mget M k = none) (hl : M.length = m) {ks : List ByteArray} (hp : ks.Perm (keys M)) (hs : Srts ks) :
    e = 0 ∧ ded' = ded + dmin v M ks ∧ total' = total + v ∧ M' = if dmin v M ks < v then (k, v - dmin v M ks) :: ks.foldl (dstep (dmin v M ks)) M else ks.foldl (dstep (dmin v M ks)) M := by
  have he := h.ok hk hv ht
  rcases h with ⟨he', _⟩ | ⟨_, _, _, _, h1, ⟨o, ho, _⟩ | ⟨_, hl', _⟩ | ⟨_, _, ks', hp', hs', h2, h3⟩⟩
  · exact absurd he he'
  · rw [hno] at ho; cases ho
  · omega
  · obtain rfl := srts_unique hs' hs (hp'.trans hp.symm)
    exact ⟨he, h2, h1, h3⟩
end
theorem lit_e2 (k k' : ByteArray) (o s o' s' : Int) (w : World) : (Instr.buildSlice 42 2 [(0, .agg [.string k, .int .u64 o, .int .u64 s].toArray), (1, .agg [.string k', .int .u64 o', .int .u64 s'].toArray)].toArray).run Tryz.prog w =
    .ok (.slice (some ⟨w.heap.size, 0, .none⟩) 2 2) (w.alloc (.cells [.string k, .int .u64 o, .int .u64 s, .string k', .int .u64 o', .int .u64 s'].toArray 46)) := by kernel_rfl
end Go.Proofs.YtmagdjlcckgkpaaGreat

/- Tables by the method of Misra and Gries against the reference, plain. -/
namespace Go.Proofs.YtmagdjlcckgkpaaGreat
open Go.RowKit

def prs (l : List En) : UM := l.map fun x => (x.1, x.2.1)
theorem prs_app (A B : List En) : prs (A ++ B) = prs A ++ prs B := by simp [prs]
theorem keys_prs (l : List En) : keys (prs l) = eks l := by rw [keys, prs, List.map_map]; rfl
theorem prs_len (l : List En) : (prs l).length = l.length := by rw [prs, List.length_map]
theorem prs_mem {l : List En} {k : ByteArray} {o : Nat} : (k, o) ∈ prs l ↔ ∃ s, (k, o, s) ∈ l := by
  simp only [prs, List.mem_map]
  constructor
  · rintro ⟨⟨a, b, c⟩, h, e⟩
    injection e with e1 e2
    subst e1; subst e2
    exact ⟨c, h⟩
  · rintro ⟨s, h⟩
    exact ⟨(k, o, s), h, rfl⟩
/-- The reference's list has the table's keys and weights. -/
def FL (M : UM) (l : List En) : Prop := (prs l).Perm M ∧ (keys M).Nodup
section
variable {M M' : UM} {l l' : List En} {k : ByteArray} {o : Nat}
theorem mget_mem (h : mget M k = some o) : (k, o) ∈ M := by
  unfold mget at h
  obtain ⟨x, hx, rfl⟩ := Option.map_eq_some_iff.1 h
  have h1 := List.mem_of_find?_eq_some hx
  have h2 : x.1 = k := by simpa using List.find?_some hx
  rw [← h2]
  exact h1
theorem FL.nd (h : FL M l) : (eks l).Nodup := by
  rw [← keys_prs]
  exact (h.1.map Prod.fst).nodup_iff.2 h.2
theorem FL.ks (h : FL M l) : (eks l).Perm (keys M) := by
  rw [← keys_prs]
  exact h.1.map Prod.fst
theorem FL.len (h : FL M l) : l.length = M.length := by rw [← prs_len]; exact h.1.length_eq
theorem FL.nope (h : FL M l) : k ∉ eks l ↔ mget M k = none :=
  ⟨fun hk => mget_none fun h' => hk (h.ks.mem_iff.2 h'), fun hk h' => keys_none hk (h.ks.mem_iff.1 h')⟩
theorem FL.sm (h : FL M l) : mget M k = some o ↔ ∃ s, (k, o, s) ∈ l :=
  ⟨fun hk => prs_mem.1 (h.1.mem_iff.2 (mget_mem hk)), fun hk => mget_some h.2 (h.1.mem_iff.1 (prs_mem.2 hk))⟩
theorem FL.here {A B : List En} {s : Nat} (h : FL M l) (he : l = A ++ (k, o, s) :: B) : mget M k = some o := h.sm.2 ⟨s, by rw [he]; simp⟩
/-- Taking out. -/
theorem FL.del {A B : List En} {s : Nat} (h : FL M l) (he : l = A ++ (k, o, s) :: B) : (prs (A ++ B)).Perm (mdel M k) := by
  have h1 := mdel_perm h.1 k
  have h2 : (prs l).Perm ((k, o) :: prs (A ++ B)) := by
    rw [he, prs_app, prs_app]
    exact List.perm_middle
  have hn : k ∉ keys (prs (A ++ B)) := by
    have h3 := (h2.map Prod.fst).nodup_iff.1 (by rw [show (prs l).map Prod.fst = eks l from keys_prs l]; exact h.nd)
    exact (List.nodup_cons.1 h3).1
  have h4 := mdel_perm h2 k
  rw [mdel_self, mdel_none hn] at h4
  exact h4.symm.trans h1
theorem mdel_none' (h : mget M k = none) : mdel M k = M := mdel_none (keys_none h)
theorem FL.take (h : FL M l) (ht : RTake l k l') : FL (mdel M k) l' := by
  refine ⟨?_, mdel_nd h.2 k⟩
  rcases ht with ⟨hk, rfl⟩ | ⟨A, x, B, he, rfl, _, rfl⟩
  · rw [mdel_none' (h.nope.1 hk)]; exact h.1
  · exact h.del he
theorem FL.get {ded o' s' : Nat} {k' : ByteArray} {is : Bool} (h : FL M l) (hg : RGet 2 l ded k k' o' s' is) : fget M ded k = .tuple [enV k' o' s', .bool is].toArray := by
  rcases hg with ⟨rfl, hk, rfl, rfl, rfl⟩ | ⟨rfl, A, s, B, he, _, rfl, rfl⟩
  · rw [fget, h.nope.1 hk]; rfl
  · rw [fget, h.here he]
theorem FL.mn (h : FL M l) {ks : List ByteArray} (hp : ks.Perm (keys M)) (v : Nat) : dmin v M ks = rmin v l := by
  have h1 : dmin v M ks = (ks.map fun k => (mget M k).getD 0).foldl (fun a b => Min.min a b) v := by rw [dmin, List.foldl_map]
  have h2 : rmin v l = (l.map fun x => x.2.1).foldl (fun a b => Min.min a b) v := by rw [rmin, List.foldl_map]
  have h3 : (ks.map fun k => (mget M k).getD 0).Perm (l.map fun x => x.2.1) := by
    refine (hp.map _).trans ?_
    have h4 : ((eks l).map fun k => (mget M k).getD 0) = l.map fun x => x.2.1 := by
      rw [eks, List.map_map]
      refine List.map_congr_left fun x hx => ?_
      show (mget M x.1).getD 0 = x.2.1
      rw [h.sm.2 ⟨x.2.2, hx⟩]
      rfl
    rw [← h4]
    exact (h.ks.map _).symm
  rw [h1, h2]
  exact h3.foldl_eq' (fun a _ b _ c => by omega) v
theorem FL.redp (h : FL M l) {ks : List ByteArray} (hp : ks.Perm (keys M)) (d : Nat) (hd : ∀ x ∈ l, d ≤ x.2.1) : (prs (red d l)).Perm (ks.foldl (dstep d) M) ∧ (keys (ks.foldl (dstep d) M)).Nodup := by
  have hkn : ks.Nodup := hp.nodup_iff.2 h.2
  have hnd := dfold_nd (d := d) ks h.2
  refine ⟨?_, hnd⟩
  have hrn : (prs (red d l)).Nodup := by
    have h1 : (keys (prs (red d l))).Nodup := by
      rw [keys_prs]
      have h2 : (eks (red d l)).Sublist (eks l) := by
        have : ∀ L : List En, (eks (red d L)).Sublist (eks L) := by
          intro L
          induction L with
          | nil => exact List.Sublist.refl _
          | cons x L ih =>
            by_cases hx : x.2.1 - d = 0
            · rw [show red d (x :: L) = red d L by simp [Go.Proofs.YtmagdjlcckgkpaaGreat.red, red1, hx]]
              exact ih.cons _
            · rw [show red d (x :: L) = (x.1, x.2.1 - d, x.2.2) :: red d L by simp [Go.Proofs.YtmagdjlcckgkpaaGreat.red, red1, hx]]
              exact ih.cons_cons _
        exact this l
      exact h.nd.sublist h2
    exact List.Pairwise.of_map Prod.fst (fun a b hab e => hab (by rw [e])) h1
  have hfn : (ks.foldl (dstep d) M).Nodup := List.Pairwise.of_map Prod.fst (fun a b hab e => hab (by rw [e])) hnd
  refine (List.perm_ext_iff_of_nodup hrn hfn).2 fun ⟨q, o⟩ => ?_
  have hF : (q, o) ∈ ks.foldl (dstep d) M ↔ mget (ks.foldl (dstep d) M) q = some o := ⟨fun hm => mget_some hnd hm, mget_mem⟩
  rw [hF, prs_mem]
  by_cases hq : q ∈ ks
  · rw [dfold_get ks M hkn hq]
    obtain ⟨o1, ho1⟩ := isSome_in (hp.mem_iff.1 hq)
    obtain ⟨s1, hs1⟩ := h.sm.1 ho1
    have hd1 : d ≤ o1 := hd _ hs1
    rw [ho1, Option.getD_some]
    constructor
    · rintro ⟨s, hs⟩
      obtain ⟨x, hx, hxe⟩ := List.mem_filterMap.1 hs
      unfold red1 at hxe
      split at hxe
      · cases hxe
      · rename_i hne
        injection hxe with hxe
        injection hxe with e1 e2
        injection e2 with e2 e3
        have h5 : mget M q = some x.2.1 := h.sm.2 ⟨x.2.2, by rw [← e1]; exact hx⟩
        rw [ho1] at h5
        injection h5 with h5
        rw [if_neg (by omega)]
        congr 1
        omega
    · intro hm
      split at hm
      · cases hm
      · injection hm with hm
        refine ⟨s1, List.mem_filterMap.2 ⟨_, hs1, ?_⟩⟩
        show (if o1 - d = 0 then none else some (q, o1 - d, s1)) = _
        rw [if_neg (by omega), hm]
  · rw [dfold_ne ks M hq]
    have hno : mget M q = none := mget_none fun h' => hq (hp.mem_iff.2 h')
    rw [hno]
    constructor
    · rintro ⟨s, hs⟩
      obtain ⟨x, hx, hxe⟩ := List.mem_filterMap.1 hs
      unfold red1 at hxe
      split at hxe
      · cases hxe
      · injection hxe with hxe
        injection hxe with e1 e2
        have h5 : mget M q = some x.2.1 := h.sm.2 ⟨x.2.2, by rw [← e1]; exact hx⟩
        rw [hno] at h5
        cases h5
    · intro hm; cases hm
theorem FL.add {n ded ded' base' total total' sum' v : Nat} {e e' : Int} (h : FL M l) (hA : FAddG n M ded total k v e M' ded' total') (hR : RAddG n l ded total k v e' l' base' sum') :
    e' = e ∧ base' = ded' ∧ sum' = total' ∧ FL M' l' := by
  rcases hA with ⟨he, rfl, rfl, rfl, hE⟩ | ⟨rfl, hk, hv, ht, rfl, hA⟩
  · rcases hR with ⟨_, rfl, rfl, rfl, hE'⟩ | ⟨_, hk, hv, ht, _⟩
    · refine ⟨?_, rfl, rfl, h⟩
      rcases hE with ⟨h1, rfl⟩ | ⟨h1, h2, rfl⟩ | ⟨h1, h2, h3, rfl⟩ <;> rcases hE' with ⟨h4, rfl⟩ | ⟨h4, h5, rfl⟩ | ⟨h4, h5, h6, rfl⟩ <;> first | rfl | exact absurd h1 h4 | exact absurd h4 h1 | exact absurd h2 h5 | exact absurd h5 h2
    · rcases hE with ⟨h1, _⟩ | ⟨_, h2, _⟩ | ⟨_, _, h3, _⟩
      · exact absurd h1 hk
      · exact absurd h2 hv
      · omega
  · rcases hR with ⟨_, _, _, _, hE'⟩ | ⟨rfl, _, _, _, rfl, hR⟩
    · rcases hE' with ⟨h1, _⟩ | ⟨_, h2, _⟩ | ⟨_, _, h3, _⟩
      · exact absurd h1 hk
      · exact absurd h2 hv
      · omega
    · refine ⟨rfl, ?_⟩
      rcases hR with ⟨⟨A, o, s, B, he, hkA, rfl⟩, rfl⟩ | ⟨hk', hD⟩
      · have ho := h.here he
        rcases hA with ⟨o', ho', rfl, rfl⟩ | ⟨hno, _⟩ | ⟨hno, _⟩
        · rw [ho] at ho'
          injection ho' with ho'
          subst ho'
          refine ⟨rfl, rfl, ?_, over_nd h.2⟩
          rw [prs_app]
          exact (List.perm_append_singleton _ _).trans ((h.del he).cons _)
        · rw [ho] at hno; cases hno
        · rw [ho] at hno; cases hno
      · have hno := h.nope.1 hk'
        rcases hA with ⟨o', ho', _⟩ | ⟨_, hl, rfl, rfl⟩ | ⟨_, hl, ks, hp, hs, rfl, rfl⟩
        · rw [hno] at ho'; cases ho'
        · rcases hD with ⟨_, rfl, rfl⟩ | ⟨h2, _⟩
          · refine ⟨rfl, rfl, ?_, new_nd h.2 hno⟩
            rw [prs_app]
            exact (List.perm_append_singleton _ _).trans (h.1.cons _)
          · have := h.len; omega
        · rcases hD with ⟨h2, _⟩ | ⟨_, rfl, rfl⟩
          · have := h.len; omega
          · rw [h.mn hp]
            obtain ⟨h6, h7⟩ := h.redp hp (rmin v l) (fun x hx => rmin_mem v hx)
            refine ⟨rfl, rfl, ?_⟩
            have hno' : mget (ks.foldl (dstep (rmin v l)) M) k = none := (dfold_ne ks M (fun h' => keys_none hno (hp.mem_iff.1 h'))).trans hno
            rw [FL, prs_app]
            split
            · exact ⟨(List.perm_append_singleton _ _).trans (h6.cons _), new_nd h7 hno'⟩
            · rw [show prs [] = [] from rfl, List.append_nil]
              exact ⟨h6, h7⟩
theorem FL.swap {ded xo xs : Nat} {x : ByteArray} {u u' : Value} (h : FL M l) (hS : FSwapG M ded k x xo xs u M') (hR : RSwapG l ded k x xo xs u' l') :
    ∃ (k' : ByteArray) (o' s' : Nat) (e : Int), u = .tuple [enV k' o' s', .int .i64 e].toArray ∧ u' = u ∧ FL M' l' := by
  have hx1 : x ∈ eks l ↔ (mget M x).isSome = true := by
    constructor
    · intro hx
      obtain ⟨o, ho⟩ := isSome_in (h.ks.mem_iff.1 hx)
      rw [ho]; rfl
    · intro hx
      refine Classical.byContradiction fun hn => ?_
      rw [h.nope.1 hn] at hx
      cases hx
  rcases hS with ⟨e, rfl, rfl, hE⟩ | ⟨o, ho, hx, hno, hc, rfl, rfl⟩
  · rcases hR with ⟨e', rfl, rfl, hE'⟩ | ⟨o', s', A, B, hAt, hx', hno', hc', _, _⟩
    · refine ⟨ByteArray.empty, 0, 0, e, rfl, ?_, h⟩
      suffices e' = e by rw [this]
      rcases hE with ⟨h1, rfl⟩ | ⟨o, ho, hE⟩
      · rcases hE' with ⟨_, rfl⟩ | ⟨o', s', A, B, hAt, _⟩
        · rfl
        · rw [h.here hAt.1] at h1; cases h1
      · rcases hE' with ⟨h1, _⟩ | ⟨o', s', A, B, hAt, hE'⟩
        · rw [h.nope.1 h1] at ho; cases ho
        · rw [h.here hAt.1] at ho
          injection ho with ho
          subst ho
          rcases hE with ⟨h1, rfl⟩ | ⟨h1, ⟨h2, rfl⟩ | ⟨h2, h3, rfl⟩⟩ <;> rcases hE' with ⟨h4, rfl⟩ | ⟨h4, ⟨h5, rfl⟩ | ⟨h5, h6, rfl⟩⟩ <;> first | rfl | exact absurd h1 h4 | exact absurd h4 h1 | exact absurd (hx1.2 h2) h5 | exact absurd h5 (h.nope.2 h2)
    · exfalso
      rcases hE with ⟨h1, _⟩ | ⟨o, ho, hE⟩
      · rw [h.here hAt.1] at h1; cases h1
      · rw [h.here hAt.1] at ho
        injection ho with ho
        subst ho
        rcases hE with ⟨h1, _⟩ | ⟨_, ⟨h2, _⟩ | ⟨_, h3, _⟩⟩
        · exact hx' h1
        · exact hno' (hx1.2 h2)
        · exact hc' h3
  · rcases hR with ⟨e', rfl, rfl, hE'⟩ | ⟨o', s', A, B, hAt, hx', hno', hc', rfl, rfl⟩
    · exfalso
      rcases hE' with ⟨h1, _⟩ | ⟨o', s', A, B, hAt, hE'⟩
      · rw [h.nope.1 h1] at ho; cases ho
      · rw [h.here hAt.1] at ho
        injection ho with ho
        subst ho
        rcases hE' with ⟨h1, _⟩ | ⟨_, ⟨h2, _⟩ | ⟨_, h3, _⟩⟩
        · exact hx h1
        · exact h.nope.2 hno h2
        · exact hc h3
    · have ho2 := h.here hAt.1
      rw [ho] at ho2
      injection ho2 with ho2
      subst ho2
      refine ⟨k, o, ded, 0, rfl, rfl, ?_, ?_⟩
      · rw [prs_app]
        exact (List.perm_append_singleton _ _).trans ((h.del hAt.1).cons _)
      · refine new_nd (mdel_nd h.2 k) ?_
        by_cases hkx : k = x
        · subst hkx; exact mget_mdel_self
        · rw [mget_mdel_ne hkx]; exact hno
theorem tup_inj {k k' : ByteArray} {o s o' s' : Nat} {b b' : Bool} (h : (Value.tuple [enV k o s, .bool b].toArray) = .tuple [enV k' o' s', .bool b'].toArray) : k = k' ∧ o = o' ∧ s = s' ∧ b = b' := by
  simp [enV] at h
  obtain ⟨⟨h1, h2, h3⟩, h4⟩ := h
  exact ⟨h1, by omega, by omega, h4⟩
theorem tupe_inj {k k' : ByteArray} {o s o' s' : Nat} {b b' : Int} (h : (Value.tuple [enV k o s, .int .i64 b].toArray) = .tuple [enV k' o' s', .int .i64 b'].toArray) : k = k' ∧ o = o' ∧ s = s' ∧ b = b' := by
  simp [enV] at h
  obtain ⟨⟨h1, h2, h3⟩, h4⟩ := h
  exact ⟨h1, by omega, by omega, h4⟩
theorem FSwapG.form {ded xo xs : Nat} {x : ByteArray} {u : Value} (h : FSwapG M ded k x xo xs u M') : ∃ (k' : ByteArray) (o' s' : Nat) (e : Int), u = .tuple [enV k' o' s', .int .i64 e].toArray := by
  rcases h with ⟨e, rfl, _⟩ | ⟨o, _, _, _, _, rfl, _⟩
  · exact ⟨ByteArray.empty, 0, 0, e, rfl⟩
  · exact ⟨k, o, ded, 0, rfl⟩
theorem RSwapG.form {base xo xs : Nat} {x : ByteArray} {u : Value} (h : RSwapG l base k x xo xs u l') : ∃ (k' : ByteArray) (o' s' : Nat) (e : Int), u = .tuple [enV k' o' s', .int .i64 e].toArray := by
  rcases h with ⟨e, rfl, _⟩ | ⟨o, s, A, B, _, _, _, _, rfl, _⟩
  · exact ⟨ByteArray.empty, 0, 0, e, rfl⟩
  · exact ⟨k, o, base, 0, rfl⟩
theorem FL.ents {ded : Nat} {ks : List ByteArray} {es : List En} (h : FL M l) (hp : ks.Perm (keys M)) (hs : Srts ks) (hes : es.Perm (l.map (rent 2 ded))) (hse : Srts (eks es)) : ks.map (fent M ded) = es := by
  have h1 : (eks es).Perm ks := by
    have h2 : (eks es).Perm (eks (l.map (rent 2 ded))) := hes.map _
    rw [eks_rent] at h2
    exact h2.trans (h.ks.trans hp.symm)
  have h3 := srts_unique hse hs h1
  rw [← h3, eks, List.map_map]
  refine (List.map_congr_left fun x hx => ?_).trans (List.map_id es)
  obtain ⟨y, hy, rfl⟩ := List.mem_map.1 (hes.mem_iff.1 hx)
  show ((rent 2 ded y).1, (mget M (rent 2 ded y).1).getD 0, ded) = rent 2 ded y
  have h4 : mget M y.1 = some y.2.1 := h.sm.2 ⟨y.2.2, hy⟩
  show (y.1, (mget M y.1).getD 0, ded) = (y.1, y.2.1, ded)
  rw [h4]; rfl
end
end Go.Proofs.YtmagdjlcckgkpaaGreat

/- Tables of either mode: what is in them. -/
namespace Go.Proofs.YtmagdjlcckgkpaaGreat
open Go.RowKit

def TS.mode : TS → Nat
  | .sv _ _ _ _ => 1
  | .fr _ _ _ => 2
section
variable {m : Nat} {S S' : TS} {k x : ByteArray} {v : Nat} {e : Int}
theorem TS.new_mode {mode m : Nat} (h : mode = 1 ∨ mode = 2) : (TS.new mode m).mode = mode := by
  rcases h with rfl | rfl <;> rfl
theorem AddS.mode (h : AddS m k v e S S') : S'.mode = S.mode := by
  cases S <;> cases S' <;> first | rfl | cases h
theorem TakeS.mode {u : Value} (h : TakeS k u S S') : S'.mode = S.mode := by
  cases S <;> cases S' <;> first | rfl | cases h
theorem SwapS.mode {xo xs : Nat} {u : Value} (h : SwapS k x xo xs u S S') : S'.mode = S.mode := by
  cases S <;> cases S' <;> first | rfl | cases h
theorem TsI.top (h : TsI m S) : S.total ≤ 9223372036854775808 := by
  cases S with
  | sv E l base total => exact h.2.2.2.2
  | fr M ded total => exact h.2.top
theorem TsI.limit (h : TsI m S) (hm : m ≤ 64) : S.base ≤ tabL S.mode m S.total := by
  cases S with
  | sv E l base total =>
    obtain ⟨h1, h2, h3, h4, h5⟩ := h
    have h6 := h3.mbase
    rw [h2, Nat.mul_comm] at h6
    have e : tabL (TS.sv E l base total).mode m total = total / m := (if_neg (by omega)).trans (if_pos rfl)
    show base ≤ tabL (TS.sv E l base total).mode m total
    rw [e]
    exact (Nat.le_div_iff_mul_le (by omega)).2 h6
  | fr M ded total =>
    obtain ⟨h1, h2⟩ := h
    have h6 := h2.sum
    have e : tabL (TS.fr M ded total).mode m total = total / (m + 1) := (if_neg (by omega)).trans ((if_neg (show ¬ ((2 : Nat) : Int) = 1 by decide)).trans (if_pos rfl))
    show ded ≤ tabL (TS.fr M ded total).mode m total
    rw [e]
    exact (Nat.le_div_iff_mul_le (by omega)).2 (by rw [Nat.mul_comm]; omega)
theorem TsI.slack {k' : ByteArray} {o s : Nat} {is : Bool} (h : TsI m S) (hg : GetS k k' o s is S) (his : is = true) : s ≤ S.base := by
  cases S with
  | sv E l base total =>
    obtain ⟨i, hi, _⟩ := hg.1 his
    exact h.2.2.2.1 k i o s hi
  | fr M ded total =>
    obtain ⟨_, h1, _⟩ := hg.1 his
    exact Nat.le_of_eq h1
end

/-- What a table tracks. -/
def InS (x : En) : TS → Prop
  | .sv E _ _ _ => ∃ i : Nat, E[i]? = some (some x)
  | .fr M ded _ => mget M x.1 = some x.2.1 ∧ x.2.2 = ded
/-- Keys differ. -/
def UqS (m : Nat) : TS → Prop
  | .sv E l _ _ => SFact m E l
  | .fr M _ _ => (keys M).Nodup
theorem TbS.uq {t m : Nat} {S : TS} {r : Res} (h : TbS t m S r) : UqS m S := by
  cases S with
  | sv E l base total => obtain ⟨b, r', rfl, hr⟩ := h; exact hr.fact
  | fr M ded total =>
    obtain ⟨b, r', rfl, _, _, _, _, _, _, hX⟩ := h
    exact hX.nd
section
variable {m : Nat} {S S' : TS} {es es' : List En} {k : ByteArray}
theorem eks_fent (M : UM) (ded : Nat) (ks : List ByteArray) : eks (ks.map (fent M ded)) = ks := by
  rw [eks, List.map_map]
  exact (List.map_congr_left fun x _ => rfl).trans (List.map_id ks)
theorem EntS.srt (h : EntS es S) : Srts (eks es) := by
  cases S with
  | sv E l base total => exact h.2
  | fr M ded total =>
    obtain ⟨ks, _, hs, rfl⟩ := h
    rw [eks_fent]
    exact hs
theorem EntS.mem (h : EntS es S) {x : En} : x ∈ es ↔ InS x S := by
  cases S with
  | sv E l base total =>
    rw [h.1.mem_iff]
    simp only [List.mem_filterMap, id]
    constructor
    · rintro ⟨o, ho, rfl⟩
      exact List.mem_iff_getElem?.1 ho
    · rintro ⟨i, hi⟩
      exact ⟨some x, List.mem_of_getElem? hi, rfl⟩
  | fr M ded total =>
    obtain ⟨ks, hp, hs, rfl⟩ := h
    rw [List.mem_map]
    constructor
    · rintro ⟨q, hq, rfl⟩
      obtain ⟨o, ho⟩ := isSome_in (hp.mem_iff.1 hq)
      refine ⟨?_, rfl⟩
      show mget M q = some ((mget M q).getD 0)
      rw [ho]; rfl
    · rintro ⟨h1, h2⟩
      obtain ⟨q, o, s⟩ := x
      have h1 : mget M q = some o := h1
      have h2 : s = ded := h2
      subst h2
      refine ⟨q, hp.mem_iff.2 (mget_key h1), ?_⟩
      rw [fent, h1]; rfl
theorem TakeS.inS {v : Value} (hq : UqS m S) (h : TakeS k v S S') {x : En} : InS x S' ↔ InS x S ∧ x.1 ≠ k := by
  cases S with
  | sv E l base total =>
    cases S' with
    | fr _ _ _ => cases h
    | sv E' l' base' total' =>
      obtain ⟨_, _, ⟨i, o, s, hi, rfl, _⟩ | ⟨hn, rfl, _⟩⟩ := h
      · have hil : i < E.length := (List.getElem?_eq_some_iff.1 hi).1
        constructor
        · rintro ⟨j, hj⟩
          rw [List.getElem?_set] at hj
          split at hj
          · simp at hj
          · rename_i hne
            refine ⟨⟨j, hj⟩, fun e => hne ?_⟩
            exact (hq.uq i j _ _ hi hj e).symm
        · rintro ⟨⟨j, hj⟩, hne⟩
          refine ⟨j, ?_⟩
          rw [List.getElem?_set, if_neg]
          · exact hj
          · intro e
            subst e
            have hi' : E[i]? = some (some (k, o, s)) := hi
            rw [hi'] at hj
            injection hj with hj
            injection hj with hj
            exact hne (by rw [← hj])
      · refine ⟨fun ⟨j, hj⟩ => ⟨⟨j, hj⟩, fun e => ?_⟩, fun h => h.1⟩
        obtain ⟨q, o, s⟩ := x
        have e : q = k := e
        subst e
        exact hn j o s hj
  | fr M ded total =>
    cases S' with
    | sv _ _ _ _ => cases h
    | fr M' ded' total' =>
      obtain ⟨rfl, rfl, rfl⟩ := h
      constructor
      · rintro ⟨h1, h2⟩
        by_cases e : k = x.1
        · rw [e, mget_mdel_self] at h1; cases h1
        · rw [mget_mdel_ne e] at h1
          exact ⟨⟨h1, h2⟩, fun e' => e e'.symm⟩
      · rintro ⟨⟨h1, h2⟩, h3⟩
        exact ⟨by rw [mget_mdel_ne (fun e => h3 e.symm)]; exact h1, h2⟩
theorem nodup_of {es : List En} (h : Srts (eks es)) : es.Nodup := List.Pairwise.of_map Prod.fst (fun a b hab e => hab (by rw [e])) (h.imp fun h => nlt_ne h)
theorem taken_eq {v : Value} (hq : UqS m S) (hT : TakeS k v S S') (h : EntS es S) (h' : EntS es' S') : es' = es.filter fun x => !decide (x.1 = k) := by
  have hs : Srts (eks (es.filter fun x => !decide (x.1 = k))) := h.srt.sublist (List.filter_sublist.map _)
  refine ents_eq h'.srt hs ((List.perm_ext_iff_of_nodup (nodup_of h'.srt) (nodup_of hs)).2 fun x => ?_)
  rw [h'.mem, hT.inS hq, List.mem_filter, h.mem]
  simp
theorem get_in {k' : ByteArray} {o s : Nat} {is : Bool} (h : EntS es S) (hg : GetS k k' o s is S) : (is = true → k' = k ∧ (k, o, s) ∈ es) ∧ (is = false → k ∉ eks es) := by
  cases S with
  | sv E l base total =>
    refine ⟨fun hi => ?_, fun hi hk => ?_⟩
    · obtain ⟨i, h1, h2⟩ := hg.1 hi
      exact ⟨h2, h.mem.2 ⟨i, h1⟩⟩
    · obtain ⟨x, hx, rfl⟩ := List.mem_map.1 hk
      obtain ⟨i, hi'⟩ := h.mem.1 hx
      exact (hg.2 hi).1 i x.2.1 x.2.2 hi'
  | fr M ded total =>
    refine ⟨fun hi => ?_, fun hi hk => ?_⟩
    · obtain ⟨h1, h2, h3⟩ := hg.1 hi
      exact ⟨h3, h.mem.2 ⟨h1, h2⟩⟩
    · obtain ⟨x, hx, rfl⟩ := List.mem_map.1 hk
      have h1 := (h.mem.1 hx).1
      rw [(hg.2 hi).1] at h1
      cases h1
theorem TakeS.same {v : Value} (h : TakeS k v S S') : S'.base = S.base ∧ S'.total = S.total := by
  cases S <;> cases S' <;> first | exact ⟨h.1, h.2.1⟩ | cases h
theorem TbS.room {t m : Nat} {S : TS} {r : Res} {es : List En} (h : TbS t m S r) (he : EntS es S) : es.length ≤ m := by
  cases S with
  | sv E l base total =>
    obtain ⟨b, r', rfl, hr⟩ := h
    have h1 := hr.fact.len
    have h2 := he.1.length_eq
    have h3 : (E.filterMap id).length ≤ E.length := List.length_filterMap_le ..
    omega
  | fr M ded total =>
    obtain ⟨b, r', rfl, _, _, _, _, _, _, hX⟩ := h
    obtain ⟨ks, hp, _, rfl⟩ := he
    rw [List.length_map, hp.length_eq, keys, List.length_map]
    exact hX.len
end
end Go.Proofs.YtmagdjlcckgkpaaGreat

/- Tables of either mode against the reference. -/
namespace Go.Proofs.YtmagdjlcckgkpaaGreat
open Go.RowKit

def RelS (L : List En) : TS → Prop
  | .sv E l _ _ => SRel E l L
  | .fr M _ _ => FL M L
theorem RsSwapG.form {l l' : List En} {k x : ByteArray} {base xo xs : Nat} {u : Value} (h : RsSwapG l base k x xo xs u l') : ∃ (k' : ByteArray) (o' s' : Nat) (e : Int), u = .tuple [enV k' o' s', .int .i64 e].toArray := by
  rcases h with ⟨e, rfl, _⟩ | ⟨o, s, A, B, _, _, _, _, rfl, _⟩
  · exact ⟨ByteArray.empty, 0, 0, e, rfl⟩
  · exact ⟨k, o, s, 0, rfl⟩
theorem RelS.new {mode m : Nat} : RelS [] (TS.new mode m) := by
  unfold TS.new
  split
  · exact SRel.new m
  · exact ⟨List.Perm.refl _, List.nodup_nil⟩
section
variable {m q : Nat} {S : TS} {L : List En} {r : Res} {w : World} {k x : ByteArray}
theorem RelS.nd (h : RelS L S) : (eks L).Nodup := by
  cases S with
  | sv E l base total => exact h.2
  | fr M ded total => exact FL.nd h
theorem RelS.len (h : RelS L S) (hU : UqS m S) : L.length = S.len := by
  cases S with
  | sv E l base total => exact (SRel.len h).trans hU.cnt
  | fr M ded total => exact FL.len h
theorem TbS.len {t : Nat} (h : TbS t m S r) : S.len ≤ m := by
  cases S with
  | sv E l base total =>
    obtain ⟨b, r', rfl, hr⟩ := h
    have h1 := hr.fact.len
    have h3 : (E.filterMap id).length ≤ E.length := List.length_filterMap_le ..
    show (E.filterMap id).length ≤ m
    omega
  | fr M ded total =>
    obtain ⟨b, r', rfl, _, _, _, _, _, _, hX⟩ := h
    exact hX.len
theorem rtadd_spec (v : Nat) (h : RelS L S) (hU : UqS m S) (hJ : TsJ m S) (hl : S.len ≤ m) (hm : m ≤ 64) (hr : RtR q S.mode m L S.base S.total r) (hs : Holds w r.foot [r] w) :
    Spec Tryz.prog 28 [.pointer (some ⟨q, 0, .none⟩), .string k, .int .u64 (v : Int)] w r.foot fun u H => ∃ (e : Int) (L' : List En) (base' sum' : Nat) (r' : Res), u = .int .i64 e ∧ H = [r'] ∧ RtR q S.mode m L' base' sum' r' ∧ ∀ S' e', AddS m k v e' S S' → e = e' ∧ base' = S'.base ∧ sum' = S'.total ∧ RelS L' S' := by
  have hL := h.len hU
  cases S with
  | sv E l base total =>
    obtain ⟨h1, h2, h3, h5⟩ := hJ
    obtain ⟨h6, h7, h8, _⟩ := SRel.rdy h hU h3 h1 h5
    refine (rsadd_spec q m L base total r k v w hm h6 h1 h7 h5 h8 hr hs).mono ?_
    rintro u H ⟨e, L', base', sum', r', hu, hH, hr', hA⟩
    refine ⟨e, L', base', sum', r', hu, hH, hr', fun S' e' hS => ?_⟩
    cases S' with
    | sv E' l' b' t' => exact SRel.add h hU hS.1 hS.2 hA
    | fr _ _ _ => cases hS
  | fr M ded total =>
    obtain ⟨h1, h2⟩ := hJ
    refine (rfadd_spec q m L ded total r k v w hm (by rw [hL]; exact hl) h2.ded_le h2.top (fun y hy => h2.ok.2.2 y.1 y.2.1 ((FL.sm h).2 ⟨y.2.2, hy⟩)) hr hs).mono ?_
    rintro u H ⟨e, L', base', sum', r', hu, hH, hr', hA⟩
    refine ⟨e, L', base', sum', r', hu, hH, hr', fun S' e' hS => ?_⟩
    cases S' with
    | sv _ _ _ _ => cases hS
    | fr M' d' t' => exact FL.add h hS hA
theorem rtswap_spec (xo xs : Nat) (h : RelS L S) (hU : UqS m S) (hJ : TsJ m S) (hl : S.len ≤ m) (hm : m ≤ 64) (hxo : xo < 18446744073709551616) (hr : RtR q S.mode m L S.base S.total r) (hs : Holds w r.foot [r] w) :
    Spec Tryz.prog 27 [.pointer (some ⟨q, 0, .none⟩), .string k, .agg #[.string x, .int .u64 (xo : Int), .int .u64 (xs : Int)]] w r.foot fun v H => ∃ k' o' s' e L' r', v = .tuple [enV k' o' s', .int .i64 e].toArray ∧ H = [r'] ∧ RtR q S.mode m L' S.base S.total r' ∧ ∀ S' v', SwapS k x xo xs v' S S' → v = v' ∧ RelS L' S' := by
  have hL := h.len hU
  cases S with
  | sv E l base total =>
    obtain ⟨h1, h2, h3, h5⟩ := hJ
    obtain ⟨h6, h7, h8, _⟩ := SRel.rdy h hU h3 h1 h5
    refine (rsswap_spec q m L base total r k x xo xs w (by omega) hxo (by omega) (fun y hy => by have := h8 y hy; omega) hr hs).mono ?_
    rintro v H ⟨L', r', hH, hr', hW⟩
    obtain ⟨k', o', s', e, rfl⟩ := hW.form
    refine ⟨k', o', s', e, L', r', rfl, hH, hr', fun S' v' hS => ?_⟩
    cases S' with
    | sv E' l' b' t' => exact SRel.swap h hU hS.2.2.1 hS.2.2.2 hW
    | fr _ _ _ => cases hS
  | fr M ded total =>
    refine (rfswap_spec q m L ded total r k x xo xs w (by rw [hL]; exact Nat.le_trans hl hm) hr hs).mono ?_
    rintro v H ⟨L', r', hH, hr', hW⟩
    obtain ⟨k', o', s', e, rfl⟩ := hW.form
    refine ⟨k', o', s', e, L', r', rfl, hH, hr', fun S' v' hS => ?_⟩
    cases S' with
    | sv _ _ _ _ => cases hS
    | fr M' d' t' =>
      obtain ⟨_, _, _, _, h1, h2, h3⟩ := FL.swap h hS.2.2 hW
      exact ⟨h2, h3⟩
theorem getS_eq {k' k2 : ByteArray} {o s o2 s2 : Nat} {is is2 : Bool} (h : RelS L S) (hU : UqS m S) (hg : GetS k k' o s is S) (hR : RGet S.mode L S.base k k2 o2 s2 is2) : k' = k2 ∧ o = o2 ∧ s = s2 ∧ is = is2 := by
  cases S with
  | sv E l base total =>
    have hG : GetG E k (.tuple [enV k' o s, .bool is].toArray) := by
      cases is with
      | true => obtain ⟨i, hi, rfl⟩ := hg.1 rfl; exact .inl ⟨i, o, s, hi, rfl⟩
      | false => obtain ⟨hn, rfl, rfl, rfl⟩ := hg.2 rfl; exact .inr ⟨hn, rfl⟩
    exact tup_inj (SRel.get h hU hG hR)
  | fr M ded total =>
    have hG : fget M ded k = .tuple [enV k' o s, .bool is].toArray := by
      unfold fget
      cases is with
      | true => obtain ⟨hi, rfl, rfl⟩ := hg.1 rfl; rw [hi]
      | false => obtain ⟨hn, rfl, rfl, rfl⟩ := hg.2 rfl; rw [hn]; rfl
    exact tup_inj (hG.symm.trans (FL.get h hR))
theorem SwapS.same {S' : TS} {xo xs : Nat} {v : Value} (h : SwapS k x xo xs v S S') : S'.base = S.base ∧ S'.total = S.total := by
  cases S <;> cases S' <;> first | exact ⟨h.1, h.2.1⟩ | cases h
theorem RelS.take {S' : TS} {L' : List En} {v : Value} (h : RelS L S) (hU : UqS m S) (hT : TakeS k v S S') (hR : RTake L k L') : RelS L' S' := by
  cases S with
  | sv E l base total =>
    cases S' with
    | sv E' l' b' t' => exact SRel.take (base := base) (v := v) h hU hT.2.2 hR
    | fr _ _ _ => cases hT
  | fr M ded total =>
    cases S' with
    | sv _ _ _ _ => cases hT
    | fr M' d' t' =>
      obtain ⟨_, _, rfl⟩ := hT
      exact FL.take h hR
theorem entS_eq {es es' : List En} (h : RelS L S) (hU : UqS m S) (he : EntS es S) (h3 : es'.Perm (L.map (rent S.mode S.base))) (h4 : Srts (eks es')) : es = es' := by
  cases S with
  | sv E l base total => exact SRel.ents h hU hU.len he.1 he.2 h3 h4
  | fr M ded total =>
    obtain ⟨ks, hp, hs, rfl⟩ := he
    exact FL.ents h hp hs h3 h4
end
def addR (a b : Nat) : Nat := if a + b < 18446744073709551616 then a + b else 18446744073709551615
theorem r01add_spec (a b : Nat) (w : World) (hb : b < 18446744073709551616) : Spec Tryz.prog 55 [.int .u64 (a : Int), .int .u64 (b : Int)] w Nil fun r H => r = .tuple [.int .u64 (addR a b : Nat), .bool (decide (a + b < 18446744073709551616))].toArray ∧ H = [] := by
  refine enter (n := 13) Tryz.func55 rfl rfl [(0, _), (1, _)] rfl ⟨rfl, rfl, trivial⟩ (Holds.start _ _) ?_
  refine w_seq (w_reg (wl_f (f_assign rfl) (wl_f (f_assign rfl) (wl_end [(0, _), (1, _)] ⟨rfl, rfl, trivial⟩ ?_))))
  refine w_seq (w_seq (w_reg (wl_f (f_move rfl) (wl_f (f_move rfl) (wl_f (f_eqv (v' := .int .u64 ((18446744073709551615 - b : Nat) : Int)) (f_subu rfl rfl (by omega)) (by congr 1; omega)) ?_)))))
  refine wl_f (f_gtr rfl rfl) ?_
  refine wl_end [(0, _), (1, _), (9, _)] ⟨rfl, rfl, rfl, trivial⟩ ?_
  refine w_ifd rfl (fun hc1 => ?_) (fun hc1 => ?_)
  · skip
    have h : ¬ a + b < 18446744073709551616 := by
      have : ((18446744073709551615 - b : Nat) : Int) < (a : Int) := hc1
      omega
    refine w_seq (w_reg (wl_f (f_assign rfl) (wl_f (f_assign rfl) (wl_end [(4, _), (5, _)] ⟨rfl, rfl, trivial⟩ ?_))))
    refine w_ret ?_
    refine ⟨_, _, fun a ha hh => results_tmps Tryz.results55 rfl a ha _, List.Sublist.refl _, ?_⟩
    rw [addR, if_neg h, decide_eq_false h]; exact ⟨rfl, rfl⟩
  · skip
    have h : a + b < 18446744073709551616 := by
      have : ¬ ((18446744073709551615 - b : Nat) : Int) < (a : Int) := hc1
      omega
    refine w_skip ?_
    refine w_seq (w_reg (wl_f (f_move rfl) (wl_f (f_move rfl) (wl_f (f_eqv (v' := .int .u64 ((a + b : Nat) : Int)) (f_addu rfl rfl (by omega)) (by rw [Int.natCast_add])) ?_))))
    refine wl_f (f_assign rfl) (wl_f (f_assign rfl) (wl_end [(4, _), (5, _)] ⟨rfl, rfl, trivial⟩ ?_))
    refine w_ret ?_
    refine ⟨_, _, fun a ha hh => results_tmps Tryz.results55 rfl a ha _, List.Sublist.refl _, ?_⟩
    rw [addR, if_pos h, decide_eq_true h]; exact ⟨rfl, rfl⟩
theorem r01sum_spec (a b : Nat) (w : World) (hb : b < 18446744073709551616) : Spec Tryz.prog 51 [.int .u64 (a : Int), .int .u64 (b : Int)] w Nil fun r H => r = .int .u64 (addR a b : Nat) ∧ H = [] := by
  refine enter (n := 14) Tryz.func51 rfl rfl [(0, _), (1, _)] rfl ⟨rfl, rfl, trivial⟩ (Holds.start _ _) ?_
  refine w_seq (w_reg (wl_f (f_assign rfl) (wl_end [(0, _), (1, _)] ⟨rfl, rfl, trivial⟩ ?_)))
  refine w_seq (w_reg (wl_f (f_move rfl) (wl_f (f_move rfl) (wl_e (e_call0 rfl Tryz.func55 (by kernel_rfl) (fun w hh => r01add_spec a b w hb)) ?_))))
  rintro _ _ w1 ⟨_, rfl, rfl, rfl⟩
  refine wl_f (f_move rfl) (wl_f (f_extract rfl rfl) ?_)
  refine wl_f (f_extract rfl rfl) ?_
  refine wl_f (f_assign rfl) (wl_f (f_assign rfl) (wl_end [(5, _)] ⟨rfl, trivial⟩ ?_))
  refine w_seq (w_reg (wl_f (f_move rfl) (wl_f (f_assign rfl) (wl_end [(4, _)] ⟨rfl, trivial⟩ ?_))))
  refine w_ret ?_
  refine ⟨_, _, fun a ha hh => results_tmps Tryz.results51 rfl a ha _, List.Sublist.refl _, ?_⟩
  exact ⟨rfl, rfl⟩
set_option maxHeartbeats 1000000 in
theorem rof_spec (k : ByteArray) (o s : Nat) (w : World) (hb : s < 18446744073709551616) : Spec Tryz.prog 44 [enV k o s] w Nil fun r H => r = bnV o (addR o s) ∧ H = [] := by
  refine enter (n := 11) Tryz.func44 rfl rfl [(0, .agg #[.string k, .int .u64 (o : Int), .int .u64 (s : Int)])] rfl ⟨rfl, trivial⟩ (Holds.start _ _) ?_
  refine w_seq (w_reg (wl_e (e_box (cs := [_, _, _]) rfl rfl) ?_))
  rintro _ _ w0_0 ⟨b0_0, rfl, rfl⟩
  refine wl_e (e_allocs [.int .u64 0, .int .u64 0] (by kernel_rfl)) ?_
  rintro _ _ w0_1 ⟨b0_1, rfl, rfl⟩
  refine wl_end [(1, _), (2, _)] ⟨rfl, rfl, trivial⟩ ?_
  refine w_seq ?_
  refine w_drawk [(0, true), (1, true), (2, true), (3, true), (4, true), (5, true), (6, false), (7, true), (8, false)] ([(blk b0_0 [.string k, .int .u64 (o : Int), .int .u64 (s : Int)] 46, none)]) ([blk b0_1 [.int .u64 0, .int .u64 0] 36]) mixed (by kernel_rfl) (by kernel_rfl) rfl rfl (pick_perm [1] _ rfl) (fun w1_ => ?_)
  refine wk_f rfl (f_fieldAddr 1 rfl Tryz.underlying46 rfl rfl (by kernel_rfl)) ?_
  refine wk_f rfl (f_loadb 0 rfl Tryz.underlying33 rfl rfl rfl) ?_
  refine wk_f rfl (f_fieldAddr 1 rfl Tryz.underlying46 rfl rfl (by kernel_rfl)) ?_
  refine wk_f rfl (f_loadb 0 rfl Tryz.underlying33 rfl rfl rfl) ?_
  refine wk_f rfl (f_fieldAddr 2 rfl Tryz.underlying46 rfl rfl (by kernel_rfl)) ?_
  refine wk_f rfl (f_loadb 0 rfl Tryz.underlying33 rfl rfl rfl) ?_
  refine wk_e rfl (e_call0 rfl Tryz.func51 (by kernel_rfl) (fun w hh => r01sum_spec o s w hb)) ?_
  rintro _ _ w1 ⟨_, rfl, rfl, rfl⟩
  refine ⟨_, List.Perm.refl _, ?_⟩
  refine wk_f rfl (f_build rfl (fun w => build_bounds2 _ _ w)) ?_
  refine wk_e0 rfl (e_storeN 1 (us := [_, _]) rfl rfl rfl rfl (by kernel_rfl) (by simp [Value.oneCell']) rfl rfl) ?_
  rintro _ _ w1_8 rfl
  refine ⟨_, List.Perm.refl _, ?_⟩
  refine wk_endp [(2, _)] [1] ⟨rfl, trivial⟩ rfl ?_
  refine w_ret ?_
  refine ⟨_, _, fun a ha hh => results_cell 0 Tryz.results44 rfl a ha hh Tryz.underlying36 rfl (by kernel_rfl) rfl, List.nil_sublist _, ?_⟩
  exact ⟨rfl, rfl⟩
set_option maxHeartbeats 2000000 in
theorem rbounds_spec (q mode n : Nat) (l : List En) (base sum : Nat) (r : Res) (k : ByteArray) (w : World) (hl : l.length ≤ 8192) (hlt : ∀ k' o' s' is, RGet mode l base k k' o' s' is → o' + s' < 18446744073709551616) (hr : RtR q mode n l base sum r) (hs : Holds w r.foot [r] w) :
    Spec Tryz.prog 29 [.pointer (some ⟨q, 0, .none⟩), .string k] w r.foot fun v H => H = [r] ∧ ∃ k' o' s' is, v = .tuple [bnV (if is then o' else 0) (if is then o' + s' else base), .bool is].toArray ∧ RGet mode l base k k' o' s' is := by
  have hr0 := hr
  obtain ⟨LV, rfl⟩ := hr
  refine enter (n := 23) Tryz.func29 rfl rfl [(0, _), (1, _)] rfl ⟨rfl, rfl, trivial⟩ hs ?_
  refine w_seq (w_reg (wl_e (e_allocs [.int .u64 0, .int .u64 0] (by kernel_rfl)) ?_))
  rintro _ _ w0_0 ⟨b0_0, rfl, rfl⟩
  refine wl_f (f_assign rfl) (wl_end [(0, _), (1, _), (4, _)] ⟨rfl, rfl, rfl, trivial⟩ ?_)
  refine w_seq (w_reg (wl_f (f_move rfl) (wl_f (f_move rfl) (wl_e (e_call1 _ [_] rfl Tryz.func38 (by kernel_rfl) (pk1 1 rfl) (fun w hh hs' => rget_spec q mode n l base sum _ k w hl hr0 hs')) ?_))))
  rintro _ _ w1 ⟨_, rfl, rfl, k', o', s', is, rfl, hG⟩
  have hos := hlt k' o' s' is hG
  refine wl_f (f_move rfl) (wl_f (f_extract rfl rfl) ?_)
  refine wl_f (f_extract rfl rfl) ?_
  refine wl_e (e_allocs [.string ByteArray.empty, .int .u64 0, .int .u64 0] (by kernel_rfl)) ?_
  rintro _ _ w1_6 ⟨b1_6, rfl, rfl⟩
  refine wl_e0 (e_store0 (us := [_, _, _]) rfl rfl rfl (by kernel_rfl) (by simp [Value.oneCell']) rfl rfl) ?_
  rintro _ _ w1_7 rfl
  refine wl_f (f_assign rfl) (wl_end [(0, _), (4, _), (6, _), (7, _)] ⟨rfl, rfl, rfl, rfl, trivial⟩ ?_)
  refine w_seq (w_seq (w_reg (wl_f (f_move rfl) (wl_f (f_not rfl rfl) ?_))))
  refine wl_end [(0, _), (4, _), (6, _), (15, _)] ⟨rfl, rfl, rfl, rfl, trivial⟩ ?_
  refine w_ifb rfl (fun hc1 => ?_) (fun hc1 => ?_)
  · skip
    have his : is = false := by simpa using hc1
    subst his
    refine w_seq (w_reg (wl_f (f_move rfl) (wl_f (f_nilCheck rfl) (wl_f (f_fieldAddr 3 rfl Tryz.underlying65 rfl rfl (by kernel_rfl)) ?_))))
    refine wl_f (f_loadB 1 0 rfl rfl rfl Tryz.underlying33 rfl rfl) ?_
    refine wl_f (f_build rfl (fun w => build_bounds1 _ w)) ?_
    refine wl_e0 (e_store2 (us := [_, _]) rfl rfl rfl (by kernel_rfl) (by simp [Value.oneCell']) rfl rfl) ?_
    rintro _ _ w3_5 rfl
    refine wl_f (f_assign rfl) (wl_end [(4, _), (5, _)] ⟨rfl, rfl, trivial⟩ ?_)
    refine w_pick [2, 1] rfl ?_
    refine w_ret ?_
    refine ⟨_, _, fun a ha hh => results_mix Tryz.results29 (rm_cell (cell_agg 0 rfl Tryz.underlying36 rfl (by kernel_rfl) rfl) (rm_tmp rfl rm_nil)) a ha _ hh, List.sublist_cons_self .., ?_⟩
    exact ⟨rfl, k', o', s', false, rfl, hG⟩
  · skip
    have his : is = true := by simpa using hc1
    subst his
    refine w_skip ?_
    refine w_seq (w_reg (wl_f (f_loadsb (cs := [_, _, _]) 0 rfl Tryz.underlying46 rfl (by kernel_rfl) rfl rfl) ?_))
    refine wl_e (e_call0 rfl Tryz.func44 (by kernel_rfl) (fun w hh => rof_spec k' o' s' w (by omega))) ?_
    rintro _ _ w2 ⟨_, rfl, rfl, rfl⟩
    rw [addR, if_pos hos]
    refine wl_e0 (e_store2 (us := [_, _]) rfl rfl rfl (by kernel_rfl) (by simp [Value.oneCell']) rfl rfl) ?_
    rintro _ _ w4_2 rfl
    refine wl_f (f_assign rfl) (wl_end [(4, _), (5, _)] ⟨rfl, rfl, trivial⟩ ?_)
    refine w_pick [2, 1] rfl ?_
    refine w_ret ?_
    refine ⟨_, _, fun a ha hh => results_mix Tryz.results29 (rm_cell (cell_agg 0 rfl Tryz.underlying36 rfl (by kernel_rfl) rfl) (rm_tmp rfl rm_nil)) a ha _ hh, List.sublist_cons_self .., ?_⟩
    exact ⟨rfl, k', o', s', true, rfl, hG⟩
theorem eqBn (t t' u u' : Int) (w : World) : (Op.equalIn 10000 36 (.agg [.int .u64 t, .int .u64 u].toArray) (.agg [.int .u64 t', .int .u64 u'].toArray)).run Tryz.prog w = .ok (decide (t = t' ∧ u = u')) w := by
  have ht : Tryz.prog.underlying 36 = some (.struct (Tryz.prog.fieldsOf 36)) := by kernel_rfl
  rw [run_equalIn_struct w 9999 36 _ _ ht (by kernel_rfl)]
  simp only [Program.fieldsOf, Tryz.underlying36]
  have p1 : ∀ (t u : Int), (part 33 #[.int .u64 t, .int .u64 u] 0).run Tryz.prog w = .ok (.int .u64 t) w := fun t u => by kernel_rfl
  have p2 : ∀ (t u : Int), (part 33 #[.int .u64 t, .int .u64 u] 1).run Tryz.prog w = .ok (.int .u64 u) w := fun t u => by kernel_rfl
  have q1 : (Op.equalIn 9999 33 (.int .u64 t) (.int .u64 t')).run Tryz.prog w = .ok (t == t') w := run_equalIn_int w 9998 33 .u64 .u64 t t' Tryz.underlying33
  have q2 : (Op.equalIn 9999 33 (.int .u64 u) (.int .u64 u')).run Tryz.prog w = .ok (u == u') w := run_equalIn_int w 9998 33 .u64 .u64 u u' Tryz.underlying33
  by_cases h1 : t = t'
  · subst h1
    by_cases h2 : u = u'
    · subst h2; simp [Op.eqFields, p1, p2, q1, q2]
    · simp [Op.eqFields, p1, p2, q1, q2, h2]
  · simp [Op.eqFields, p1, p2, q1, q2, h1]
theorem neqBn (t t' u u' : Int) (w : World) : (binOp .neq 36 (.agg [.int .u64 t, .int .u64 u].toArray) (.agg [.int .u64 t', .int .u64 u'].toArray)).run Tryz.prog w = .ok (.bool (!decide (t = t' ∧ u = u'))) w := by
  rw [run_neq_struct, eqBn]; rfl
theorem eqlBn (t t' u u' : Int) (w : World) : (binOp .eql 36 (.agg [.int .u64 t, .int .u64 u].toArray) (.agg [.int .u64 t', .int .u64 u'].toArray)).run Tryz.prog w = .ok (.bool (decide (t = t' ∧ u = u'))) w := by
  rw [run_eql_struct, eqBn]; rfl
end Go.Proofs.YtmagdjlcckgkpaaGreat

/- The proof kit, sixth part: what comes in with a call of a law, and the step to the given row. -/
namespace Go.Proofs.YtmagdjlcckgkpaaGreat
open Go.RowKit Go.WideShapes Go.ChangeShapes

/-! ### Sizes -/
section
variable {H : Type} {P : Program}

theorem weightsAll_mem {e : TypeId} : ∀ {ds : List (DataW H)} {d : DataW H} {x : Nat}, d ∈ ds → x ∈ d.weights P e → x ∈ DataW.weightsAll P e ds
  | [], _, _, h, _ => by cases h
  | c :: ds, d, x, h, hx => by
    rw [DataW.weightsAll, List.mem_append]
    rcases List.mem_cons.1 h with rfl | h
    · exact .inl hx
    · exact .inr (weightsAll_mem h hx)

theorem weightsEach_mem : ∀ {ts : List TypeId} {ds : List (DataW H)} {i : Nat} {t : TypeId} {d : DataW H} {x : Nat}, ts[i]? = some t → ds[i]? = some d → x ∈ d.weights P t → x ∈ DataW.weightsEach P ts ds
  | [], _, _, _, _, _, h, _, _ => by simp at h
  | _ :: _, [], _, _, _, _, _, h, _ => by simp at h
  | s :: ts, c :: ds, 0, t, d, x, h1, h2, hx => by
    simp at h1 h2
    subst h1; subst h2
    rw [DataW.weightsEach, List.mem_append]
    exact .inl hx
  | s :: ts, c :: ds, i + 1, t, d, x, h1, h2, hx => by
    rw [DataW.weightsEach, List.mem_append]
    exact .inr (weightsEach_mem (by simpa using h1) (by simpa using h2) hx)
end

/-! ### What a value reads as -/
section
variable {H : Type} (enc : TypeId × Value → H) (P : Program) (w : World)

/-- The cells read as a value of the type, no part of which is too large. -/
def Arg (t : TypeId) (cs : List Value) : Prop :=
  ∃ (fuel : Nat) (d : DataW H) (ps : List MemPlace), DataW.trod enc P w 0 (fun _ => true) true fuel t cs = some (d, ps) ∧ ∀ x ∈ d.weights P t, x ≤ reachBytes

variable {enc} {P} {w}

theorem arg_int {t : TypeId} {k : IntKind} {cs : List Value} (ht : P.underlying t = some (.int k)) (h : Arg enc P w t cs) : ∃ n, cs = [.int k n] ∧ (Lit.int k n).wf = true := by
  obtain ⟨fuel, d, ps, h, _⟩ := h
  obtain ⟨n, h1, _, h3⟩ := DataW.trod_int ht h
  exact ⟨n, h1, h3⟩
theorem arg_bool {t : TypeId} {cs : List Value} (ht : P.underlying t = some .bool) (h : Arg enc P w t cs) : ∃ b, cs = [.bool b] := by
  obtain ⟨fuel, d, ps, h, _⟩ := h
  obtain ⟨n, h1, _⟩ := DataW.trod_bool ht h
  exact ⟨n, h1⟩
theorem arg_string {t : TypeId} {cs : List Value} (ht : P.underlying t = some .string) (h : Arg enc P w t cs) : ∃ s : ByteArray, cs = [.string s] ∧ s.size ≤ 140737488351232 := by
  obtain ⟨fuel, d, ps, h, hw⟩ := h
  obtain ⟨s, h1, h2, _⟩ := DataW.trod_string ht h
  simp only [Prod.mk.injEq] at h2
  refine ⟨s, h1, ?_⟩
  have := hw s.data.toList.length (by rw [h2.1]; simp [DataW.weights])
  simp only [reachBytes, Array.length_toList] at this
  exact this
theorem arg_struct {t : TypeId} {fs : Array Field} {cs : List Value} (ht : P.underlying t = some (.struct fs)) (h : Arg enc P w t cs) :
    cs.length = P.cellsOf t ∧ ∀ (i : Nat) (f : Field), fs[i]? = some f → Arg enc P w f.type ((cs.drop f.offset).take (P.cellsOf f.type)) := by
  obtain ⟨fuel, d, ps, h, hw⟩ := h
  obtain ⟨xs, n, _, hx, hl, hlen, hg⟩ := DataW.trod_struct ht h
  simp only [Prod.mk.injEq] at hx
  refine ⟨hl, fun i f hf => ?_⟩
  have hi : i < xs.length := by have := (Array.getElem?_eq_some_iff.1 hf).1; omega
  refine ⟨n, xs[i].1, xs[i].2, by rw [hg i f hf, List.getElem?_eq_getElem hi], fun x hx' => hw x ?_⟩
  rw [hx.1]
  simp only [DataW.weights, ht]
  exact weightsEach_mem (i := i) (t := f.type) (d := xs[i].1) (by simp [hf]) (by simp [hi]) hx'

/-- A slice: n elements of sz cells. -/
theorem arg_slice {t e : TypeId} {sz bytes : Nat} {cs : List Value} (ht : P.underlying t = some (.slice e)) (hsz : P.cellsOf e = sz) (hpos : 0 < sz) (hby : P.bytesOf e = bytes) (h : Arg enc P w t cs) :
    ∃ A n c xs, cs = [.slice A n c] ∧ Rd w Nil sz (.slice A n c) n xs ∧ n * bytes ≤ 140737488351232 ∧ n ≤ maxLen ∧ ∀ i, i < n → Arg enc P w e ((xs.drop (i * sz)).take sz) := by
  obtain ⟨fuel, d, ps, h, hw⟩ := h
  rcases Go.Deep.open_slice ht h with ⟨rfl, _⟩ | ⟨a, len, cap, m, n, D, Pl, rfl, _, hl, hm, hmm, hx, hi⟩
  · exact ⟨.none, 0, 0, [], rfl, Rd.nil _ _ _, by omega, by simp [maxLen], by simp⟩
  · simp only [if_true] at hmm
    subst hmm
    rw [hsz] at hi
    simp only [Prod.mk.injEq] at hx
    have hlw : ∀ x ∈ (DataW.slice ((List.range len).map D) ((List.range (m - len)).map fun j => D (len + j))).weights P t, x ≤ reachBytes := by rw [← hx.1]; exact hw
    simp only [DataW.weights, ht] at hlw
    have hb := hlw _ (List.mem_cons_self ..)
    simp only [List.length_map, List.length_range, reachBytes, hby] at hb
    have hcell : ∀ j, j < len * sz → ∃ u, w.cell? (a.add j) = some u := fun j hj => by
      obtain ⟨cs', h1, _⟩ := hi (j / sz) (Nat.lt_of_lt_of_le ((Nat.div_lt_iff_lt_mul hpos).2 hj) hl)
      obtain ⟨_, h2, h3⟩ := World.cells?_some h1
      have h4 := h3 (j % sz) (Nat.mod_lt _ hpos)
      rw [Go.Deep.add_add, Nat.mul_comm, Nat.div_add_mod] at h4
      rw [h4, List.getElem?_eq_getElem (by rw [h2]; exact Nat.mod_lt _ hpos)]
      exact ⟨_, rfl⟩
    refine ⟨some a, len, m, (List.range (len * sz)).map fun j => (w.cell? (a.add j)).getD undef, rfl, ⟨some a, m, rfl, by simp, hl, ?_⟩, ?_, by omega, fun i hil => ?_⟩
    · rcases Nat.eq_zero_or_pos len with h0 | h0
      · exact .inl h0
      · right
        obtain ⟨u0, hu0⟩ := hcell 0 (Nat.mul_pos h0 hpos)
        have hspot : a.spot = .none := by
          rw [show a.add 0 = a by unfold Addr.add; simp] at hu0
          unfold World.cell? at hu0
          split at hu0
          · split at hu0
            · cases hu0
            · rename_i hs; simpa using hs
          · cases hu0
        obtain ⟨ab, ao, ap⟩ := a
        simp only at hspot
        subst hspot
        refine ⟨ab, ao, rfl, id, ?_, fun j u hu => ?_⟩
        · rw [show (⟨ab, ao, .none⟩ : Addr).add 0 = ⟨ab, ao, .none⟩ by unfold Addr.add; simp] at hu0
          exact World.block_lt_of_cell? w _ hu0
        · have hj : j < len * sz := by
            have := (List.getElem?_eq_some_iff.1 hu).1
            simpa using this
          obtain ⟨u', hu'⟩ := hcell j hj
          simp [hj, hu'] at hu
          subst hu
          rwa [add_eq] at hu'
    · have : len * bytes ≤ (len + (m - len)) * bytes := Nat.mul_le_mul_right _ (by omega)
      omega
    · obtain ⟨cs', h1, h2⟩ := hi i (by omega)
      obtain ⟨_, hcl, hat⟩ := World.cells?_some h1
      have he : (((List.range (len * sz)).map fun j => (w.cell? (a.add j)).getD undef).drop (i * sz)).take sz = cs' := by
        apply List.ext_getElem?
        intro j
        rw [List.getElem?_take]
        by_cases hj : j < sz
        · rw [if_pos hj, List.getElem?_drop]
          have hlt : i * sz + j < len * sz := by
            have : (i + 1) * sz ≤ len * sz := Nat.mul_le_mul_right _ hil
            rw [Nat.add_mul] at this
            omega
          have h3 := hat j hj
          rw [Go.Deep.add_add] at h3
          rw [List.getElem?_eq_getElem (show j < cs'.length by omega)] at h3 ⊢
          simp [hlt, h3]
        · rw [if_neg hj, List.getElem?_eq_none (by omega)]
      rw [he]
      refine ⟨n, D i, Pl i, h2, fun x hx' => hlw x ?_⟩
      refine List.mem_cons_of_mem _ (List.mem_append_left _ (weightsAll_mem ?_ hx'))
      simp only [List.mem_map, List.mem_range]
      exact ⟨i, hil, rfl⟩

/-- .. of elements of one cell each. -/
theorem arg_slice1 {t e : TypeId} {bytes : Nat} {cs : List Value} (ht : P.underlying t = some (.slice e)) (hsz : P.cellsOf e = 1) (hby : P.bytesOf e = bytes) (h : Arg enc P w t cs) :
    ∃ A n c xs, cs = [.slice A n c] ∧ Rd w Nil 1 (.slice A n c) n xs ∧ xs.length = n ∧ n * bytes ≤ 140737488351232 ∧ n ≤ maxLen ∧ ∀ u ∈ xs, Arg enc P w e [u] := by
  obtain ⟨A, n, c, xs, h1, h2, h3, h4, h5⟩ := arg_slice ht hsz (by omega) hby h
  have hl : xs.length = n := by obtain ⟨_, _, _, h, _⟩ := h2; omega
  refine ⟨A, n, c, xs, h1, h2, hl, h3, h4, fun u hu => ?_⟩
  obtain ⟨i, hi, rfl⟩ := List.getElem_of_mem hu
  have := h5 i (by omega)
  rw [Nat.mul_one] at this
  rwa [List.drop_eq_getElem_cons hi] at this

/-- A slice of integers. -/
theorem arg_ints {t e : TypeId} {bytes : Nat} {k : IntKind} {cs : List Value} (ht : P.underlying t = some (.slice e)) (he : P.underlying e = some (.int k)) (hsz : P.cellsOf e = 1) (hby : P.bytesOf e = bytes) (h : Arg enc P w t cs) :
    ∃ A c zs, cs = [.slice A (zs : List Int).length c] ∧ Rd w Nil 1 (.slice A zs.length c) zs.length (zs.map (Value.int k)) ∧ zs.length * bytes ≤ 140737488351232 ∧ zs.length ≤ maxLen ∧ ∀ z ∈ zs, (Lit.int k z).wf = true := by
  obtain ⟨A, n, c, xs, h1, h2, h3, h4, h5, h6⟩ := arg_slice1 ht hsz hby h
  have : ∀ xs : List Value, (∀ u ∈ xs, Arg enc P w e [u]) → ∃ zs : List Int, xs = zs.map (Value.int k) ∧ ∀ z ∈ zs, (Lit.int k z).wf = true := by
    intro xs
    induction xs with
    | nil => exact fun _ => ⟨[], rfl, by simp⟩
    | cons u xs ih =>
      intro hu
      obtain ⟨z, hz, hwf⟩ := arg_int he (hu u (List.mem_cons_self ..))
      obtain ⟨zs, rfl, hzs⟩ := ih fun v hv => hu v (List.mem_cons_of_mem _ hv)
      simp at hz
      subst hz
      exact ⟨z :: zs, rfl, fun y hy => (List.mem_cons.1 hy).elim (fun e => e ▸ hwf) (hzs y)⟩
  obtain ⟨zs, rfl, hzs⟩ := this xs h6
  simp only [List.length_map] at h3
  subst h3
  exact ⟨A, c, zs, h1, h2, h4, h5, hzs⟩

/-- A slice of strings. -/
theorem arg_strings {t e : TypeId} {cs : List Value} (ht : P.underlying t = some (.slice e)) (he : P.underlying e = some .string) (hsz : P.cellsOf e = 1) (hby : P.bytesOf e = 16) (h : Arg enc P w t cs) :
    ∃ A c l, cs = [.slice A (l : List ByteArray).length c] ∧ Rd w Nil 1 (.slice A l.length c) l.length (l.map Value.string) ∧ l.length * 16 ≤ 140737488351232 ∧ ∀ s ∈ l, s.size ≤ 140737488351232 := by
  obtain ⟨A, n, c, xs, h1, h2, h3, h4, _, h6⟩ := arg_slice1 ht hsz hby h
  have : ∀ xs : List Value, (∀ u ∈ xs, Arg enc P w e [u]) → ∃ l : List ByteArray, xs = l.map Value.string ∧ ∀ s ∈ l, s.size ≤ 140737488351232 := by
    intro xs
    induction xs with
    | nil => exact fun _ => ⟨[], rfl, by simp⟩
    | cons u xs ih =>
      intro hu
      obtain ⟨z, hz, hwf⟩ := arg_string he (hu u (List.mem_cons_self ..))
      obtain ⟨zs, rfl, hzs⟩ := ih fun v hv => hu v (List.mem_cons_of_mem _ hv)
      simp at hz
      subst hz
      exact ⟨z :: zs, rfl, fun y hy => (List.mem_cons.1 hy).elim (fun e => e ▸ hwf) (hzs y)⟩
  obtain ⟨l, rfl, hl⟩ := this xs h6
  simp only [List.length_map] at h3
  subst h3
  exact ⟨A, c, l, h1, h2, h4, hl⟩

/-- A slice of structs of two strings each. -/
theorem arg_pairs {t e : TypeId} {f0 f1 : Field} {cs : List Value} (ht : P.underlying t = some (.slice e)) (he : P.underlying e = some (.struct #[f0, f1])) (hsz : P.cellsOf e = 2) (hby : P.bytesOf e = 32)
    (k0 : P.underlying f0.type = some .string) (k1 : P.underlying f1.type = some .string) (o0 : f0.offset = 0) (o1 : f1.offset = 1) (c0 : P.cellsOf f0.type = 1) (c1 : P.cellsOf f1.type = 1) (h : Arg enc P w t cs) :
    ∃ A c l, cs = [.slice A (l : List (ByteArray × ByteArray)).length c] ∧ Rd w Nil 2 (.slice A l.length c) l.length (l.flatMap fun t => [.string t.1, .string t.2]) ∧ l.length * 32 ≤ 140737488351232 ∧
      ∀ s ∈ l, s.1.size ≤ 140737488351232 ∧ s.2.size ≤ 140737488351232 := by
  obtain ⟨A, n, c, xs, h1, h2, h4, _, h6⟩ := arg_slice ht hsz (by omega) hby h
  have hxl : xs.length = n * 2 := by obtain ⟨_, _, _, h, _⟩ := h2; exact h
  have : ∀ (n : Nat) (xs : List Value), xs.length = n * 2 → (∀ i, i < n → Arg enc P w e ((xs.drop (i * 2)).take 2)) → ∃ l : List (ByteArray × ByteArray), l.length = n ∧ xs = (l.flatMap fun t => [.string t.1, .string t.2]) ∧
      ∀ s ∈ l, s.1.size ≤ 140737488351232 ∧ s.2.size ≤ 140737488351232 := by
    intro n
    induction n with
    | zero => exact fun xs hx _ => ⟨[], rfl, by simpa using hx, by simp⟩
    | succ n ih =>
      intro xs hx hu
      match xs, hx with
      | [_], hx => simp at hx; omega
      | a :: b :: xs, hx =>
        obtain ⟨l, hl, hxs, hs⟩ := ih xs (by simp at hx; omega) fun i hi => by
          have := hu (i + 1) (by omega)
          rwa [show (i + 1) * 2 = i * 2 + 1 + 1 by omega, List.drop_succ_cons, List.drop_succ_cons] at this
        have h0 := hu 0 (by omega)
        simp only [Nat.zero_mul, List.drop_zero, List.take_succ_cons, List.take_zero] at h0
        obtain ⟨_, hf⟩ := arg_struct he h0
        obtain ⟨s, e1, e2⟩ := arg_string k0 (by simpa [o0, c0] using hf 0 f0 rfl)
        obtain ⟨r, e3, e4⟩ := arg_string k1 (by simpa [o1, c1] using hf 1 f1 rfl)
        simp at e1 e3
        subst e1; subst e3
        exact ⟨(s, r) :: l, by simp [hl], by simp [hxs], fun y hy => (List.mem_cons.1 hy).elim (fun e => e ▸ ⟨e2, e4⟩) (hs y)⟩
  obtain ⟨l, hl, rfl, hs⟩ := this n xs hxl h6
  subst hl
  exact ⟨A, c, l, h1, h2, h4, hs⟩
end

/-! ### The parameters -/
section
variable {H : Type} (enc : TypeId × Value → H) (P : Program) (w : World)

def Par (t : TypeId) (v : Value) : Prop := (∃ b, Value.okWide P w .any b t v) ∧ Arg enc P w t v.cells.toList
def Pars : List TypeId → List Value → Prop
  | [], [] => True
  | t :: ts, v :: vs => Par enc P w t v ∧ Pars ts vs
  | _, _ => False

variable {enc} {P} {w}
theorem pars_cons {t : TypeId} {ts : List TypeId} {vs : List Value} (h : Pars enc P w (t :: ts) vs) : ∃ v vs', vs = v :: vs' ∧ Par enc P w t v ∧ Pars enc P w ts vs' := by
  cases vs with
  | nil => cases h
  | cons v vs => exact ⟨v, vs, rfl, h⟩
theorem pars_nil {vs : List Value} (h : Pars enc P w [] vs) : vs = [] := by
  cases vs with
  | nil => rfl
  | cons v vs => cases h

theorem par_cell {t : TypeId} {v u : Value} (h : Par enc P w t v) (hs : ∀ fs, P.underlying t ≠ some (.struct fs)) (ha : ∀ n e, P.underlying t ≠ some (.array n e)) (hu : v.cells.toList = [u]) : v = u := by
  obtain ⟨⟨b, hv⟩, _⟩ := h
  unfold Value.okWide at hv
  split at hv
  · exact absurd ‹_› (hs _)
  · exact absurd ‹_› (ha _ _)
  · cases v with
    | agg cs =>
      exfalso
      unfold Cell.okWide at hv
      split at hv <;> simp_all [Cell.ok]
    | _ => simpa [Value.cells] using hu
theorem par_int {t : TypeId} {k : IntKind} {v : Value} (ht : P.underlying t = some (.int k)) (h : Par enc P w t v) : ∃ n, v = .int k n ∧ (Lit.int k n).wf = true := by
  obtain ⟨n, h1, h2⟩ := arg_int ht h.2
  exact ⟨n, par_cell h (by simp [ht]) (by simp [ht]) h1, h2⟩
theorem par_bool {t : TypeId} {v : Value} (ht : P.underlying t = some .bool) (h : Par enc P w t v) : ∃ b, v = .bool b := by
  obtain ⟨n, h1⟩ := arg_bool ht h.2
  exact ⟨n, par_cell h (by simp [ht]) (by simp [ht]) h1⟩
theorem par_string {t : TypeId} {v : Value} (ht : P.underlying t = some .string) (h : Par enc P w t v) : ∃ s : ByteArray, v = .string s ∧ s.size ≤ 140737488351232 := by
  obtain ⟨n, h1, h2⟩ := arg_string ht h.2
  exact ⟨n, par_cell h (by simp [ht]) (by simp [ht]) h1, h2⟩
theorem par_slice {t e : TypeId} {v u : Value} (ht : P.underlying t = some (.slice e)) (h : Par enc P w t v) (hu : v.cells.toList = [u]) : v = u := par_cell h (by simp [ht]) (by simp [ht]) hu
theorem par_struct {t : TypeId} {fs : Array Field} {v : Value} (ht : P.underlying t = some (.struct fs)) (h : Par enc P w t v) : ∃ cs : Array Value, v = .agg cs ∧ cs.size = P.cellsOf t ∧
    ∀ (i : Nat) (f : Field), fs[i]? = some f → Arg enc P w f.type ((cs.toList.drop f.offset).take (P.cellsOf f.type)) := by
  obtain ⟨⟨b, hv⟩, ha⟩ := h
  obtain ⟨cs, rfl, hs⟩ := okWide_struct ht hv
  exact ⟨cs, rfl, hs, (arg_struct ht ha).2⟩
theorem par_ints {t e : TypeId} {bytes : Nat} {k : IntKind} {v : Value} (ht : P.underlying t = some (.slice e)) (he : P.underlying e = some (.int k)) (hsz : P.cellsOf e = 1) (hby : P.bytesOf e = bytes) (h : Par enc P w t v) :
    ∃ A c zs, v = .slice A (zs : List Int).length c ∧ Rd w Nil 1 (.slice A zs.length c) zs.length (zs.map (Value.int k)) ∧ zs.length * bytes ≤ 140737488351232 ∧ zs.length ≤ maxLen ∧ ∀ z ∈ zs, (Lit.int k z).wf = true := by
  obtain ⟨A, c, zs, h1, h2⟩ := arg_ints ht he hsz hby h.2
  exact ⟨A, c, zs, par_slice ht h h1, h2⟩
theorem par_strings {t e : TypeId} {v : Value} (ht : P.underlying t = some (.slice e)) (he : P.underlying e = some .string) (hsz : P.cellsOf e = 1) (hby : P.bytesOf e = 16) (h : Par enc P w t v) :
    ∃ A c l, v = .slice A (l : List ByteArray).length c ∧ Rd w Nil 1 (.slice A l.length c) l.length (l.map Value.string) ∧ l.length * 16 ≤ 140737488351232 ∧ ∀ s ∈ l, s.size ≤ 140737488351232 := by
  obtain ⟨A, c, zs, h1, h2⟩ := arg_strings ht he hsz hby h.2
  exact ⟨A, c, zs, par_slice ht h h1, h2⟩
theorem par_pairs {t e : TypeId} {f0 f1 : Field} {v : Value} (ht : P.underlying t = some (.slice e)) (he : P.underlying e = some (.struct #[f0, f1])) (hsz : P.cellsOf e = 2) (hby : P.bytesOf e = 32)
    (k0 : P.underlying f0.type = some .string) (k1 : P.underlying f1.type = some .string) (o0 : f0.offset = 0) (o1 : f1.offset = 1) (c0 : P.cellsOf f0.type = 1) (c1 : P.cellsOf f1.type = 1) (h : Par enc P w t v) :
    ∃ A c l, v = .slice A (l : List (ByteArray × ByteArray)).length c ∧ Rd w Nil 2 (.slice A l.length c) l.length (l.flatMap fun t => [.string t.1, .string t.2]) ∧ l.length * 32 ≤ 140737488351232 ∧
      ∀ s ∈ l, s.1.size ≤ 140737488351232 ∧ s.2.size ≤ 140737488351232 := by
  obtain ⟨A, c, zs, h1, h2⟩ := arg_pairs ht he hsz hby k0 k1 o0 o1 c0 c1 h.2
  exact ⟨A, c, zs, par_slice ht h h1, h2⟩

/-- Bytes, as numbers. -/
theorem u8_nats : ∀ zs : List Int, (∀ z ∈ zs, (Lit.int .u8 z).wf = true) → ∃ l : List Nat, zs = l.map Int.ofNat ∧ l.length = zs.length ∧ ∀ b ∈ l, b < 256
  | [], _ => ⟨[], rfl, rfl, by simp⟩
  | z :: zs, h => by
    obtain ⟨l, hl, hn, hb⟩ := u8_nats zs fun y hy => h y (List.mem_cons_of_mem _ hy)
    have hz := h z (List.mem_cons_self ..)
    simp [Lit.wf, IntKind.min, IntKind.max, IntKind.signed, IntKind.bits] at hz
    refine ⟨z.toNat :: l, ?_, by simp [hn], fun y hy => ?_⟩
    · rw [hl, List.map_cons]
      congr 1
      show z = (z.toNat : Int)
      omega
    · rcases List.mem_cons.1 hy with rfl | hy
      · omega
      · exact hb y hy
end

/-! ### The row -/
section
variable {H : Type} {enc : TypeId × Value → H}

theorem pars_of {P : Program} {w : World} : ∀ {ts : List TypeId} {vs : List Value} {ds : List (DataW H)} {ps : List MemPlace},
    (∀ (j : Nat) t v, ts[j]? = some t → vs[j]? = some v → ∃ b, Value.okWide P w .any b t v) → DataW.TrodAll enc P w 0 (fun _ => true) true ts vs ds ps → (∀ x ∈ DataW.weightsEach P ts ds, x ≤ reachBytes) → Pars enc P w ts vs
  | [], vs, ds, ps, _, h, _ => by
    obtain ⟨rfl, _, _⟩ := trodAll_nil h
    trivial
  | t :: ts, vs, ds, ps, hv, h, hx => by
    obtain ⟨v, vs', d, ds', p, q, rfl, rfl, rfl, ⟨fuel, h1⟩, h2⟩ := trodAll_cons h
    rw [DataW.weightsEach] at hx
    exact ⟨⟨hv 0 t v rfl rfl, fuel, d, p, h1, fun x h => hx x (List.mem_append_left _ h)⟩,
      pars_of (fun j t' v' e1 e2 => hv (j + 1) t' v' (by simpa using e1) (by simpa using e2)) h2 fun x h => hx x (List.mem_append_right _ h)⟩

theorem trodAll_stays {P : Program} (hl : laidOutB P = true) {W W' : World} (hb : Below W.heap.size W W') {sp : Nat → Bool} : ∀ {ts : List TypeId} {vs : List Value} {ds : List (DataW H)} {ps : List MemPlace},
    (∀ t ∈ ts, P.readableRec t = true ∧ t < P.types.size) → DataW.TrodAll enc P W 0 (fun _ => true) true ts vs ds ps → (∀ x ∈ ps, x.block < W.heap.size) → (∀ x ∈ ps, sp x.block = true) → DataW.TrodAll enc P W' 0 sp true ts vs ds ps
  | [], vs, ds, ps, _, h, _, _ => by
    obtain ⟨rfl, rfl, rfl⟩ := trodAll_nil h
    rfl
  | t :: ts, vs, ds, ps, hr, h, hlt, hs => by
    obtain ⟨v, vs', d, ds', p, q, rfl, rfl, rfl, h1, h2⟩ := trodAll_cons h
    obtain ⟨r1, r2⟩ := hr t (List.mem_cons_self ..)
    exact ⟨p, q, WideElems.Trod_stays hl r1 r2 h1 (fun x hx => hb.same (hlt x (List.mem_append_left _ hx))) (fun x hx => hs x (List.mem_append_left _ hx)),
      trodAll_stays hl hb (fun t ht => hr t (List.mem_cons_of_mem _ ht)) h2 (fun x hx => hlt x (List.mem_append_right _ hx)) (fun x hx => hs x (List.mem_append_right _ hx)), rfl⟩

/-- A law that is true whatever comes in, and leaves what came in as it was. -/
theorem lifted_true {C : Checked} {os : Os} {n : FuncId} {fn : Func} {s : ChangeSpec} {fresh handsOn : Bool} {tb : TypeId}
    (own : ownKnob C.prog.godebug = none) (started : os.Started) (noInit : C.prog.inits.idxOf? n = none) (hfn : C.prog.funcs[n]? = some fn)
    (witness : ∃ (w : World) (tape : Tape) (i : Input), w.os = os ∧ (w.forCall tape i).Shaped C.prog ∧ i.vars = [] ∧ Input.okWide C.prog (w.forCall tape i) .any w.heap.size n i ∧
      s.pre6 enc C.prog fn [] false (w.forCall tape i).memory i.args ∧ ({} : Assume).holds C.prog (lone (Frame.enter C.prog n i.args .normal) [] (w.forCall tape i)))
    (hvars : s.vars = []) (hs : ∀ ds : List (DataW H), ds.length = fn.params.size → s.fn H ds = { results := [.lit (.bool true)], args := ds })
    (hl : laidOutB C.prog = true) (hr : fn.params.toList.all (fun t => C.prog.readableRec t && decide (t < C.prog.types.size)) = true) (hres : fn.resultTypes = #[tb]) (htb : C.prog.underlying tb = some .bool)
    (h : ∀ (W : World) (args : List Value), Pars enc C.prog W fn.params.toList args → Spec C.prog n args W Nil fun r _ => r = .bool true) :
    ReturnsInHanded {} C os n .any (s.pre6 enc C.prog fn [] false) (s.post enc C.prog fn false fresh handsOn false) := by
  refine returnsInHanded_of_change_sized own started noInit hfn witness ?_
  intro W base args ds gs before hval hW _ hsz _
  have hW' := hW
  obtain ⟨p, q, hA, hV, rfl, hfz, hnd⟩ := hW
  rw [hvars] at hV
  obtain ⟨rfl, rfl⟩ := trodVars_none hV
  have hvt : s.plain.varTypes C.prog = [] := by simp [DataSpec.varTypes, ChangeSpec.plain, hvars]
  rw [hvt, List.append_nil, List.append_nil] at hsz
  have hP : Pars enc C.prog W fn.params.toList args.toList :=
    pars_of (fun j t v e1 e2 => ⟨base, hval j t v (by simpa using e1) (by simpa using e2)⟩) hA fun x hx => by
      have := List.all_eq_true.1 hsz x hx
      simpa using this
  have hlt : ∀ x ∈ p, x.block < W.heap.size := fun x hx => hW'.lt x (List.mem_append_left _ hx)
  have hspec := h W args.toList hP
  unfold Spec at hspec
  rw [show args.toList.toArray = args from rfl] at hspec
  refine hspec.mono fun e W' ⟨v, H1, he, hh, hv⟩ => ⟨v, he, ?_⟩
  subst hv
  have hb : Below W.heap.size W W' := hh.1.below
  have hdl : ds.length = fn.params.size := by
    have : ∀ {ts : List TypeId} {vs : List Value} {ds : List (DataW H)} {ps : List MemPlace}, DataW.TrodAll enc C.prog W 0 (fun _ => true) true ts vs ds ps → ds.length = ts.length := by
      intro ts
      induction ts with
      | nil => intro vs ds ps h; obtain ⟨_, rfl, _⟩ := trodAll_nil h; rfl
      | cons t ts ih => intro vs ds ps h; obtain ⟨_, _, _, _, _, _, _, rfl, _, _, h2⟩ := trodAll_cons h; simp [ih h2]
    simpa using this hA
  have hrl : (Value.bool true).resultList fn.resultTypes.size = [.bool true] := by rw [hres]; rfl
  refine ⟨ds, [], p ++ [], [], p, [], hW', ?_, ?_, ?_, ?_, fun h => by cases h⟩
  · rw [List.append_nil, hs ds hdl, hrl, hres]
    exact trodAll_mk1 (shut_bool htb true)
  · rw [List.append_nil, hs ds hdl]
    exact trodAll_stays hl hb (fun t ht => by simpa only [Bool.and_eq_true, decide_eq_true_eq] using List.all_eq_true.1 hr t ht) hA hlt fun x hx => by simpa using hlt x hx
  · rw [List.append_nil, hs ds hdl, hvars]
    rfl
  · exact World.keptBut_mono (fun x hx => ⟨hx, .inr (.inl (by simpa using hx))⟩) (hb.frame (· ∈ p ++ []))
end
end Go.Proofs.YtmagdjlcckgkpaaGreat

/- What comes in, by type: numbers, lists of numbers, texts. -/
namespace Go.Proofs.YtmagdjlcckgkpaaGreat
open Go.RowKit

theorem Tryz.own : ownKnob Tryz.prog.godebug = none := by kernel_rfl
theorem Tryz.laidOut : laidOutB Tryz.prog = true := by kernel_rfl

section
variable {H : Type} {enc : TypeId × Value → H} {w : World}

theorem i64_wf {n : Int} (h : (Lit.int .i64 n).wf = true) : -9223372036854775808 ≤ n ∧ n ≤ 9223372036854775807 := by
  simpa [Lit.wf, IntKind.min, IntKind.max, IntKind.signed, IntKind.bits] using h
theorem u64_wf {n : Int} (h : (Lit.int .u64 n).wf = true) : ∃ k : Nat, n = k ∧ k < 18446744073709551616 := by
  simp [Lit.wf, IntKind.min, IntKind.max, IntKind.signed, IntKind.bits] at h
  exact ⟨n.toNat, by omega, by omega⟩
theorem u32_wf {n : Int} (h : (Lit.int .u32 n).wf = true) : ∃ k : Nat, n = k ∧ k < 4294967296 := by
  simp [Lit.wf, IntKind.min, IntKind.max, IntKind.signed, IntKind.bits] at h
  exact ⟨n.toNat, by omega, by omega⟩
theorem u16_wf {n : Int} (h : (Lit.int .u16 n).wf = true) : ∃ k : Nat, n = k ∧ k < 65536 := by
  simp [Lit.wf, IntKind.min, IntKind.max, IntKind.signed, IntKind.bits] at h
  exact ⟨n.toNat, by omega, by omega⟩
theorem u8_wf {n : Int} (h : (Lit.int .u8 n).wf = true) : ∃ k : Nat, n = k ∧ k < 256 := by
  simp [Lit.wf, IntKind.min, IntKind.max, IntKind.signed, IntKind.bits] at h
  exact ⟨n.toNat, by omega, by omega⟩
theorem par_iv {v : Value} (h : Par enc Tryz.prog w 22 v) : ∃ A c zs, v = .slice A (zs : List Int).length c ∧ Rd w Nil 1 (.slice A zs.length c) zs.length (iv zs) ∧ zs.length * 8 ≤ 140737488351232 ∧ ∀ z ∈ zs, -9223372036854775808 ≤ z ∧ z ≤ 9223372036854775807 := by
  obtain ⟨A, c, zs, h1, h2, h3, _, h4⟩ := par_ints (bytes := 8) Tryz.underlying22 Tryz.underlying3 (by kernel_rfl) (by kernel_rfl) h
  exact ⟨A, c, zs, h1, h2, h3, fun z hz => i64_wf (h4 z hz)⟩
theorem par_sv {v : Value} (h : Par enc Tryz.prog w 30 v) : ∃ A c l, v = .slice A (l : List ByteArray).length c ∧ Rd w Nil 1 (.slice A l.length c) l.length (sv l) ∧ l.length * 16 ≤ 140737488351232 ∧ ∀ s ∈ l, s.size ≤ 140737488351232 :=
  par_strings Tryz.underlying30 Tryz.underlying9 (by kernel_rfl) (by kernel_rfl) h
theorem par_uv {v : Value} (h : Par enc Tryz.prog w 95 v) : ∃ A c T, v = .slice A (T : List Nat).length c ∧ Rd w Nil 1 (.slice A T.length c) T.length (u64v T) ∧ T.length * 8 ≤ 140737488351232 := by
  obtain ⟨A, c, zs, h1, h2, h3, _, h4⟩ := par_ints (bytes := 8) Tryz.underlying95 Tryz.underlying33 (by kernel_rfl) (by kernel_rfl) h
  have e : (zs.map Int.toNat).map (fun c : Nat => Value.int .u64 (c : Int)) = zs.map (Value.int .u64) := by
    rw [List.map_map]
    refine List.map_congr_left fun z hz => ?_
    obtain ⟨k, rfl, _⟩ := u64_wf (h4 z hz)
    rfl
  have hl : (zs.map Int.toNat).length = zs.length := List.length_map ..
  refine ⟨A, c, zs.map Int.toNat, by rw [hl]; exact h1, ?_, by rw [hl]; exact h3⟩
  rw [hl, u64v, e]
  exact h2
end
end Go.Proofs.YtmagdjlcckgkpaaGreat
