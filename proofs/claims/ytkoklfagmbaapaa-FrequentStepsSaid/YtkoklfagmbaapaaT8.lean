/- The reference's tables by the method of Misra and Gries: adding. -/
import Derived.Test.YtkoklfagmbaapaaT7
namespace Go.Proofs.Ytkoklfagmbaapaa
open Go.RowKit

def RErr (sum : Nat) (k : ByteArray) (v : Nat) (e : Int) : Prop := k = ByteArray.empty ∧ e = 3 ∨ k ≠ ByteArray.empty ∧ v = 0 ∧ e = 1 ∨ k ≠ ByteArray.empty ∧ v ≠ 0 ∧ 9223372036854775808 < sum + v ∧ e = 12
/-- What adding to a tracked key leaves. -/
def RMore (l : List En) (k : ByteArray) (v : Nat) (l' : List En) : Prop := ∃ A o s B, l = A ++ (k, o, s) :: B ∧ k ∉ eks A ∧ l' = A ++ B ++ [(k, o + v, s)]
def RAddG (n : Nat) (l : List En) (base sum : Nat) (k : ByteArray) (v : Nat) (e : Int) (l' : List En) (base' sum' : Nat) : Prop :=
  (e ≠ 0 ∧ l' = l ∧ base' = base ∧ sum' = sum ∧ RErr sum k v e) ∨
  (e = 0 ∧ k ≠ ByteArray.empty ∧ v ≠ 0 ∧ sum + v ≤ 9223372036854775808 ∧ sum' = sum + v ∧ ((RMore l k v l' ∧ base' = base) ∨ (k ∉ eks l ∧ RDed n l base k v l' base')))
set_option maxHeartbeats 8000000 in
theorem rfadd_spec (q n : Nat) (l : List En) (base sum : Nat) (r : Res) (k : ByteArray) (v : Nat) (w : World) (hn : n ≤ 64) (hl : l.length ≤ n) (hb : base ≤ sum) (hsm : sum ≤ 9223372036854775808) (hls : ∀ x ∈ l, x.2.1 ≤ sum) (hr : RtR q 2 n l base sum r) (hs : Holds w r.foot [r] w) :
    Spec Try.prog 22 [.pointer (some ⟨q, 0, .none⟩), .string k, .int .u64 (v : Int)] w r.foot fun u H => ∃ (e : Int) (l' : List En) (base' sum' : Nat) (r' : Res), u = .int .i64 e ∧ H = [r'] ∧ RtR q 2 n l' base' sum' r' ∧ RAddG n l base sum k v e l' base' sum' := by
  obtain ⟨LV, rfl⟩ := hr
  refine enter (n := 162) Try.func22 rfl rfl [(0, _), (1, _), (2, _)] rfl ⟨rfl, rfl, rfl, trivial⟩ hs ?_
  refine w_with fun hh => ?_
  obtain ⟨L, cl, rfl⟩ := rowB_slice hh (i := 0) (j := 1) rfl rfl
  clear hh
  refine w_unb (H := []) (rts q 2 n l (.slice L l.length cl) base sum) ?_
  refine w_seq ?_
  refine w_reg ?_
  refine wl_f (f_assign rfl) ?_
  refine wl_end [(0, _), (1, _), (2, _)] ⟨rfl, rfl, rfl, trivial⟩ ?_
  refine w_seq ?_
  refine w_seq ?_
  refine w_reg ?_
  refine wl_f (f_move rfl) ?_
  refine wl_f (f_eqls rfl rfl) ?_
  refine wl_end [(0, _), (1, _), (2, _), (13, _)] ⟨rfl, rfl, rfl, rfl, trivial⟩ ?_
  refine w_ifd rfl (fun hc1 => ?_) (fun hc1 => ?_)
  · skip
    have hk : k = ByteArray.empty := hc1
    refine w_seq ?_
    refine w_reg ?_
    refine wl_f (f_assign rfl) ?_
    refine wl_end [(6, _)] ⟨rfl, trivial⟩ ?_
    refine w_bun (H := []) [_, _] ?_
    refine w_ret ?_
    refine ⟨_, _, fun a ha hh => results_tmps Try.results22 rfl a ha _, List.Sublist.refl _, ?_⟩
    exact ⟨3, l, base, sum, _, rfl, rfl, ⟨_, rfl⟩, .inl ⟨by decide, rfl, rfl, rfl, .inl ⟨hk, rfl⟩⟩⟩
  · skip
    have hk : k ≠ ByteArray.empty := hc1
    refine w_skip ?_
    refine w_seq ?_
    refine w_seq ?_
    refine w_reg ?_
    refine wl_f (f_move rfl) ?_
    refine wl_f (f_eql rfl rfl) ?_
    refine wl_end [(0, _), (1, _), (2, _), (15, _)] ⟨rfl, rfl, rfl, rfl, trivial⟩ ?_
    refine w_ifd rfl (fun hc2 => ?_) (fun hc2 => ?_)
    · skip
      have hv0 : v = 0 := by
        have : (v : Int) = 0 := hc2
        omega
      refine w_seq ?_
      refine w_reg ?_
      refine wl_f (f_assign rfl) ?_
      refine wl_end [(6, _)] ⟨rfl, trivial⟩ ?_
      refine w_bun (H := []) [_, _] ?_
      refine w_ret ?_
      refine ⟨_, _, fun a ha hh => results_tmps Try.results22 rfl a ha _, List.Sublist.refl _, ?_⟩
      exact ⟨1, l, base, sum, _, rfl, rfl, ⟨_, rfl⟩, .inl ⟨by decide, rfl, rfl, rfl, .inr (.inl ⟨hk, hv0, rfl⟩)⟩⟩
    · skip
      have hv0 : v ≠ 0 := fun h => hc2 (by rw [h]; rfl)
      refine w_skip ?_
      refine w_seq ?_
      refine w_seq ?_
      refine w_reg ?_
      refine wl_f (f_move rfl) ?_
      refine wl_f (f_nilCheck rfl) ?_
      refine wl_f (f_fieldAddr 4 rfl Try.underlying58 rfl rfl (by kernel_rfl)) ?_
      (first | refine wl_f (f_loadb 0 rfl Try.underlying33 rfl rfl rfl) ?_ | refine wl_f (f_loadb 1 rfl Try.underlying33 rfl rfl rfl) ?_ | refine wl_f (f_loadb 2 rfl Try.underlying33 rfl rfl rfl) ?_ | refine wl_f (f_loadb 3 rfl Try.underlying33 rfl rfl rfl) ?_ | refine wl_f (f_loadb 4 rfl Try.underlying33 rfl rfl rfl) ?_ | refine wl_f (f_loadb 5 rfl Try.underlying33 rfl rfl rfl) ?_ | refine wl_f (f_loadb 6 rfl Try.underlying33 rfl rfl rfl) ?_)
      refine wl_f (f_move rfl) ?_
      refine wl_e (e_call0 rfl Try.func40 (by kernel_rfl) (fun w hh => rfits_spec sum v w)) ?_
      rintro _ _ w1 ⟨_, rfl, rfl, rfl⟩
      refine wl_f (f_not rfl rfl) ?_
      refine wl_end [(0, _), (1, _), (2, _), (22, _)] ⟨rfl, rfl, rfl, rfl, trivial⟩ ?_
      refine w_ifb rfl (fun hc3 => ?_) (fun hc3 => ?_)
      · skip
        have hov : 9223372036854775808 < sum + v := by
          refine Classical.byContradiction fun h => ?_
          rw [decide_eq_true (show sum + v ≤ 9223372036854775808 by omega)] at hc3
          cases hc3
        refine w_seq ?_
        refine w_reg ?_
        refine wl_f (f_assign rfl) ?_
        refine wl_end [(6, _)] ⟨rfl, trivial⟩ ?_
        refine w_bun (H := []) [_, _] ?_
        refine w_ret ?_
        refine ⟨_, _, fun a ha hh => results_tmps Try.results22 rfl a ha _, List.Sublist.refl _, ?_⟩
        exact ⟨12, l, base, sum, _, rfl, rfl, ⟨_, rfl⟩, .inl ⟨by decide, rfl, rfl, rfl, .inr (.inr ⟨hk, hv0, hov, rfl⟩)⟩⟩
      · skip
        have hov : sum + v ≤ 9223372036854775808 := by
          refine Classical.byContradiction fun h => hc3 ?_
          rw [decide_eq_false h]
          rfl
        refine w_skip ?_
        refine w_seq ?_
        refine w_reg ?_
        refine wl_f (f_move rfl) ?_
        refine wl_f (f_nilCheck rfl) ?_
        refine wl_f (f_fieldAddr 4 rfl Try.underlying58 rfl rfl (by kernel_rfl)) ?_
        (first | refine wl_f (f_loadb 0 rfl Try.underlying33 rfl rfl rfl) ?_ | refine wl_f (f_loadb 1 rfl Try.underlying33 rfl rfl rfl) ?_ | refine wl_f (f_loadb 2 rfl Try.underlying33 rfl rfl rfl) ?_ | refine wl_f (f_loadb 3 rfl Try.underlying33 rfl rfl rfl) ?_ | refine wl_f (f_loadb 4 rfl Try.underlying33 rfl rfl rfl) ?_ | refine wl_f (f_loadb 5 rfl Try.underlying33 rfl rfl rfl) ?_ | refine wl_f (f_loadb 6 rfl Try.underlying33 rfl rfl rfl) ?_)
        refine wl_f (f_move rfl) ?_
        refine wl_f (f_eqv (v' := .int .u64 ((sum + v : Nat) : Int)) (f_addu rfl rfl (by omega)) (by rw [Int.natCast_add])) ?_
        refine wl_f (f_nilCheck rfl) ?_
        refine wl_f (f_fieldAddr 4 rfl Try.underlying58 rfl rfl (by kernel_rfl)) ?_
        (first | refine wl_e0 (e_store0 (us := [_]) rfl rfl rfl (by kernel_rfl) (by simp [Value.oneCell']) rfl rfl) ?_ | refine wl_e0 (e_store1 (us := [_]) rfl rfl rfl (by kernel_rfl) (by simp [Value.oneCell']) rfl rfl) ?_ | refine wl_e0 (e_store2 (us := [_]) rfl rfl rfl (by kernel_rfl) (by simp [Value.oneCell']) rfl rfl) ?_ | refine wl_e0 (e_store3 (us := [_]) rfl rfl rfl (by kernel_rfl) (by simp [Value.oneCell']) rfl rfl) ?_)
        rintro _ _ w7_8 rfl
        refine wl_end [(0, _), (1, _), (2, _)] ⟨rfl, rfl, rfl, trivial⟩ ?_
        refine w_seq ?_
        refine w_seq ?_
        refine w_reg ?_
        refine wl_f (f_move rfl) ?_
        refine wl_f (f_nilCheck rfl) ?_
        refine wl_f (f_fieldAddr 2 rfl Try.underlying58 rfl rfl (by kernel_rfl)) ?_
        (first | refine wl_f (f_loadb 0 rfl Try.underlying40 rfl rfl rfl) ?_ | refine wl_f (f_loadb 1 rfl Try.underlying40 rfl rfl rfl) ?_ | refine wl_f (f_loadb 2 rfl Try.underlying40 rfl rfl rfl) ?_ | refine wl_f (f_loadb 3 rfl Try.underlying40 rfl rfl rfl) ?_ | refine wl_f (f_loadb 4 rfl Try.underlying40 rfl rfl rfl) ?_ | refine wl_f (f_loadb 5 rfl Try.underlying40 rfl rfl rfl) ?_ | refine wl_f (f_loadb 6 rfl Try.underlying40 rfl rfl rfl) ?_)
        refine wl_f (f_move rfl) ?_
        refine wl_e (e_call0 rfl Try.func41 (by kernel_rfl) (fun w hh => rplace_spec _ l k w (Rd.held0 hh (i := 1) rfl) (by omega))) ?_
        rintro _ _ w2 ⟨_, rfl, rfl, y, rfl, hy⟩
        refine wl_f (f_assign rfl) ?_
        refine wl_end [(0, _), (1, _), (2, _), (7, _)] ⟨rfl, rfl, rfl, rfl, trivial⟩ ?_
        refine w_seq ?_
        refine w_reg ?_
        refine wl_f (f_move rfl) ?_
        refine wl_f (f_geq rfl rfl) ?_
        refine wl_end [(0, _), (1, _), (2, _), (7, _), (38, _)] ⟨rfl, rfl, rfl, rfl, rfl, trivial⟩ ?_
        refine w_ifd rfl (fun hc4 => ?_) (fun hc4 => ?_)
        · skip
          obtain ⟨A, o, s, B, rfl, hA, rfl⟩ := rplE_at hy (by omega)
          have hAl : A.length < (A ++ (k, o, s) :: B).length := by simp
          have hAB : (A ++ B).length ≤ 64 := by
            simp only [List.length_append, List.length_cons] at hl ⊢
            omega
          have hos := hls (k, o, s) (by simp)
          have hos' : o ≤ sum := hos
          refine w_with fun hh => ?_
          obtain ⟨g, cap, e⟩ := row_form hh (i := 1) rfl (by omega)
          injection e with e1 _ e3
          subst e1; subst e3
          clear hh
          refine w_seq ?_
          refine w_reg ?_
          refine wl_f (f_move rfl) ?_
          refine wl_f (f_nilCheck rfl) ?_
          refine wl_f (f_fieldAddr 2 rfl Try.underlying58 rfl rfl (by kernel_rfl)) ?_
          (first | refine wl_f (f_loadb 0 rfl Try.underlying40 rfl rfl rfl) ?_ | refine wl_f (f_loadb 1 rfl Try.underlying40 rfl rfl rfl) ?_ | refine wl_f (f_loadb 2 rfl Try.underlying40 rfl rfl rfl) ?_ | refine wl_f (f_loadb 3 rfl Try.underlying40 rfl rfl rfl) ?_ | refine wl_f (f_loadb 4 rfl Try.underlying40 rfl rfl rfl) ?_ | refine wl_f (f_loadb 5 rfl Try.underlying40 rfl rfl rfl) ?_ | refine wl_f (f_loadb 6 rfl Try.underlying40 rfl rfl rfl) ?_)
          refine wl_f (f_move rfl) ?_
          refine wl_f (f_indexAddr 3 (i := A.length) rfl rfl Try.underlying40 (by kernel_rfl) rfl hAl) ?_
          refine wl_f (f_loadsr (cs := ecell (some (k, o, s))) 1 rfl Try.underlying36 rfl (by kernel_rfl) rfl (encs_get encs_loc)) ?_
          refine wl_e (e_allocs [.string ByteArray.empty, .int .u64 0, .int .u64 0] (by kernel_rfl)) ?_
          rintro _ _ w10_7 ⟨b10_7, rfl, rfl⟩
          (first | refine wl_e0 (e_store0 (us := [_, _, _]) rfl rfl rfl (by kernel_rfl) (by simp [Value.oneCell']) rfl rfl) ?_ | refine wl_e0 (e_store1 (us := [_, _, _]) rfl rfl rfl (by kernel_rfl) (by simp [Value.oneCell']) rfl rfl) ?_ | refine wl_e0 (e_store2 (us := [_, _, _]) rfl rfl rfl (by kernel_rfl) (by simp [Value.oneCell']) rfl rfl) ?_ | refine wl_e0 (e_store3 (us := [_, _, _]) rfl rfl rfl (by kernel_rfl) (by simp [Value.oneCell']) rfl rfl) ?_)
          rintro _ _ w10_8 rfl
          refine wl_end [(0, _), (2, _), (7, _), (8, _)] ⟨rfl, rfl, rfl, rfl, trivial⟩ ?_
          refine w_seq ?_
          refine w_reg ?_
          refine wl_f (f_fieldAddr 1 rfl Try.underlying36 rfl rfl (by kernel_rfl)) ?_
          (first | refine wl_f (f_loadb 0 rfl Try.underlying33 rfl rfl rfl) ?_ | refine wl_f (f_loadb 1 rfl Try.underlying33 rfl rfl rfl) ?_ | refine wl_f (f_loadb 2 rfl Try.underlying33 rfl rfl rfl) ?_ | refine wl_f (f_loadb 3 rfl Try.underlying33 rfl rfl rfl) ?_ | refine wl_f (f_loadb 4 rfl Try.underlying33 rfl rfl rfl) ?_ | refine wl_f (f_loadb 5 rfl Try.underlying33 rfl rfl rfl) ?_ | refine wl_f (f_loadb 6 rfl Try.underlying33 rfl rfl rfl) ?_)
          refine wl_f (f_move rfl) ?_
          refine wl_f (f_eqv (v' := .int .u64 ((o + v : Nat) : Int)) (f_addu rfl rfl (by omega)) (by rw [Int.natCast_add])) ?_
          refine wl_f (f_fieldAddr 1 rfl Try.underlying36 rfl rfl (by kernel_rfl)) ?_
          (first | refine wl_e0 (e_store0 (us := [_]) rfl rfl rfl (by kernel_rfl) (by simp [Value.oneCell']) rfl rfl) ?_ | refine wl_e0 (e_store1 (us := [_]) rfl rfl rfl (by kernel_rfl) (by simp [Value.oneCell']) rfl rfl) ?_ | refine wl_e0 (e_store2 (us := [_]) rfl rfl rfl (by kernel_rfl) (by simp [Value.oneCell']) rfl rfl) ?_ | refine wl_e0 (e_store3 (us := [_]) rfl rfl rfl (by kernel_rfl) (by simp [Value.oneCell']) rfl rfl) ?_)
          rintro _ _ w11_5 rfl
          refine wl_end [(0, _), (7, _), (8, _)] ⟨rfl, rfl, rfl, trivial⟩ ?_
          refine w_seq ?_
          refine w_post (fun m H w' => ∃ (U : Value), m = [] ∧ H = rts q 2 n (A ++ B ++ [(k, o + v, s)]) U base (sum + v)) ?_ ?_
          · skip
            refine w_drawx (.fl 0 (.fl 1 (.fl 2 (.fl 3 (.fl 4 (.fl 5 (.fl 7 (.two 6 (.ef 8 (.ef 9 (.fl 10 (.fl 11 (.ef 12 .done))))) 8 (.ef 6 (.ef 9 (.fl 10 (.fl 11 (.ef 12 .done))))))))))))) ([(_, none), (_, some 12), (_, none)]) ([]) mixed (by kernel_rfl) (by kernel_rfl) rfl rfl (List.Perm.refl _) (fun w12_ => ?_)
            refine wx_f rfl (f_move rfl) ?_
            refine wx_f rfl (f_move rfl) ?_
            refine wx_f rfl (f_nilCheck rfl) ?_
            refine wx_f rfl (f_fieldAddr 2 rfl Try.underlying58 rfl rfl (by kernel_rfl)) ?_
            (first | refine wx_f rfl (f_loadb 0 rfl Try.underlying40 rfl rfl rfl) ?_ | refine wx_f rfl (f_loadb 1 rfl Try.underlying40 rfl rfl rfl) ?_ | refine wx_f rfl (f_loadb 2 rfl Try.underlying40 rfl rfl rfl) ?_ | refine wx_f rfl (f_loadb 3 rfl Try.underlying40 rfl rfl rfl) ?_ | refine wx_f rfl (f_loadb 4 rfl Try.underlying40 rfl rfl rfl) ?_ | refine wx_f rfl (f_loadb 5 rfl Try.underlying40 rfl rfl rfl) ?_ | refine wx_f rfl (f_loadb 6 rfl Try.underlying40 rfl rfl rfl) ?_)
            refine wx_f rfl (f_move rfl) ?_
            (first | refine wx_f rfl (f_loadsb (cs := [_, _, _]) 0 rfl Try.underlying36 rfl (by kernel_rfl) rfl rfl) ?_ | refine wx_f rfl (f_loadsb (cs := [_, _, _]) 1 rfl Try.underlying36 rfl (by kernel_rfl) rfl rfl) ?_ | refine wx_f rfl (f_loadsb (cs := [_, _, _]) 2 rfl Try.underlying36 rfl (by kernel_rfl) rfl rfl) ?_ | refine wx_f rfl (f_loadsb (cs := [_, _, _]) 3 rfl Try.underlying36 rfl (by kernel_rfl) rfl rfl) ?_ | refine wx_f rfl (f_loadsb (cs := [_, _, _]) 4 rfl Try.underlying36 rfl (by kernel_rfl) rfl rfl) ?_ | refine wx_f rfl (f_loadsb (cs := [_, _, _]) 5 rfl Try.underlying36 rfl (by kernel_rfl) rfl rfl) ?_ | refine wx_f rfl (f_loadsb (cs := [_, _, _]) 6 rfl Try.underlying36 rfl (by kernel_rfl) rfl rfl) ?_)
            refine wx_two ?_ ?_
            · skip
              refine ks_e rfl (e_call0 rfl Try.func42 (by kernel_rfl) (fun w hh => rwithout_spec _ _ A B (k, o, s) w (Rd.held0 hh (i := 2) rfl) (by omega))) ?_
              rintro _ _ w12_6 ⟨_, rfl, U1, a1, rfl, rfl⟩
              refine ⟨_, List.perm_append_comm_assoc _ _ _, ?_⟩
              refine wx_ef ?_
              refine ks_e rfl (e_lit1 (cs := [_, _, _]) t40 rfl rfl rfl (by omega)) ?_
              rintro _ _ w12_8 ⟨b12_8, rfl, rfl⟩
              refine ⟨_, List.perm_middle.symm, ?_⟩
              refine wx_ef ?_
              refine ks_e rfl (e_appN 4 t40 rfl rfl rfl (fun w hh => Rd.held0 hh (i := 3) rfl) (by simp [Value.oneCell']) (by omega) (by omega)) ?_
              rintro _ _ w12_9 ⟨⟨U2, a2, rfl⟩, rfl⟩
              refine ⟨_, List.Perm.refl _, ?_⟩
              refine wx_f rfl (f_nilCheck rfl) ?_
              refine wx_f rfl (f_fieldAddr 2 rfl Try.underlying58 rfl rfl (by kernel_rfl)) ?_
              refine wx_ef ?_
              refine ks_e0 rfl (e_storeN 1 (us := [_]) rfl rfl rfl rfl (by kernel_rfl) (by simp [Value.oneCell']) rfl rfl) ?_
              rintro _ _ w12_12 rfl
              refine ⟨_, pick_perm [0, 1] _ rfl, ?_⟩
              refine wx_endp [] [2, 3] trivial rfl ?_
              refine ⟨.slice U2 ((A ++ B).length + 1) a2, rfl, ?_⟩
              rw [rts, encs_snoc, List.length_append (bs := [(k, o + v, s)])]
              rfl
            · skip
              refine ks_e rfl (e_lit1 (cs := [_, _, _]) t40 rfl rfl rfl (by omega)) ?_
              rintro _ _ w12_8 ⟨b12_8, rfl, rfl⟩
              refine ⟨_, List.perm_middle.symm, ?_⟩
              refine wx_ef ?_
              refine ks_e rfl (e_call0 rfl Try.func42 (by kernel_rfl) (fun w hh => rwithout_spec _ _ A B (k, o, s) w (Rd.held0 hh (i := 2) rfl) (by omega))) ?_
              rintro _ _ w12_6 ⟨_, rfl, U1, a1, rfl, rfl⟩
              refine ⟨_, List.perm_append_comm_assoc _ _ _, ?_⟩
              refine wx_ef ?_
              refine ks_e rfl (e_appN 3 t40 rfl rfl rfl (fun w hh => Rd.held0 hh (i := 4) rfl) (by simp [Value.oneCell']) (by omega) (by omega)) ?_
              rintro _ _ w12_9 ⟨⟨U2, a2, rfl⟩, rfl⟩
              refine ⟨_, List.Perm.refl _, ?_⟩
              refine wx_f rfl (f_nilCheck rfl) ?_
              refine wx_f rfl (f_fieldAddr 2 rfl Try.underlying58 rfl rfl (by kernel_rfl)) ?_
              refine wx_ef ?_
              refine ks_e0 rfl (e_storeN 1 (us := [_]) rfl rfl rfl rfl (by kernel_rfl) (by simp [Value.oneCell']) rfl rfl) ?_
              rintro _ _ w12_12 rfl
              refine ⟨_, pick_perm [0, 1] _ rfl, ?_⟩
              refine wx_endp [] [2, 2] trivial rfl ?_
              refine ⟨.slice U2 ((A ++ B).length + 1) a2, rfl, ?_⟩
              rw [rts, encs_snoc, List.length_append (bs := [(k, o + v, s)])]
              rfl
          rintro _ _ w12_ ⟨U, rfl, rfl⟩
          refine w_seq ?_
          refine w_reg ?_
          refine wl_f (f_assign rfl) ?_
          refine wl_end [(6, _)] ⟨rfl, trivial⟩ ?_
          refine w_bun (H := []) [_, _] ?_
          refine w_ret ?_
          refine ⟨_, _, fun a ha hh => results_tmps Try.results22 rfl a ha _, List.Sublist.refl _, ?_⟩
          exact ⟨0, _, base, sum + v, _, rfl, rfl, ⟨U, rfl⟩, .inr ⟨rfl, hk, hv0, hov, rfl, .inl ⟨⟨A, o, s, B, rfl, hA, rfl⟩, rfl⟩⟩⟩
        · skip
          have hno := rplE_no hy (by omega)
          refine w_skip ?_
          refine w_seq ?_
          refine w_seq ?_
          refine w_reg ?_
          refine wl_f (f_move rfl) ?_
          refine wl_f (f_nilCheck rfl) ?_
          refine wl_f (f_fieldAddr 0 rfl Try.underlying58 rfl rfl (by kernel_rfl)) ?_
          (first | refine wl_f (f_loadb 0 rfl Try.underlying3 rfl rfl rfl) ?_ | refine wl_f (f_loadb 1 rfl Try.underlying3 rfl rfl rfl) ?_ | refine wl_f (f_loadb 2 rfl Try.underlying3 rfl rfl rfl) ?_ | refine wl_f (f_loadb 3 rfl Try.underlying3 rfl rfl rfl) ?_ | refine wl_f (f_loadb 4 rfl Try.underlying3 rfl rfl rfl) ?_ | refine wl_f (f_loadb 5 rfl Try.underlying3 rfl rfl rfl) ?_ | refine wl_f (f_loadb 6 rfl Try.underlying3 rfl rfl rfl) ?_)
          refine wl_f (f_eql rfl rfl) ?_
          refine wl_end [(0, _), (1, _), (2, _), (67, _)] ⟨rfl, rfl, rfl, rfl, trivial⟩ ?_
          refine w_ifd rfl (fun _ => ?_) (fun h => absurd rfl h)
          refine w_seq ?_
          refine w_reg ?_
          refine wl_f (f_move rfl) ?_
          refine wl_f (f_move rfl) ?_
          refine wl_f (f_move rfl) ?_
          refine wl_bun (H := []) [_, _] ?_
          refine wl_e (e_call1 _ [] rfl Try.func43 (by kernel_rfl) (List.Perm.refl _) (fun w hh hs' => rdeduct_spec q n l base (sum + v) _ k v w hn hl hv0 (by omega) (fun x hx => by have := hls x hx; omega) ⟨_, rfl⟩ hs')) ?_
          rintro _ _ w3 ⟨_, rfl, l', base', O, rfl, hD⟩
          refine wl_end [] trivial ?_
          refine w_seq ?_
          refine w_reg ?_
          refine wl_f (f_assign rfl) ?_
          refine wl_end [(6, _)] ⟨rfl, trivial⟩ ?_
          refine w_bun (H := []) [_, _] ?_
          refine w_ret ?_
          refine ⟨_, _, fun a ha hh => results_tmps Try.results22 rfl a ha _, List.Sublist.refl _, ?_⟩
          exact ⟨0, l', base', sum + v, _, rfl, rfl, ⟨O, rfl⟩, .inr ⟨rfl, hk, hv0, hov, rfl, .inr ⟨hno, hD⟩⟩⟩
end Go.Proofs.Ytkoklfagmbaapaa
