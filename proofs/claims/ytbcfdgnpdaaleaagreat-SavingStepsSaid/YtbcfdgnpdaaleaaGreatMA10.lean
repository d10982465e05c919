/- Texts of this proof, part MA10: what the code does, step by step. They have no conditions. -/
import Derived.Test.YtbcfdgnpdaaleaaGreatMA9
/- The reference's tables by the method of Misra and Gries: adding. -/
namespace Go.Proofs.YtbcfdgnpdaaleaaGreat
open Go.RowKit

def RErr (sum : Nat) (k : ByteArray) (v : Nat) (e : Int) : Prop := k = ByteArray.empty ∧ e = 3 ∨ k ≠ ByteArray.empty ∧ v = 0 ∧ e = 1 ∨ k ≠ ByteArray.empty ∧ v ≠ 0 ∧ 9223372036854775808 < sum + v ∧ e = 12
/-- What adding to a tracked key leaves. -/
def RMore (l : List En) (k : ByteArray) (v : Nat) (l' : List En) : Prop := ∃ A o s B, l = A ++ (k, o, s) :: B ∧ k ∉ eks A ∧ l' = A ++ B ++ [(k, o + v, s)]
def RAddG (n : Nat) (l : List En) (base sum : Nat) (k : ByteArray) (v : Nat) (e : Int) (l' : List En) (base' sum' : Nat) : Prop :=
  (e ≠ 0 ∧ l' = l ∧ base' = base ∧ sum' = sum ∧ RErr sum k v e) ∨
  (e = 0 ∧ k ≠ ByteArray.empty ∧ v ≠ 0 ∧ sum + v ≤ 9223372036854775808 ∧ sum' = sum + v ∧ ((RMore l k v l' ∧ base' = base) ∨ (k ∉ eks l ∧ RDed n l base k v l' base')))
set_option maxHeartbeats 8000000 in
theorem rfadd_spec (q n : Nat) (l : List En) (base sum : Nat) (r : Res) (k : ByteArray) (v : Nat) (w : World) (hn : n ≤ 64) (hl : l.length ≤ n) (hb : base ≤ sum) (hsm : sum ≤ 9223372036854775808) (hls : ∀ x ∈ l, x.2.1 ≤ sum) (hr : RtR q 2 n l base sum r) (hs : Holds w r.foot [r] w) :
    Spec Tryz.prog 10 [.pointer (some ⟨q, 0, .none⟩), .string k, .int .u64 (v : Int)] w r.foot fun u H => ∃ (e : Int) (l' : List En) (base' sum' : Nat) (r' : Res), u = .int .i64 e ∧ H = [r'] ∧ RtR q 2 n l' base' sum' r' ∧ RAddG n l base sum k v e l' base' sum' := by
  obtain ⟨LV, rfl⟩ := hr
  refine enter (n := 162) Tryz.func10 rfl rfl [(0, _), (1, _), (2, _)] rfl ⟨rfl, rfl, rfl, trivial⟩ hs ?_
  refine w_with fun hh => ?_
  obtain ⟨L, cl, rfl⟩ := rowB_slice hh (i := 0) (j := 1) rfl rfl
  clear hh
  refine w_unb (H := []) (rts q 2 n l (.slice L l.length cl) base sum) ?_
  refine w_seq ?_
  refine w_reg ?_
  refine wl_f (f_assign rfl) ?_
  refine wl_end [(0, _), (1, _), (2, _)] ⟨rfl, rfl, rfl, trivial⟩ ?_
  refine w_seq ?_
  refine w_seq ?_
  refine w_reg ?_
  refine wl_f (f_move rfl) ?_
  refine wl_f (f_eqls rfl rfl) ?_
  refine wl_end [(0, _), (1, _), (2, _), (13, _)] ⟨rfl, rfl, rfl, rfl, trivial⟩ ?_
  refine w_ifd rfl (fun hc1 => ?_) (fun hc1 => ?_)
  · skip
    have hk : k = ByteArray.empty := hc1
    refine w_seq ?_
    refine w_reg ?_
    refine wl_f (f_assign rfl) ?_
    refine wl_end [(6, _)] ⟨rfl, trivial⟩ ?_
    refine w_bun (H := []) [_, _] ?_
    refine w_ret ?_
    refine ⟨_, _, fun a ha hh => results_tmps Tryz.results10 rfl a ha _, List.Sublist.refl _, ?_⟩
    exact ⟨3, l, base, sum, _, rfl, rfl, ⟨_, rfl⟩, .inl ⟨by decide, rfl, rfl, rfl, .inl ⟨hk, rfl⟩⟩⟩
  · skip
    have hk : k ≠ ByteArray.empty := hc1
    refine w_skip ?_
    refine w_seq ?_
    refine w_seq ?_
    refine w_reg ?_
    refine wl_f (f_move rfl) ?_
    refine wl_f (f_eql rfl rfl) ?_
    refine wl_end [(0, _), (1, _), (2, _), (15, _)] ⟨rfl, rfl, rfl, rfl, trivial⟩ ?_
    refine w_ifd rfl (fun hc2 => ?_) (fun hc2 => ?_)
    · skip
      have hv0 : v = 0 := by
        have : (v : Int) = 0 := hc2
        omega
      refine w_seq ?_
      refine w_reg ?_
      refine wl_f (f_assign rfl) ?_
      refine wl_end [(6, _)] ⟨rfl, trivial⟩ ?_
      refine w_bun (H := []) [_, _] ?_
      refine w_ret ?_
      refine ⟨_, _, fun a ha hh => results_tmps Tryz.results10 rfl a ha _, List.Sublist.refl _, ?_⟩
      exact ⟨1, l, base, sum, _, rfl, rfl, ⟨_, rfl⟩, .inl ⟨by decide, rfl, rfl, rfl, .inr (.inl ⟨hk, hv0, rfl⟩)⟩⟩
    · skip
      have hv0 : v ≠ 0 := fun h => hc2 (by rw [h]; rfl)
      refine w_skip ?_
      refine w_seq ?_
      refine w_seq ?_
      refine w_reg ?_
      refine wl_f (f_move rfl) ?_
      refine wl_f (f_nilCheck rfl) ?_
      refine wl_f (f_fieldAddr 4 rfl Tryz.underlying50 rfl rfl (by kernel_rfl)) ?_
      (first | refine wl_f (f_loadb 0 rfl Tryz.underlying23 rfl rfl rfl) ?_ | refine wl_f (f_loadb 1 rfl Tryz.underlying23 rfl rfl rfl) ?_ | refine wl_f (f_loadb 2 rfl Tryz.underlying23 rfl rfl rfl) ?_ | refine wl_f (f_loadb 3 rfl Tryz.underlying23 rfl rfl rfl) ?_ | refine wl_f (f_loadb 4 rfl Tryz.underlying23 rfl rfl rfl) ?_ | refine wl_f (f_loadb 5 rfl Tryz.underlying23 rfl rfl rfl) ?_ | refine wl_f (f_loadb 6 rfl Tryz.underlying23 rfl rfl rfl) ?_)
      refine wl_f (f_move rfl) ?_
      refine wl_e (e_call0 rfl Tryz.func35 (by kernel_rfl) (fun w hh => rfits_spec sum v w)) ?_
      rintro _ _ w1 ⟨_, rfl, rfl, rfl⟩
      refine wl_f (f_not rfl rfl) ?_
      refine wl_end [(0, _), (1, _), (2, _), (22, _)] ⟨rfl, rfl, rfl, rfl, trivial⟩ ?_
      refine w_ifb rfl (fun hc3 => ?_) (fun hc3 => ?_)
      · skip
        have hov : 9223372036854775808 < sum + v := by
          refine Classical.byContradiction fun h => ?_
          rw [decide_eq_true (show sum + v ≤ 9223372036854775808 by omega)] at hc3
          cases hc3
        refine w_seq ?_
        refine w_reg ?_
        refine wl_f (f_assign rfl) ?_
        refine wl_end [(6, _)] ⟨rfl, trivial⟩ ?_
        refine w_bun (H := []) [_, _] ?_
        refine w_ret ?_
        refine ⟨_, _, fun a ha hh => results_tmps Tryz.results10 rfl a ha _, List.Sublist.refl _, ?_⟩
        exact ⟨12, l, base, sum, _, rfl, rfl, ⟨_, rfl⟩, .inl ⟨by decide, rfl, rfl, rfl, .inr (.inr ⟨hk, hv0, hov, rfl⟩)⟩⟩
      · skip
        have hov : sum + v ≤ 9223372036854775808 := by
          refine Classical.byContradiction fun h => hc3 ?_
          rw [decide_eq_false h]
          rfl
        refine w_skip ?_
        refine w_seq ?_
        refine w_reg ?_
        refine wl_f (f_move rfl) ?_
        refine wl_f (f_nilCheck rfl) ?_
        refine wl_f (f_fieldAddr 4 rfl Tryz.underlying50 rfl rfl (by kernel_rfl)) ?_
        (first | refine wl_f (f_loadb 0 rfl Tryz.underlying23 rfl rfl rfl) ?_ | refine wl_f (f_loadb 1 rfl Tryz.underlying23 rfl rfl rfl) ?_ | refine wl_f (f_loadb 2 rfl Tryz.underlying23 rfl rfl rfl) ?_ | refine wl_f (f_loadb 3 rfl Tryz.underlying23 rfl rfl rfl) ?_ | refine wl_f (f_loadb 4 rfl Tryz.underlying23 rfl rfl rfl) ?_ | refine wl_f (f_loadb 5 rfl Tryz.underlying23 rfl rfl rfl) ?_ | refine wl_f (f_loadb 6 rfl Tryz.underlying23 rfl rfl rfl) ?_)
        refine wl_f (f_move rfl) ?_
        refine wl_f (f_eqv (v' := .int .u64 ((sum + v : Nat) : Int)) (f_addu rfl rfl (by omega)) (by rw [Int.natCast_add])) ?_
        refine wl_f (f_nilCheck rfl) ?_
        refine wl_f (f_fieldAddr 4 rfl Tryz.underlying50 rfl rfl (by kernel_rfl)) ?_
        (first | refine wl_e0 (e_store0 (us := [_]) rfl rfl rfl (by kernel_rfl) (by simp [Value.oneCell']) rfl rfl) ?_ | refine wl_e0 (e_store1 (us := [_]) rfl rfl rfl (by kernel_rfl) (by simp [Value.oneCell']) rfl rfl) ?_ | refine wl_e0 (e_store2 (us := [_]) rfl rfl rfl (by kernel_rfl) (by simp [Value.oneCell']) rfl rfl) ?_ | refine wl_e0 (e_store3 (us := [_]) rfl rfl rfl (by kernel_rfl) (by simp [Value.oneCell']) rfl rfl) ?_)
        rintro _ _ w7_8 rfl
        refine wl_end [(0, _), (1, _), (2, _)] ⟨rfl, rfl, rfl, trivial⟩ ?_
        refine w_seq ?_
        refine w_seq ?_
        refine w_reg ?_
        refine wl_f (f_move rfl) ?_
        refine wl_f (f_nilCheck rfl) ?_
        refine wl_f (f_fieldAddr 2 rfl Tryz.underlying50 rfl rfl (by kernel_rfl)) ?_
        (first | refine wl_f (f_loadb 0 rfl Tryz.underlying45 rfl rfl rfl) ?_ | refine wl_f (f_loadb 1 rfl Tryz.underlying45 rfl rfl rfl) ?_ | refine wl_f (f_loadb 2 rfl Tryz.underlying45 rfl rfl rfl) ?_ | refine wl_f (f_loadb 3 rfl Tryz.underlying45 rfl rfl rfl) ?_ | refine wl_f (f_loadb 4 rfl Tryz.underlying45 rfl rfl rfl) ?_ | refine wl_f (f_loadb 5 rfl Tryz.underlying45 rfl rfl rfl) ?_ | refine wl_f (f_loadb 6 rfl Tryz.underlying45 rfl rfl rfl) ?_)
        refine wl_f (f_move rfl) ?_
        refine wl_e (e_call0 rfl Tryz.func36 (by kernel_rfl) (fun w hh => rplace_spec _ l k w (Rd.held0 hh (i := 1) rfl) (by omega))) ?_
        rintro _ _ w2 ⟨_, rfl, rfl, y, rfl, hy⟩
        refine wl_f (f_assign rfl) ?_
        refine wl_end [(0, _), (1, _), (2, _), (7, _)] ⟨rfl, rfl, rfl, rfl, trivial⟩ ?_
        refine w_seq ?_
        refine w_reg ?_
        refine wl_f (f_move rfl) ?_
        refine wl_f (f_geq rfl rfl) ?_
        refine wl_end [(0, _), (1, _), (2, _), (7, _), (38, _)] ⟨rfl, rfl, rfl, rfl, rfl, trivial⟩ ?_
        refine w_ifd rfl (fun hc4 => ?_) (fun hc4 => ?_)
        · skip
          obtain ⟨A, o, s, B, rfl, hA, rfl⟩ := rplE_at hy (by omega)
          have hAl : A.length < (A ++ (k, o, s) :: B).length := by simp
          have hAB : (A ++ B).length ≤ 64 := by
            simp only [List.length_append, List.length_cons] at hl ⊢
            omega
          have hos := hls (k, o, s) (by simp)
          have hos' : o ≤ sum := hos
          refine w_with fun hh => ?_
          obtain ⟨g, cap, e⟩ := row_form hh (i := 1) rfl (by omega)
          injection e with e1 _ e3
          subst e1; subst e3
          clear hh
          refine w_seq ?_
          refine w_reg ?_
          refine wl_f (f_move rfl) ?_
          refine wl_f (f_nilCheck rfl) ?_
          refine wl_f (f_fieldAddr 2 rfl Tryz.underlying50 rfl rfl (by kernel_rfl)) ?_
          (first | refine wl_f (f_loadb 0 rfl Tryz.underlying45 rfl rfl rfl) ?_ | refine wl_f (f_loadb 1 rfl Tryz.underlying45 rfl rfl rfl) ?_ | refine wl_f (f_loadb 2 rfl Tryz.underlying45 rfl rfl rfl) ?_ | refine wl_f (f_loadb 3 rfl Tryz.underlying45 rfl rfl rfl) ?_ | refine wl_f (f_loadb 4 rfl Tryz.underlying45 rfl rfl rfl) ?_ | refine wl_f (f_loadb 5 rfl Tryz.underlying45 rfl rfl rfl) ?_ | refine wl_f (f_loadb 6 rfl Tryz.underlying45 rfl rfl rfl) ?_)
          refine wl_f (f_move rfl) ?_
          refine wl_f (f_indexAddr 3 (i := A.length) rfl rfl Tryz.underlying45 (by kernel_rfl) rfl hAl) ?_
          refine wl_f (f_loadsr (cs := ecell (some (k, o, s))) 1 rfl Tryz.underlying25 rfl (by kernel_rfl) rfl (encs_get encs_loc)) ?_
          refine wl_e (e_allocs [.string ByteArray.empty, .int .u64 0, .int .u64 0] (by kernel_rfl)) ?_
          rintro _ _ w10_7 ⟨b10_7, rfl, rfl⟩
          (first | refine wl_e0 (e_store0 (us := [_, _, _]) rfl rfl rfl (by kernel_rfl) (by simp [Value.oneCell']) rfl rfl) ?_ | refine wl_e0 (e_store1 (us := [_, _, _]) rfl rfl rfl (by kernel_rfl) (by simp [Value.oneCell']) rfl rfl) ?_ | refine wl_e0 (e_store2 (us := [_, _, _]) rfl rfl rfl (by kernel_rfl) (by simp [Value.oneCell']) rfl rfl) ?_ | refine wl_e0 (e_store3 (us := [_, _, _]) rfl rfl rfl (by kernel_rfl) (by simp [Value.oneCell']) rfl rfl) ?_)
          rintro _ _ w10_8 rfl
          refine wl_end [(0, _), (2, _), (7, _), (8, _)] ⟨rfl, rfl, rfl, rfl, trivial⟩ ?_
          refine w_seq ?_
          refine w_reg ?_
          refine wl_f (f_fieldAddr 1 rfl Tryz.underlying25 rfl rfl (by kernel_rfl)) ?_
          (first | refine wl_f (f_loadb 0 rfl Tryz.underlying23 rfl rfl rfl) ?_ | refine wl_f (f_loadb 1 rfl Tryz.underlying23 rfl rfl rfl) ?_ | refine wl_f (f_loadb 2 rfl Tryz.underlying23 rfl rfl rfl) ?_ | refine wl_f (f_loadb 3 rfl Tryz.underlying23 rfl rfl rfl) ?_ | refine wl_f (f_loadb 4 rfl Tryz.underlying23 rfl rfl rfl) ?_ | refine wl_f (f_loadb 5 rfl Tryz.underlying23 rfl rfl rfl) ?_ | refine wl_f (f_loadb 6 rfl Tryz.underlying23 rfl rfl rfl) ?_)
          refine wl_f (f_move rfl) ?_
          refine wl_f (f_eqv (v' := .int .u64 ((o + v : Nat) : Int)) (f_addu rfl rfl (by omega)) (by rw [Int.natCast_add])) ?_
          refine wl_f (f_fieldAddr 1 rfl Tryz.underlying25 rfl rfl (by kernel_rfl)) ?_
          (first | refine wl_e0 (e_store0 (us := [_]) rfl rfl rfl (by kernel_rfl) (by simp [Value.oneCell']) rfl rfl) ?_ | refine wl_e0 (e_store1 (us := [_]) rfl rfl rfl (by kernel_rfl) (by simp [Value.oneCell']) rfl rfl) ?_ | refine wl_e0 (e_store2 (us := [_]) rfl rfl rfl (by kernel_rfl) (by simp [Value.oneCell']) rfl rfl) ?_ | refine wl_e0 (e_store3 (us := [_]) rfl rfl rfl (by kernel_rfl) (by simp [Value.oneCell']) rfl rfl) ?_)
          rintro _ _ w11_5 rfl
          refine wl_end [(0, _), (7, _), (8, _)] ⟨rfl, rfl, rfl, trivial⟩ ?_
          refine w_seq ?_
          refine w_post (fun m H w' => ∃ (U : Value), m = [] ∧ H = rts q 2 n (A ++ B ++ [(k, o + v, s)]) U base (sum + v)) ?_ ?_
          · skip
            refine w_drawx (.fl 0 (.fl 1 (.fl 2 (.fl 3 (.fl 4 (.fl 5 (.fl 7 (.two 6 (.ef 8 (.ef 9 (.fl 10 (.fl 11 (.ef 12 .done))))) 8 (.ef 6 (.ef 9 (.fl 10 (.fl 11 (.ef 12 .done))))))))))))) ([(_, none), (_, some 12), (_, none)]) ([]) mixed (by kernel_rfl) (by kernel_rfl) rfl rfl (List.Perm.refl _) (fun w12_ => ?_)
            refine wx_f rfl (f_move rfl) ?_
            refine wx_f rfl (f_move rfl) ?_
            refine wx_f rfl (f_nilCheck rfl) ?_
            refine wx_f rfl (f_fieldAddr 2 rfl Tryz.underlying50 rfl rfl (by kernel_rfl)) ?_
            (first | refine wx_f rfl (f_loadb 0 rfl Tryz.underlying45 rfl rfl rfl) ?_ | refine wx_f rfl (f_loadb 1 rfl Tryz.underlying45 rfl rfl rfl) ?_ | refine wx_f rfl (f_loadb 2 rfl Tryz.underlying45 rfl rfl rfl) ?_ | refine wx_f rfl (f_loadb 3 rfl Tryz.underlying45 rfl rfl rfl) ?_ | refine wx_f rfl (f_loadb 4 rfl Tryz.underlying45 rfl rfl rfl) ?_ | refine wx_f rfl (f_loadb 5 rfl Tryz.underlying45 rfl rfl rfl) ?_ | refine wx_f rfl (f_loadb 6 rfl Tryz.underlying45 rfl rfl rfl) ?_)
            refine wx_f rfl (f_move rfl) ?_
            (first | refine wx_f rfl (f_loadsb (cs := [_, _, _]) 0 rfl Tryz.underlying25 rfl (by kernel_rfl) rfl rfl) ?_ | refine wx_f rfl (f_loadsb (cs := [_, _, _]) 1 rfl Tryz.underlying25 rfl (by kernel_rfl) rfl rfl) ?_ | refine wx_f rfl (f_loadsb (cs := [_, _, _]) 2 rfl Tryz.underlying25 rfl (by kernel_rfl) rfl rfl) ?_ | refine wx_f rfl (f_loadsb (cs := [_, _, _]) 3 rfl Tryz.underlying25 rfl (by kernel_rfl) rfl rfl) ?_ | refine wx_f rfl (f_loadsb (cs := [_, _, _]) 4 rfl Tryz.underlying25 rfl (by kernel_rfl) rfl rfl) ?_ | refine wx_f rfl (f_loadsb (cs := [_, _, _]) 5 rfl Tryz.underlying25 rfl (by kernel_rfl) rfl rfl) ?_ | refine wx_f rfl (f_loadsb (cs := [_, _, _]) 6 rfl Tryz.underlying25 rfl (by kernel_rfl) rfl rfl) ?_)
            refine wx_two ?_ ?_
            · skip
              refine ks_e rfl (e_call0 rfl Tryz.func37 (by kernel_rfl) (fun w hh => rwithout_spec _ _ A B (k, o, s) w (Rd.held0 hh (i := 2) rfl) (by omega))) ?_
              rintro _ _ w12_6 ⟨_, rfl, U1, a1, rfl, rfl⟩
              refine ⟨_, List.perm_append_comm_assoc _ _ _, ?_⟩
              refine wx_ef ?_
              refine ks_e rfl (e_lit1 (cs := [_, _, _]) t45 rfl rfl rfl (by omega)) ?_
              rintro _ _ w12_8 ⟨b12_8, rfl, rfl⟩
              refine ⟨_, List.perm_middle.symm, ?_⟩
              refine wx_ef ?_
              refine ks_e rfl (e_appN 4 t45 rfl rfl rfl (fun w hh => Rd.held0 hh (i := 3) rfl) (by simp [Value.oneCell']) (by omega) (by omega)) ?_
              rintro _ _ w12_9 ⟨⟨U2, a2, rfl⟩, rfl⟩
              refine ⟨_, List.Perm.refl _, ?_⟩
              refine wx_f rfl (f_nilCheck rfl) ?_
              refine wx_f rfl (f_fieldAddr 2 rfl Tryz.underlying50 rfl rfl (by kernel_rfl)) ?_
              refine wx_ef ?_
              refine ks_e0 rfl (e_storeN 1 (us := [_]) rfl rfl rfl rfl (by kernel_rfl) (by simp [Value.oneCell']) rfl rfl) ?_
              rintro _ _ w12_12 rfl
              refine ⟨_, pick_perm [0, 1] _ rfl, ?_⟩
              refine wx_endp [] [2, 3] trivial rfl ?_
              refine ⟨.slice U2 ((A ++ B).length + 1) a2, rfl, ?_⟩
              rw [rts, encs_snoc, List.length_append (bs := [(k, o + v, s)])]
              rfl
            · skip
              refine ks_e rfl (e_lit1 (cs := [_, _, _]) t45 rfl rfl rfl (by omega)) ?_
              rintro _ _ w12_8 ⟨b12_8, rfl, rfl⟩
              refine ⟨_, List.perm_middle.symm, ?_⟩
              refine wx_ef ?_
              refine ks_e rfl (e_call0 rfl Tryz.func37 (by kernel_rfl) (fun w hh => rwithout_spec _ _ A B (k, o, s) w (Rd.held0 hh (i := 2) rfl) (by omega))) ?_
              rintro _ _ w12_6 ⟨_, rfl, U1, a1, rfl, rfl⟩
              refine ⟨_, List.perm_append_comm_assoc _ _ _, ?_⟩
              refine wx_ef ?_
              refine ks_e rfl (e_appN 3 t45 rfl rfl rfl (fun w hh => Rd.held0 hh (i := 4) rfl) (by simp [Value.oneCell']) (by omega) (by omega)) ?_
              rintro _ _ w12_9 ⟨⟨U2, a2, rfl⟩, rfl⟩
              refine ⟨_, List.Perm.refl _, ?_⟩
              refine wx_f rfl (f_nilCheck rfl) ?_
              refine wx_f rfl (f_fieldAddr 2 rfl Tryz.underlying50 rfl rfl (by kernel_rfl)) ?_
              refine wx_ef ?_
              refine ks_e0 rfl (e_storeN 1 (us := [_]) rfl rfl rfl rfl (by kernel_rfl) (by simp [Value.oneCell']) rfl rfl) ?_
              rintro _ _ w12_12 rfl
              refine ⟨_, pick_perm [0, 1] _ rfl, ?_⟩
              refine wx_endp [] [2, 2] trivial rfl ?_
              refine ⟨.slice U2 ((A ++ B).length + 1) a2, rfl, ?_⟩
              rw [rts, encs_snoc, List.length_append (bs := [(k, o + v, s)])]
              rfl
          rintro _ _ w12_ ⟨U, rfl, rfl⟩
          refine w_seq ?_
          refine w_reg ?_
          refine wl_f (f_assign rfl) ?_
          refine wl_end [(6, _)] ⟨rfl, trivial⟩ ?_
          refine w_bun (H := []) [_, _] ?_
          refine w_ret ?_
          refine ⟨_, _, fun a ha hh => results_tmps Tryz.results10 rfl a ha _, List.Sublist.refl _, ?_⟩
          exact ⟨0, _, base, sum + v, _, rfl, rfl, ⟨U, rfl⟩, .inr ⟨rfl, hk, hv0, hov, rfl, .inl ⟨⟨A, o, s, B, rfl, hA, rfl⟩, rfl⟩⟩⟩
        · skip
          have hno := rplE_no hy (by omega)
          refine w_skip ?_
          refine w_seq ?_
          refine w_seq ?_
          refine w_reg ?_
          refine wl_f (f_move rfl) ?_
          refine wl_f (f_nilCheck rfl) ?_
          refine wl_f (f_fieldAddr 0 rfl Tryz.underlying50 rfl rfl (by kernel_rfl)) ?_
          (first | refine wl_f (f_loadb 0 rfl Tryz.underlying3 rfl rfl rfl) ?_ | refine wl_f (f_loadb 1 rfl Tryz.underlying3 rfl rfl rfl) ?_ | refine wl_f (f_loadb 2 rfl Tryz.underlying3 rfl rfl rfl) ?_ | refine wl_f (f_loadb 3 rfl Tryz.underlying3 rfl rfl rfl) ?_ | refine wl_f (f_loadb 4 rfl Tryz.underlying3 rfl rfl rfl) ?_ | refine wl_f (f_loadb 5 rfl Tryz.underlying3 rfl rfl rfl) ?_ | refine wl_f (f_loadb 6 rfl Tryz.underlying3 rfl rfl rfl) ?_)
          refine wl_f (f_eql rfl rfl) ?_
          refine wl_end [(0, _), (1, _), (2, _), (67, _)] ⟨rfl, rfl, rfl, rfl, trivial⟩ ?_
          refine w_ifd rfl (fun _ => ?_) (fun h => absurd rfl h)
          refine w_seq ?_
          refine w_reg ?_
          refine wl_f (f_move rfl) ?_
          refine wl_f (f_move rfl) ?_
          refine wl_f (f_move rfl) ?_
          refine wl_bun (H := []) [_, _] ?_
          refine wl_e (e_call1 _ [] rfl Tryz.func38 (by kernel_rfl) (List.Perm.refl _) (fun w hh hs' => rdeduct_spec q n l base (sum + v) _ k v w hn hl hv0 (by omega) (fun x hx => by have := hls x hx; omega) ⟨_, rfl⟩ hs')) ?_
          rintro _ _ w3 ⟨_, rfl, l', base', O, rfl, hD⟩
          refine wl_end [] trivial ?_
          refine w_seq ?_
          refine w_reg ?_
          refine wl_f (f_assign rfl) ?_
          refine wl_end [(6, _)] ⟨rfl, trivial⟩ ?_
          refine w_bun (H := []) [_, _] ?_
          refine w_ret ?_
          refine ⟨_, _, fun a ha hh => results_tmps Tryz.results10 rfl a ha _, List.Sublist.refl _, ?_⟩
          exact ⟨0, l', base', sum + v, _, rfl, rfl, ⟨O, rfl⟩, .inr ⟨rfl, hk, hv0, hov, rfl, .inr ⟨hno, hD⟩⟩⟩
end Go.Proofs.YtbcfdgnpdaaleaaGreat

/- The reference's tables by the method of Misra and Gries: exchanging. -/
namespace Go.Proofs.YtbcfdgnpdaaleaaGreat
open Go.RowKit

def RAt (l : List En) (k : ByteArray) (o s : Nat) (A B : List En) : Prop := l = A ++ (k, o, s) :: B ∧ k ∉ eks A
def RSwapG (l : List En) (base : Nat) (k x : ByteArray) (xo xs : Nat) (v : Value) (l' : List En) : Prop :=
  (∃ e : Int, v = .tuple [enZ, .int .i64 e].toArray ∧ l' = l ∧ (k ∉ eks l ∧ e = 8 ∨ ∃ o s A B, RAt l k o s A B ∧ (x = ByteArray.empty ∧ e = 3 ∨ x ≠ ByteArray.empty ∧ (x ∈ eks l ∧ e = 10 ∨ x ∉ eks l ∧ (xo = 0 ∨ o < xo ∨ base < xs) ∧ e = 1)))) ∨
  (∃ o s A B, RAt l k o s A B ∧ x ≠ ByteArray.empty ∧ x ∉ eks l ∧ ¬ (xo = 0 ∨ o < xo ∨ base < xs) ∧ v = .tuple [enV k o base, .int .i64 0].toArray ∧ l' = A ++ B ++ [(x, xo, 0)])
theorem rplE_in {l : List En} {k : ByteArray} {y : Int} (h : rplE l k y) (hy : ¬ y < 0) : k ∈ eks l := by
  obtain ⟨A, o, s, B, rfl, _⟩ := rplE_at h hy
  rw [eks_app]; simp [eks]
set_option maxHeartbeats 8000000 in
theorem rfswap_spec (q n : Nat) (l : List En) (base sum : Nat) (r : Res) (k x : ByteArray) (xo xs : Nat) (w : World) (hl : l.length ≤ 64) (hr : RtR q 2 n l base sum r) (hs : Holds w r.foot [r] w) :
    Spec Tryz.prog 15 [.pointer (some ⟨q, 0, .none⟩), .string k, .agg #[.string x, .int .u64 (xo : Int), .int .u64 (xs : Int)]] w r.foot fun v H => ∃ l' r', H = [r'] ∧ RtR q 2 n l' base sum r' ∧ RSwapG l base k x xo xs v l' := by
  have hr0 := hr
  obtain ⟨LV, rfl⟩ := hr
  refine enter (n := 106) Tryz.func15 rfl rfl [(0, _), (1, _), (2, _)] rfl ⟨rfl, rfl, rfl, trivial⟩ hs ?_
  refine w_seq ?_
  refine w_reg ?_
  refine wl_e (e_box (cs := [_, _, _]) rfl rfl) ?_
  rintro _ _ w0_0 ⟨b0_0, rfl, rfl⟩
  refine wl_e (e_allocs [.string ByteArray.empty, .int .u64 0, .int .u64 0] (by kernel_rfl)) ?_
  rintro _ _ w0_1 ⟨b0_1, rfl, rfl⟩
  refine wl_f (f_assign rfl) ?_
  refine wl_end [(0, _), (1, _), (5, _), (6, _)] ⟨rfl, rfl, rfl, rfl, trivial⟩ ?_
  refine w_seq ?_
  refine w_reg ?_
  refine wl_f (f_move rfl) ?_
  refine wl_f (f_move rfl) ?_
  refine wl_e (e_call1 _ [_, _] rfl Tryz.func17 (by kernel_rfl) (pk1 2 rfl) (fun w hh hs' => rget_spec q 2 n l base sum _ k w (by omega) hr0 hs')) ?_
  rintro _ _ w1 ⟨_, rfl, rfl, k', o, s', is, rfl, hG⟩
  refine wl_f (f_move rfl) ?_
  refine wl_f (f_extract rfl rfl) ?_
  refine wl_f (f_extract rfl rfl) ?_
  refine wl_e (e_allocs [.string ByteArray.empty, .int .u64 0, .int .u64 0] (by kernel_rfl)) ?_
  rintro _ _ w1_6 ⟨b1_6, rfl, rfl⟩
  (first | refine wl_e0 (e_store0 (us := [_, _, _]) rfl rfl rfl (by kernel_rfl) (by simp [Value.oneCell']) rfl rfl) ?_ | refine wl_e0 (e_store1 (us := [_, _, _]) rfl rfl rfl (by kernel_rfl) (by simp [Value.oneCell']) rfl rfl) ?_ | refine wl_e0 (e_store2 (us := [_, _, _]) rfl rfl rfl (by kernel_rfl) (by simp [Value.oneCell']) rfl rfl) ?_ | refine wl_e0 (e_store3 (us := [_, _, _]) rfl rfl rfl (by kernel_rfl) (by simp [Value.oneCell']) rfl rfl) ?_)
  rintro _ _ w1_7 rfl
  refine wl_f (f_assign rfl) ?_
  refine wl_end [(0, _), (1, _), (5, _), (6, _), (8, _), (9, _)] ⟨rfl, rfl, rfl, rfl, rfl, rfl, trivial⟩ ?_
  refine w_seq ?_
  refine w_seq ?_
  refine w_reg ?_
  refine wl_f (f_move rfl) ?_
  refine wl_f (f_not rfl rfl) ?_
  refine wl_end [(0, _), (1, _), (5, _), (6, _), (8, _), (17, _)] ⟨rfl, rfl, rfl, rfl, rfl, rfl, trivial⟩ ?_
  refine w_ifb rfl (fun hc1 => ?_) (fun hc1 => ?_)
  · skip
    have hno : k ∉ eks l := by
      rcases hG with ⟨_, h, _⟩ | ⟨h, _⟩
      · exact h
      · rw [h] at hc1; cases hc1
    refine w_seq ?_
    refine w_reg ?_
    refine wl_f (f_build rfl build_entry0) ?_
    (first | refine wl_e0 (e_store0 (us := [_, _, _]) rfl rfl rfl (by kernel_rfl) (by simp [Value.oneCell']) rfl rfl) ?_ | refine wl_e0 (e_store1 (us := [_, _, _]) rfl rfl rfl (by kernel_rfl) (by simp [Value.oneCell']) rfl rfl) ?_ | refine wl_e0 (e_store2 (us := [_, _, _]) rfl rfl rfl (by kernel_rfl) (by simp [Value.oneCell']) rfl rfl) ?_ | refine wl_e0 (e_store3 (us := [_, _, _]) rfl rfl rfl (by kernel_rfl) (by simp [Value.oneCell']) rfl rfl) ?_)
    rintro _ _ w3_1 rfl
    refine wl_f (f_assign rfl) ?_
    refine wl_end [(6, _), (7, _)] ⟨rfl, rfl, trivial⟩ ?_
    refine w_pick [2, 1] rfl ?_
    refine w_ret ?_
    refine ⟨_, _, fun a ha hh => results_mix Tryz.results15 (rm_cell (cell_agg 0 rfl Tryz.underlying25 rfl (by kernel_rfl) rfl) (rm_tmp rfl rm_nil)) a ha _ hh, List.sublist_cons_self .., ?_⟩
    exact ⟨l, _, rfl, ⟨_, rfl⟩, .inl ⟨8, rfl, rfl, .inl ⟨hno, rfl⟩⟩⟩
  · skip
    obtain ⟨A, s, B, hl2, hA, hk2, hs2⟩ : ∃ A s B, l = A ++ (k, o, s) :: B ∧ k ∉ eks A ∧ k' = k ∧ s' = base := by
      rcases hG with ⟨h, _⟩ | ⟨_, A, s, B, h2, h3, h4, h5⟩
      · rw [h] at hc1; exact absurd rfl hc1
      · exact ⟨A, s, B, h2, h3, h4, h5⟩
    subst hl2
    have hk3 := hk2.symm
    subst hk3
    have hs3 := hs2.symm
    subst hs3
    have hAt : RAt (A ++ (k, o, s) :: B) k o s A B := ⟨rfl, hA⟩
    clear hG hc1
    refine w_skip ?_
    refine w_seq ?_
    refine w_seq ?_
    refine w_reg ?_
    refine wl_f (f_fieldAddr 0 rfl Tryz.underlying25 rfl rfl (by kernel_rfl)) ?_
    (first | refine wl_f (f_loadb 0 rfl Tryz.underlying9 rfl rfl rfl) ?_ | refine wl_f (f_loadb 1 rfl Tryz.underlying9 rfl rfl rfl) ?_ | refine wl_f (f_loadb 2 rfl Tryz.underlying9 rfl rfl rfl) ?_ | refine wl_f (f_loadb 3 rfl Tryz.underlying9 rfl rfl rfl) ?_ | refine wl_f (f_loadb 4 rfl Tryz.underlying9 rfl rfl rfl) ?_ | refine wl_f (f_loadb 5 rfl Tryz.underlying9 rfl rfl rfl) ?_ | refine wl_f (f_loadb 6 rfl Tryz.underlying9 rfl rfl rfl) ?_)
    refine wl_f (f_eqls rfl rfl) ?_
    refine wl_end [(0, _), (1, _), (5, _), (6, _), (8, _), (21, _)] ⟨rfl, rfl, rfl, rfl, rfl, rfl, trivial⟩ ?_
    refine w_ifd rfl (fun hc2 => ?_) (fun hc2 => ?_)
    · skip
      have hx : x = ByteArray.empty := hc2
      refine w_seq ?_
      refine w_reg ?_
      refine wl_f (f_build rfl build_entry0) ?_
      (first | refine wl_e0 (e_store0 (us := [_, _, _]) rfl rfl rfl (by kernel_rfl) (by simp [Value.oneCell']) rfl rfl) ?_ | refine wl_e0 (e_store1 (us := [_, _, _]) rfl rfl rfl (by kernel_rfl) (by simp [Value.oneCell']) rfl rfl) ?_ | refine wl_e0 (e_store2 (us := [_, _, _]) rfl rfl rfl (by kernel_rfl) (by simp [Value.oneCell']) rfl rfl) ?_ | refine wl_e0 (e_store3 (us := [_, _, _]) rfl rfl rfl (by kernel_rfl) (by simp [Value.oneCell']) rfl rfl) ?_)
      rintro _ _ w5_1 rfl
      refine wl_f (f_assign rfl) ?_
      refine wl_end [(6, _), (7, _)] ⟨rfl, rfl, trivial⟩ ?_
      refine w_pick [2, 1] rfl ?_
      refine w_ret ?_
      refine ⟨_, _, fun a ha hh => results_mix Tryz.results15 (rm_cell (cell_agg 0 rfl Tryz.underlying25 rfl (by kernel_rfl) rfl) (rm_tmp rfl rm_nil)) a ha _ hh, List.sublist_cons_self .., ?_⟩
      exact ⟨_, _, rfl, ⟨_, rfl⟩, .inl ⟨3, rfl, rfl, .inr ⟨o, s, A, B, hAt, .inl ⟨hx, rfl⟩⟩⟩⟩
    · skip
      have hx : x ≠ ByteArray.empty := hc2
      refine w_skip ?_
      refine w_seq ?_
      refine w_seq ?_
      refine w_draw [(0, true), (1, true), (2, true), (3, true), (4, true), (5, true), (6, false), (7, true)] (_) ([]) mixed (by kernel_rfl) (by kernel_rfl) rfl (perm_all _) (fun w6_ => ?_)
      refine wd_f rfl (f_move rfl) ?_
      refine wd_f rfl (f_nilCheck rfl) ?_
      refine wd_f rfl (f_fieldAddr 2 rfl Tryz.underlying50 rfl rfl (by kernel_rfl)) ?_
      refine wd_f rfl (f_loadB 1 0 rfl rfl rfl Tryz.underlying45 rfl rfl) ?_
      refine wd_f rfl (f_fieldAddr 0 rfl Tryz.underlying25 rfl rfl (by kernel_rfl)) ?_
      (first | refine wd_f rfl (f_loadb 0 rfl Tryz.underlying9 rfl rfl rfl) ?_ | refine wd_f rfl (f_loadb 1 rfl Tryz.underlying9 rfl rfl rfl) ?_ | refine wd_f rfl (f_loadb 2 rfl Tryz.underlying9 rfl rfl rfl) ?_ | refine wd_f rfl (f_loadb 3 rfl Tryz.underlying9 rfl rfl rfl) ?_ | refine wd_f rfl (f_loadb 4 rfl Tryz.underlying9 rfl rfl rfl) ?_ | refine wd_f rfl (f_loadb 5 rfl Tryz.underlying9 rfl rfl rfl) ?_ | refine wd_f rfl (f_loadb 6 rfl Tryz.underlying9 rfl rfl rfl) ?_)
      refine wd_e rfl (e_call0 rfl Tryz.func36 (by kernel_rfl) (fun w hh => rplace_spec LV _ x w (Rd.heldB hh (i := 1) (j := 1) rfl rfl) (by omega))) ?_
      rintro _ _ w2 ⟨_, rfl, rfl, y, rfl, hy⟩
      refine ⟨_, List.Perm.refl _, ?_⟩
      refine wd_f rfl (f_geq rfl rfl) ?_
      refine wd_end [(0, _), (1, _), (5, _), (6, _), (8, _), (30, _)] ⟨rfl, rfl, rfl, rfl, rfl, rfl, trivial⟩ ?_
      refine w_ifd rfl (fun hc3 => ?_) (fun hc3 => ?_)
      · skip
        have hxi := rplE_in hy (by omega)
        refine w_seq ?_
        refine w_reg ?_
        refine wl_f (f_build rfl build_entry0) ?_
        (first | refine wl_e0 (e_store0 (us := [_, _, _]) rfl rfl rfl (by kernel_rfl) (by simp [Value.oneCell']) rfl rfl) ?_ | refine wl_e0 (e_store1 (us := [_, _, _]) rfl rfl rfl (by kernel_rfl) (by simp [Value.oneCell']) rfl rfl) ?_ | refine wl_e0 (e_store2 (us := [_, _, _]) rfl rfl rfl (by kernel_rfl) (by simp [Value.oneCell']) rfl rfl) ?_ | refine wl_e0 (e_store3 (us := [_, _, _]) rfl rfl rfl (by kernel_rfl) (by simp [Value.oneCell']) rfl rfl) ?_)
        rintro _ _ w7_1 rfl
        refine wl_f (f_assign rfl) ?_
        refine wl_end [(6, _), (7, _)] ⟨rfl, rfl, trivial⟩ ?_
        refine w_pick [2, 1] rfl ?_
        refine w_ret ?_
        refine ⟨_, _, fun a ha hh => results_mix Tryz.results15 (rm_cell (cell_agg 0 rfl Tryz.underlying25 rfl (by kernel_rfl) rfl) (rm_tmp rfl rm_nil)) a ha _ hh, List.sublist_cons_self .., ?_⟩
        exact ⟨_, _, rfl, ⟨_, rfl⟩, .inl ⟨10, rfl, rfl, .inr ⟨o, s, A, B, hAt, .inr ⟨hx, .inl ⟨hxi, rfl⟩⟩⟩⟩⟩
      · skip
        have hxn := rplE_no hy (by omega)
        refine w_skip ?_
        refine w_seq ?_
        refine w_seq ?_
        refine w_reg ?_
        refine wl_f (f_move rfl) ?_
        refine wl_f (f_nilCheck rfl) ?_
        refine wl_f (f_fieldAddr 0 rfl Tryz.underlying50 rfl rfl (by kernel_rfl)) ?_
        refine wl_f (f_loadB 1 0 rfl rfl rfl Tryz.underlying3 rfl rfl) ?_
        refine wl_f (f_eql rfl rfl) ?_
        refine wl_end [(0, _), (1, _), (5, _), (6, _), (8, _), (36, _)] ⟨rfl, rfl, rfl, rfl, rfl, rfl, trivial⟩ ?_
        refine w_ifd rfl (fun h => absurd h (by decide)) (fun _ => ?_)
        refine w_seq ?_
        refine w_seq ?_
        refine w_post (fun m' H w' => ∃ bb : Bool, m' = [(0, .pointer (some ⟨q, 0, .none⟩)), (1, .string k), (5, .pointer (some ⟨b0_0, 0, .none⟩)), (6, .pointer (some ⟨b0_1, 0, .none⟩)), (8, .pointer (some ⟨b1_6, 0, .none⟩)), (85, .bool bb)] ∧ H = [blk b1_6 [.string k, .int .u64 (o : Int), .int .u64 (base : Int)] 25, bun (rts q 2 n (A ++ (k, o, s) :: B) LV base sum), blk b0_1 [.string ByteArray.empty, .int .u64 0, .int .u64 0] 25, blk b0_0 [.string x, .int .u64 (xo : Int), .int .u64 (xs : Int)] 25] ∧ (bb = true → xo = 0 ∨ o < xo ∨ base < xs) ∧ ((xo = 0 ∨ o < xo ∨ base < xs) → bb = true)) ?_ ?_
        · by_cases h1 : xo = 0
          · skip
            refine w_draw [(0, true), (1, true), (2, true), (3, true), (4, true), (5, true), (6, true), (7, true), (8, true), (9, true), (10, true), (11, true), (12, true), (13, true), (14, true), (15, true), (16, true), (17, true), (18, true)] (_) ([]) mixed (by kernel_rfl) (by kernel_rfl) rfl (perm_all _) (fun w13_ => ?_)
            refine wd_f rfl (f_fieldAddr 1 rfl Tryz.underlying25 rfl rfl (by kernel_rfl)) ?_
            refine wd_f rfl (f_loadb 3 rfl Tryz.underlying23 rfl rfl rfl) ?_
            refine wd_f rfl (f_eqv (v' := .bool true) (f_eql rfl rfl) (by rw [decide_eq_true (by omega)])) ?_
            refine wd_f rfl (f_move rfl) ?_
            refine wd_gs rfl rfl rfl ?_
            refine wd_gs rfl rfl rfl ?_
            refine wd_gs rfl rfl rfl ?_
            refine wd_gs rfl rfl rfl ?_
            refine wd_gs rfl rfl rfl ?_
            refine wd_f rfl (f_pick1 rfl rfl) ?_
            refine wd_f rfl (f_move rfl) ?_
            refine wd_gs rfl rfl rfl ?_
            refine wd_gs rfl rfl rfl ?_
            refine wd_gs rfl rfl rfl ?_
            refine wd_gs rfl rfl rfl ?_
            refine wd_gs rfl rfl rfl ?_
            refine wd_gs rfl rfl rfl ?_
            refine wd_gs rfl rfl rfl ?_
            refine wd_f rfl (f_pick1 rfl rfl) ?_
            refine wd_end [(0, _), (1, _), (5, _), (6, _), (8, _), (85, _)] ⟨rfl, rfl, rfl, rfl, rfl, rfl, trivial⟩ ?_
            exact ⟨true, rfl, rfl, fun _ => .inl h1, fun _ => rfl⟩
          · by_cases h2 : o < xo
            · skip
              refine w_draw [(0, true), (1, true), (2, true), (3, true), (4, true), (5, true), (6, true), (7, true), (8, true), (9, true), (10, true), (11, true), (12, true), (13, true), (14, true), (15, true), (16, true), (17, true), (18, true)] (_) ([]) mixed (by kernel_rfl) (by kernel_rfl) rfl (perm_all _) (fun w13_ => ?_)
              refine wd_f rfl (f_fieldAddr 1 rfl Tryz.underlying25 rfl rfl (by kernel_rfl)) ?_
              refine wd_f rfl (f_loadb 3 rfl Tryz.underlying23 rfl rfl rfl) ?_
              refine wd_f rfl (f_eqv (v' := .bool false) (f_eql rfl rfl) (by rw [decide_eq_false (by omega)])) ?_
              refine wd_f rfl (f_move rfl) ?_
              refine wd_gf rfl rfl rfl (f_fieldAddr 1 rfl Tryz.underlying25 rfl rfl (by kernel_rfl)) ?_
              refine wd_gf rfl rfl rfl (f_loadb 3 rfl Tryz.underlying23 rfl rfl rfl) ?_
              refine wd_gf rfl rfl rfl (f_fieldAddr 1 rfl Tryz.underlying25 rfl rfl (by kernel_rfl)) ?_
              refine wd_gf rfl rfl rfl (f_loadb 0 rfl Tryz.underlying23 rfl rfl rfl) ?_
              refine wd_gf rfl rfl rfl (f_eqv (v' := .bool true) (f_gtr rfl rfl) (by rw [decide_eq_true (by omega)])) ?_
              refine wd_f rfl (f_pick0 rfl rfl) ?_
              refine wd_f rfl (f_move rfl) ?_
              refine wd_gs rfl rfl rfl ?_
              refine wd_gs rfl rfl rfl ?_
              refine wd_gs rfl rfl rfl ?_
              refine wd_gs rfl rfl rfl ?_
              refine wd_gs rfl rfl rfl ?_
              refine wd_gs rfl rfl rfl ?_
              refine wd_gs rfl rfl rfl ?_
              refine wd_f rfl (f_pick1 rfl rfl) ?_
              refine wd_end [(0, _), (1, _), (5, _), (6, _), (8, _), (85, _)] ⟨rfl, rfl, rfl, rfl, rfl, rfl, trivial⟩ ?_
              exact ⟨true, rfl, rfl, fun _ => .inr (.inl h2), fun _ => rfl⟩
            · skip
              refine w_draw [(0, true), (1, true), (2, true), (3, true), (4, true), (5, true), (6, true), (7, true), (8, true), (9, true), (10, true), (11, true), (12, true), (13, true), (14, true), (15, true), (16, true), (17, true), (18, true)] (_) ([]) mixed (by kernel_rfl) (by kernel_rfl) rfl (perm_all _) (fun w13_ => ?_)
              refine wd_f rfl (f_fieldAddr 1 rfl Tryz.underlying25 rfl rfl (by kernel_rfl)) ?_
              refine wd_f rfl (f_loadb 3 rfl Tryz.underlying23 rfl rfl rfl) ?_
              refine wd_f rfl (f_eqv (v' := .bool false) (f_eql rfl rfl) (by rw [decide_eq_false (by omega)])) ?_
              refine wd_f rfl (f_move rfl) ?_
              refine wd_gf rfl rfl rfl (f_fieldAddr 1 rfl Tryz.underlying25 rfl rfl (by kernel_rfl)) ?_
              refine wd_gf rfl rfl rfl (f_loadb 3 rfl Tryz.underlying23 rfl rfl rfl) ?_
              refine wd_gf rfl rfl rfl (f_fieldAddr 1 rfl Tryz.underlying25 rfl rfl (by kernel_rfl)) ?_
              refine wd_gf rfl rfl rfl (f_loadb 0 rfl Tryz.underlying23 rfl rfl rfl) ?_
              refine wd_gf rfl rfl rfl (f_eqv (v' := .bool false) (f_gtr rfl rfl) (by rw [decide_eq_false (by omega)])) ?_
              refine wd_f rfl (f_pick0 rfl rfl) ?_
              refine wd_f rfl (f_move rfl) ?_
              refine wd_gf rfl rfl rfl (f_fieldAddr 2 rfl Tryz.underlying25 rfl rfl (by kernel_rfl)) ?_
              refine wd_gf rfl rfl rfl (f_loadb 3 rfl Tryz.underlying23 rfl rfl rfl) ?_
              refine wd_gf rfl rfl rfl (f_move rfl) ?_
              refine wd_gf rfl rfl rfl (f_nilCheck rfl) ?_
              refine wd_gf rfl rfl rfl (f_fieldAddr 3 rfl Tryz.underlying50 rfl rfl (by kernel_rfl)) ?_
              refine wd_gf rfl rfl rfl (f_loadB 1 0 rfl rfl rfl Tryz.underlying23 rfl rfl) ?_
              refine wd_gf rfl rfl rfl (f_gtr rfl rfl) ?_
              refine wd_f rfl (f_pick0 rfl rfl) ?_
              refine wd_end [(0, _), (1, _), (5, _), (6, _), (8, _), (85, _)] ⟨rfl, rfl, rfl, rfl, rfl, rfl, trivial⟩ ?_
              exact ⟨_, rfl, rfl, fun h => .inr (.inr (by have := of_decide_eq_true h; omega)), fun h => decide_eq_true (by omega)⟩
        rintro _ _ w13_ ⟨bb, rfl, rfl, hb1, hb2⟩
        refine w_ifb rfl (fun hc5 => ?_) (fun hc5 => ?_)
        · skip
          refine w_seq ?_
          refine w_reg ?_
          refine wl_f (f_build rfl build_entry0) ?_
          (first | refine wl_e0 (e_store0 (us := [_, _, _]) rfl rfl rfl (by kernel_rfl) (by simp [Value.oneCell']) rfl rfl) ?_ | refine wl_e0 (e_store1 (us := [_, _, _]) rfl rfl rfl (by kernel_rfl) (by simp [Value.oneCell']) rfl rfl) ?_ | refine wl_e0 (e_store2 (us := [_, _, _]) rfl rfl rfl (by kernel_rfl) (by simp [Value.oneCell']) rfl rfl) ?_ | refine wl_e0 (e_store3 (us := [_, _, _]) rfl rfl rfl (by kernel_rfl) (by simp [Value.oneCell']) rfl rfl) ?_)
          rintro _ _ w14_1 rfl
          refine wl_f (f_assign rfl) ?_
          refine wl_end [(6, _), (7, _)] ⟨rfl, rfl, trivial⟩ ?_
          refine w_pick [2, 1] rfl ?_
          refine w_ret ?_
          refine ⟨_, _, fun a ha hh => results_mix Tryz.results15 (rm_cell (cell_agg 0 rfl Tryz.underlying25 rfl (by kernel_rfl) rfl) (rm_tmp rfl rm_nil)) a ha _ hh, List.sublist_cons_self .., ?_⟩
          exact ⟨_, _, rfl, ⟨_, rfl⟩, .inl ⟨1, rfl, rfl, .inr ⟨o, s, A, B, hAt, .inr ⟨hx, .inr ⟨hxn, hb1 hc5, rfl⟩⟩⟩⟩⟩
        · skip
          have hnb : ¬ (xo = 0 ∨ o < xo ∨ base < xs) := fun h => hc5 (hb2 h)
          refine w_skip ?_
          refine w_reg ?_
          refine wl_f (f_fieldAddr 2 rfl Tryz.underlying25 rfl rfl (by kernel_rfl)) ?_
          (first | refine wl_e0 (e_store0 (us := [_]) rfl rfl rfl (by kernel_rfl) (by simp [Value.oneCell']) rfl rfl) ?_ | refine wl_e0 (e_store1 (us := [_]) rfl rfl rfl (by kernel_rfl) (by simp [Value.oneCell']) rfl rfl) ?_ | refine wl_e0 (e_store2 (us := [_]) rfl rfl rfl (by kernel_rfl) (by simp [Value.oneCell']) rfl rfl) ?_ | refine wl_e0 (e_store3 (us := [_]) rfl rfl rfl (by kernel_rfl) (by simp [Value.oneCell']) rfl rfl) ?_)
          rintro _ _ w15_1 rfl
          refine wl_end [(0, _), (1, _), (5, _), (6, _), (8, _)] ⟨rfl, rfl, rfl, rfl, rfl, trivial⟩ ?_
          refine w_seq ?_
          refine w_pick [1, 0, 0, 0] rfl ?_
          refine w_with fun hh => ?_
          obtain ⟨g, cap, e⟩ := rowB_form hh (i := 0) (j := 1) rfl rfl (by simp; omega)
          subst e
          clear hh
          refine w_unb [_, _] ?_
          have hAB : (A ++ B).length ≤ 64 := by
            simp only [List.length_append, List.length_cons] at hl ⊢
            omega
          refine w_post (fun m H w' => ∃ (U : Value), m = [(6, .pointer (some ⟨b0_1, 0, .none⟩)), (8, .pointer (some ⟨b1_6, 0, .none⟩))] ∧ H = rts q 2 n (A ++ B ++ [(x, xo, 0)]) U base sum ++ [blk b1_6 [.string k, .int .u64 (o : Int), .int .u64 (base : Int)] 25, blk b0_1 [.string ByteArray.empty, .int .u64 0, .int .u64 0] 25]) ?_ ?_
          · skip
            refine w_drawx (.fl 0 (.fl 1 (.fl 2 (.fl 3 (.fl 4 (.fl 5 (.fl 6 (.fl 7 (.fl 8 (.fl 9 (.fl 12 (.two 10 (.two 11 (.ef 13 (.ef 14 (.fl 15 (.fl 16 (.ef 17 .done))))) 13 (.ef 11 (.ef 14 (.fl 15 (.fl 16 (.ef 17 .done)))))) 13 (.ef 10 (.ef 11 (.ef 14 (.fl 15 (.fl 16 (.ef 17 .done)))))))))))))))))) ([(_, some 17), (_, none), (_, none), (_, none), (_, none)]) ([]) mixed (by kernel_rfl) (by kernel_rfl) rfl rfl (List.Perm.refl _) (fun w16_ => ?_)
            refine wx_f rfl (f_move rfl) ?_
            refine wx_f rfl (f_move rfl) ?_
            refine wx_f rfl (f_nilCheck rfl) ?_
            refine wx_f rfl (f_fieldAddr 2 rfl Tryz.underlying50 rfl rfl (by kernel_rfl)) ?_
            (first | refine wx_f rfl (f_loadb 0 rfl Tryz.underlying45 rfl rfl rfl) ?_ | refine wx_f rfl (f_loadb 1 rfl Tryz.underlying45 rfl rfl rfl) ?_ | refine wx_f rfl (f_loadb 2 rfl Tryz.underlying45 rfl rfl rfl) ?_ | refine wx_f rfl (f_loadb 3 rfl Tryz.underlying45 rfl rfl rfl) ?_ | refine wx_f rfl (f_loadb 4 rfl Tryz.underlying45 rfl rfl rfl) ?_ | refine wx_f rfl (f_loadb 5 rfl Tryz.underlying45 rfl rfl rfl) ?_ | refine wx_f rfl (f_loadb 6 rfl Tryz.underlying45 rfl rfl rfl) ?_)
            refine wx_f rfl (f_move rfl) ?_
            refine wx_f rfl (f_nilCheck rfl) ?_
            refine wx_f rfl (f_fieldAddr 2 rfl Tryz.underlying50 rfl rfl (by kernel_rfl)) ?_
            (first | refine wx_f rfl (f_loadb 0 rfl Tryz.underlying45 rfl rfl rfl) ?_ | refine wx_f rfl (f_loadb 1 rfl Tryz.underlying45 rfl rfl rfl) ?_ | refine wx_f rfl (f_loadb 2 rfl Tryz.underlying45 rfl rfl rfl) ?_ | refine wx_f rfl (f_loadb 3 rfl Tryz.underlying45 rfl rfl rfl) ?_ | refine wx_f rfl (f_loadb 4 rfl Tryz.underlying45 rfl rfl rfl) ?_ | refine wx_f rfl (f_loadb 5 rfl Tryz.underlying45 rfl rfl rfl) ?_ | refine wx_f rfl (f_loadb 6 rfl Tryz.underlying45 rfl rfl rfl) ?_)
            refine wx_f rfl (f_move rfl) ?_
            (first | refine wx_f rfl (f_loadsb (cs := [_, _, _]) 0 rfl Tryz.underlying25 rfl (by kernel_rfl) rfl rfl) ?_ | refine wx_f rfl (f_loadsb (cs := [_, _, _]) 1 rfl Tryz.underlying25 rfl (by kernel_rfl) rfl rfl) ?_ | refine wx_f rfl (f_loadsb (cs := [_, _, _]) 2 rfl Tryz.underlying25 rfl (by kernel_rfl) rfl rfl) ?_ | refine wx_f rfl (f_loadsb (cs := [_, _, _]) 3 rfl Tryz.underlying25 rfl (by kernel_rfl) rfl rfl) ?_ | refine wx_f rfl (f_loadsb (cs := [_, _, _]) 4 rfl Tryz.underlying25 rfl (by kernel_rfl) rfl rfl) ?_ | refine wx_f rfl (f_loadsb (cs := [_, _, _]) 5 rfl Tryz.underlying25 rfl (by kernel_rfl) rfl rfl) ?_ | refine wx_f rfl (f_loadsb (cs := [_, _, _]) 6 rfl Tryz.underlying25 rfl (by kernel_rfl) rfl rfl) ?_)
            refine wx_two ?_ ?_
            · skip
              refine ks_e rfl (e_call0 rfl Tryz.func36 (by kernel_rfl) (fun w hh => rplace_spec _ _ k w (Rd.held0 hh (i := 1) rfl) (by omega))) ?_
              rintro _ _ w16_10 ⟨_, rfl, rfl, y2, rfl, hy2⟩
              obtain rfl : y2 = (A.length : Nat) := rplE_uniq hA hy2
              refine ⟨_, List.Perm.refl _, ?_⟩
              refine wx_two ?_ ?_
              · skip
                refine ks_e rfl (e_call0 rfl Tryz.func37 (by kernel_rfl) (fun w hh => rwithout_spec _ _ A B (k, o, s) w (Rd.held0 hh (i := 1) rfl) (by omega))) ?_
                rintro _ _ w16_11 ⟨_, rfl, U1, a1, rfl, rfl⟩
                refine ⟨_, List.perm_append_comm_assoc _ _ _, ?_⟩
                refine wx_ef ?_
                refine ks_e rfl (e_lit1 (cs := [_, _, _]) t45 rfl rfl rfl (by omega)) ?_
                rintro _ _ w16_13 ⟨b16_13, rfl, rfl⟩
                refine ⟨_, List.perm_middle.symm, ?_⟩
                refine wx_ef ?_
                refine ks_e rfl (e_appN 6 t45 rfl rfl rfl (fun w hh => Rd.held0 hh (i := 5) rfl) (by simp [Value.oneCell']) (by omega) (by omega)) ?_
                rintro _ _ w16_14 ⟨⟨U2, a2, rfl⟩, rfl⟩
                refine ⟨_, List.Perm.refl _, ?_⟩
                refine wx_f rfl (f_nilCheck rfl) ?_
                refine wx_f rfl (f_fieldAddr 2 rfl Tryz.underlying50 rfl rfl (by kernel_rfl)) ?_
                refine wx_ef ?_
                refine ks_e0 rfl (e_storeN 0 (us := [_]) rfl rfl rfl rfl (by kernel_rfl) (by simp [Value.oneCell']) rfl rfl) ?_
                rintro _ _ w16_17 rfl
                refine ⟨_, pick_perm [1, 1, 1, 1] _ rfl, ?_⟩
                refine wx_endp [(6, _), (8, _)] [4, 5, 1, 1] ⟨rfl, rfl, trivial⟩ rfl ?_
                refine ⟨.slice U2 ((A ++ B).length + 1) a2, rfl, ?_⟩
                rw [rts, encs_snoc, List.length_append (bs := [(x, xo, 0)])]
                rfl
              · skip
                refine ks_e rfl (e_lit1 (cs := [_, _, _]) t45 rfl rfl rfl (by omega)) ?_
                rintro _ _ w16_13 ⟨b16_13, rfl, rfl⟩
                refine ⟨_, List.perm_middle.symm, ?_⟩
                refine wx_ef ?_
                refine ks_e rfl (e_call0 rfl Tryz.func37 (by kernel_rfl) (fun w hh => rwithout_spec _ _ A B (k, o, s) w (Rd.held0 hh (i := 1) rfl) (by omega))) ?_
                rintro _ _ w16_11 ⟨_, rfl, U1, a1, rfl, rfl⟩
                refine ⟨_, List.perm_append_comm_assoc _ _ _, ?_⟩
                refine wx_ef ?_
                refine ks_e rfl (e_appN 5 t45 rfl rfl rfl (fun w hh => Rd.held0 hh (i := 6) rfl) (by simp [Value.oneCell']) (by omega) (by omega)) ?_
                rintro _ _ w16_14 ⟨⟨U2, a2, rfl⟩, rfl⟩
                refine ⟨_, List.Perm.refl _, ?_⟩
                refine wx_f rfl (f_nilCheck rfl) ?_
                refine wx_f rfl (f_fieldAddr 2 rfl Tryz.underlying50 rfl rfl (by kernel_rfl)) ?_
                refine wx_ef ?_
                refine ks_e0 rfl (e_storeN 0 (us := [_]) rfl rfl rfl rfl (by kernel_rfl) (by simp [Value.oneCell']) rfl rfl) ?_
                rintro _ _ w16_17 rfl
                refine ⟨_, pick_perm [1, 1, 1, 1] _ rfl, ?_⟩
                refine wx_endp [(6, _), (8, _)] [4, 4, 1, 1] ⟨rfl, rfl, trivial⟩ rfl ?_
                refine ⟨.slice U2 ((A ++ B).length + 1) a2, rfl, ?_⟩
                rw [rts, encs_snoc, List.length_append (bs := [(x, xo, 0)])]
                rfl
            · skip
              refine ks_e rfl (e_lit1 (cs := [_, _, _]) t45 rfl rfl rfl (by omega)) ?_
              rintro _ _ w16_13 ⟨b16_13, rfl, rfl⟩
              refine ⟨_, List.perm_middle.symm, ?_⟩
              refine wx_ef ?_
              refine ks_e rfl (e_call0 rfl Tryz.func36 (by kernel_rfl) (fun w hh => rplace_spec _ _ k w (Rd.held0 hh (i := 1) rfl) (by omega))) ?_
              rintro _ _ w16_10 ⟨_, rfl, rfl, y2, rfl, hy2⟩
              obtain rfl : y2 = (A.length : Nat) := rplE_uniq hA hy2
              refine ⟨_, List.Perm.refl _, ?_⟩
              refine wx_ef ?_
              refine ks_e rfl (e_call0 rfl Tryz.func37 (by kernel_rfl) (fun w hh => rwithout_spec _ _ A B (k, o, s) w (Rd.held0 hh (i := 1) rfl) (by omega))) ?_
              rintro _ _ w16_11 ⟨_, rfl, U1, a1, rfl, rfl⟩
              refine ⟨_, List.perm_append_comm_assoc _ _ _, ?_⟩
              refine wx_ef ?_
              refine ks_e rfl (e_appN 5 t45 rfl rfl rfl (fun w hh => Rd.held0 hh (i := 6) rfl) (by simp [Value.oneCell']) (by omega) (by omega)) ?_
              rintro _ _ w16_14 ⟨⟨U2, a2, rfl⟩, rfl⟩
              refine ⟨_, List.Perm.refl _, ?_⟩
              refine wx_f rfl (f_nilCheck rfl) ?_
              refine wx_f rfl (f_fieldAddr 2 rfl Tryz.underlying50 rfl rfl (by kernel_rfl)) ?_
              refine wx_ef ?_
              refine ks_e0 rfl (e_storeN 0 (us := [_]) rfl rfl rfl rfl (by kernel_rfl) (by simp [Value.oneCell']) rfl rfl) ?_
              rintro _ _ w16_17 rfl
              refine ⟨_, pick_perm [1, 1, 1, 1] _ rfl, ?_⟩
              refine wx_endp [(6, _), (8, _)] [4, 4, 1, 1] ⟨rfl, rfl, trivial⟩ rfl ?_
              refine ⟨.slice U2 ((A ++ B).length + 1) a2, rfl, ?_⟩
              rw [rts, encs_snoc, List.length_append (bs := [(x, xo, 0)])]
              rfl
          rintro _ _ w16_ ⟨U, rfl, rfl⟩
          refine w_seq ?_
          refine w_reg ?_
          (first | refine wl_f (f_loadsb (cs := [_, _, _]) 0 rfl Tryz.underlying25 rfl (by kernel_rfl) rfl rfl) ?_ | refine wl_f (f_loadsb (cs := [_, _, _]) 1 rfl Tryz.underlying25 rfl (by kernel_rfl) rfl rfl) ?_ | refine wl_f (f_loadsb (cs := [_, _, _]) 2 rfl Tryz.underlying25 rfl (by kernel_rfl) rfl rfl) ?_ | refine wl_f (f_loadsb (cs := [_, _, _]) 3 rfl Tryz.underlying25 rfl (by kernel_rfl) rfl rfl) ?_ | refine wl_f (f_loadsb (cs := [_, _, _]) 4 rfl Tryz.underlying25 rfl (by kernel_rfl) rfl rfl) ?_ | refine wl_f (f_loadsb (cs := [_, _, _]) 5 rfl Tryz.underlying25 rfl (by kernel_rfl) rfl rfl) ?_ | refine wl_f (f_loadsb (cs := [_, _, _]) 6 rfl Tryz.underlying25 rfl (by kernel_rfl) rfl rfl) ?_)
          (first | refine wl_e0 (e_store0 (us := [_, _, _]) rfl rfl rfl (by kernel_rfl) (by simp [Value.oneCell']) rfl rfl) ?_ | refine wl_e0 (e_store1 (us := [_, _, _]) rfl rfl rfl (by kernel_rfl) (by simp [Value.oneCell']) rfl rfl) ?_ | refine wl_e0 (e_store2 (us := [_, _, _]) rfl rfl rfl (by kernel_rfl) (by simp [Value.oneCell']) rfl rfl) ?_ | refine wl_e0 (e_store3 (us := [_, _, _]) rfl rfl rfl (by kernel_rfl) (by simp [Value.oneCell']) rfl rfl) ?_)
          rintro _ _ w17_1 rfl
          refine wl_f (f_assign rfl) ?_
          refine wl_end [(6, _), (7, _)] ⟨rfl, rfl, trivial⟩ ?_
          refine w_bun (H := [_, _]) [_, _] ?_
          refine w_pick [2, 0] rfl ?_
          refine w_ret ?_
          refine ⟨_, _, fun a ha hh => results_mix Tryz.results15 (rm_cell (cell_agg 0 rfl Tryz.underlying25 rfl (by kernel_rfl) rfl) (rm_tmp rfl rm_nil)) a ha _ hh, List.sublist_cons_self .., ?_⟩
          exact ⟨_, _, rfl, ⟨_, rfl⟩, .inr ⟨o, s, A, B, hAt, hx, hxn, hnb, rfl, rfl⟩⟩
end Go.Proofs.YtbcfdgnpdaaleaaGreat

/- The reference's tables in the mode Saving: adding, exchanging. -/
namespace Go.Proofs.YtbcfdgnpdaaleaaGreat
open Go.RowKit

set_option maxHeartbeats 8000000 in
theorem rsadd_spec (q n : Nat) (l : List En) (base sum : Nat) (r : Res) (k : ByteArray) (v : Nat) (w : World) (hn : n ≤ 64) (hl : l.length ≤ n) (hn1 : 1 ≤ n) (hb : base ≤ sum) (hsm : sum ≤ 9223372036854775808) (hls : ∀ x ∈ l, x.2.1 + x.2.2 ≤ sum) (hr : RtR q 1 n l base sum r) (hs : Holds w r.foot [r] w) :
    Spec Tryz.prog 10 [.pointer (some ⟨q, 0, .none⟩), .string k, .int .u64 (v : Int)] w r.foot fun u H => ∃ (e : Int) (l' : List En) (base' sum' : Nat) (r' : Res), u = .int .i64 e ∧ H = [r'] ∧ RtR q 1 n l' base' sum' r' ∧ RsAddG n l base sum k v e l' base' sum' := by
  obtain ⟨LV, rfl⟩ := hr
  refine enter (n := 162) Tryz.func10 rfl rfl [(0, _), (1, _), (2, _)] rfl ⟨rfl, rfl, rfl, trivial⟩ hs ?_
  refine w_with fun hh => ?_
  obtain ⟨L, cl, rfl⟩ := rowB_slice hh (i := 0) (j := 1) rfl rfl
  clear hh
  refine w_unb (H := []) (rts q 1 n l (.slice L l.length cl) base sum) ?_
  refine w_seq ?_
  refine w_reg ?_
  refine wl_f (f_assign rfl) ?_
  refine wl_end [(0, _), (1, _), (2, _)] ⟨rfl, rfl, rfl, trivial⟩ ?_
  refine w_seq ?_
  refine w_seq ?_
  refine w_reg ?_
  refine wl_f (f_move rfl) ?_
  refine wl_f (f_eqls rfl rfl) ?_
  refine wl_end [(0, _), (1, _), (2, _), (13, _)] ⟨rfl, rfl, rfl, rfl, trivial⟩ ?_
  refine w_ifd rfl (fun hc1 => ?_) (fun hc1 => ?_)
  · skip
    have hk : k = ByteArray.empty := hc1
    refine w_seq ?_
    refine w_reg ?_
    refine wl_f (f_assign rfl) ?_
    refine wl_end [(6, _)] ⟨rfl, trivial⟩ ?_
    refine w_bun (H := []) [_, _] ?_
    refine w_ret ?_
    refine ⟨_, _, fun a ha hh => results_tmps Tryz.results10 rfl a ha _, List.Sublist.refl _, ?_⟩
    exact ⟨3, l, base, sum, _, rfl, rfl, ⟨_, rfl⟩, .inl ⟨by decide, rfl, rfl, rfl, .inl ⟨hk, rfl⟩⟩⟩
  · skip
    have hk : k ≠ ByteArray.empty := hc1
    refine w_skip ?_
    refine w_seq ?_
    refine w_seq ?_
    refine w_reg ?_
    refine wl_f (f_move rfl) ?_
    refine wl_f (f_eql rfl rfl) ?_
    refine wl_end [(0, _), (1, _), (2, _), (15, _)] ⟨rfl, rfl, rfl, rfl, trivial⟩ ?_
    refine w_ifd rfl (fun hc2 => ?_) (fun hc2 => ?_)
    · skip
      have hv0 : v = 0 := by
        have : (v : Int) = 0 := hc2
        omega
      refine w_seq ?_
      refine w_reg ?_
      refine wl_f (f_assign rfl) ?_
      refine wl_end [(6, _)] ⟨rfl, trivial⟩ ?_
      refine w_bun (H := []) [_, _] ?_
      refine w_ret ?_
      refine ⟨_, _, fun a ha hh => results_tmps Tryz.results10 rfl a ha _, List.Sublist.refl _, ?_⟩
      exact ⟨1, l, base, sum, _, rfl, rfl, ⟨_, rfl⟩, .inl ⟨by decide, rfl, rfl, rfl, .inr (.inl ⟨hk, hv0, rfl⟩)⟩⟩
    · skip
      have hv0 : v ≠ 0 := fun h => hc2 (by rw [h]; rfl)
      refine w_skip ?_
      refine w_seq ?_
      refine w_seq ?_
      refine w_reg ?_
      refine wl_f (f_move rfl) ?_
      refine wl_f (f_nilCheck rfl) ?_
      refine wl_f (f_fieldAddr 4 rfl Tryz.underlying50 rfl rfl (by kernel_rfl)) ?_
      (first | refine wl_f (f_loadb 0 rfl Tryz.underlying23 rfl rfl rfl) ?_ | refine wl_f (f_loadb 1 rfl Tryz.underlying23 rfl rfl rfl) ?_ | refine wl_f (f_loadb 2 rfl Tryz.underlying23 rfl rfl rfl) ?_ | refine wl_f (f_loadb 3 rfl Tryz.underlying23 rfl rfl rfl) ?_ | refine wl_f (f_loadb 4 rfl Tryz.underlying23 rfl rfl rfl) ?_ | refine wl_f (f_loadb 5 rfl Tryz.underlying23 rfl rfl rfl) ?_ | refine wl_f (f_loadb 6 rfl Tryz.underlying23 rfl rfl rfl) ?_)
      refine wl_f (f_move rfl) ?_
      refine wl_e (e_call0 rfl Tryz.func35 (by kernel_rfl) (fun w hh => rfits_spec sum v w)) ?_
      rintro _ _ w1 ⟨_, rfl, rfl, rfl⟩
      refine wl_f (f_not rfl rfl) ?_
      refine wl_end [(0, _), (1, _), (2, _), (22, _)] ⟨rfl, rfl, rfl, rfl, trivial⟩ ?_
      refine w_ifb rfl (fun hc3 => ?_) (fun hc3 => ?_)
      · skip
        have hov : 9223372036854775808 < sum + v := by
          refine Classical.byContradiction fun h => ?_
          rw [decide_eq_true (show sum + v ≤ 9223372036854775808 by omega)] at hc3
          cases hc3
        refine w_seq ?_
        refine w_reg ?_
        refine wl_f (f_assign rfl) ?_
        refine wl_end [(6, _)] ⟨rfl, trivial⟩ ?_
        refine w_bun (H := []) [_, _] ?_
        refine w_ret ?_
        refine ⟨_, _, fun a ha hh => results_tmps Tryz.results10 rfl a ha _, List.Sublist.refl _, ?_⟩
        exact ⟨12, l, base, sum, _, rfl, rfl, ⟨_, rfl⟩, .inl ⟨by decide, rfl, rfl, rfl, .inr (.inr ⟨hk, hv0, hov, rfl⟩)⟩⟩
      · skip
        have hov : sum + v ≤ 9223372036854775808 := by
          refine Classical.byContradiction fun h => hc3 ?_
          rw [decide_eq_false h]
          rfl
        refine w_skip ?_
        refine w_seq ?_
        refine w_reg ?_
        refine wl_f (f_move rfl) ?_
        refine wl_f (f_nilCheck rfl) ?_
        refine wl_f (f_fieldAddr 4 rfl Tryz.underlying50 rfl rfl (by kernel_rfl)) ?_
        (first | refine wl_f (f_loadb 0 rfl Tryz.underlying23 rfl rfl rfl) ?_ | refine wl_f (f_loadb 1 rfl Tryz.underlying23 rfl rfl rfl) ?_ | refine wl_f (f_loadb 2 rfl Tryz.underlying23 rfl rfl rfl) ?_ | refine wl_f (f_loadb 3 rfl Tryz.underlying23 rfl rfl rfl) ?_ | refine wl_f (f_loadb 4 rfl Tryz.underlying23 rfl rfl rfl) ?_ | refine wl_f (f_loadb 5 rfl Tryz.underlying23 rfl rfl rfl) ?_ | refine wl_f (f_loadb 6 rfl Tryz.underlying23 rfl rfl rfl) ?_)
        refine wl_f (f_move rfl) ?_
        refine wl_f (f_eqv (v' := .int .u64 ((sum + v : Nat) : Int)) (f_addu rfl rfl (by omega)) (by rw [Int.natCast_add])) ?_
        refine wl_f (f_nilCheck rfl) ?_
        refine wl_f (f_fieldAddr 4 rfl Tryz.underlying50 rfl rfl (by kernel_rfl)) ?_
        (first | refine wl_e0 (e_store0 (us := [_]) rfl rfl rfl (by kernel_rfl) (by simp [Value.oneCell']) rfl rfl) ?_ | refine wl_e0 (e_store1 (us := [_]) rfl rfl rfl (by kernel_rfl) (by simp [Value.oneCell']) rfl rfl) ?_ | refine wl_e0 (e_store2 (us := [_]) rfl rfl rfl (by kernel_rfl) (by simp [Value.oneCell']) rfl rfl) ?_ | refine wl_e0 (e_store3 (us := [_]) rfl rfl rfl (by kernel_rfl) (by simp [Value.oneCell']) rfl rfl) ?_)
        rintro _ _ w7_8 rfl
        refine wl_end [(0, _), (1, _), (2, _)] ⟨rfl, rfl, rfl, trivial⟩ ?_
        refine w_seq ?_
        refine w_seq ?_
        refine w_reg ?_
        refine wl_f (f_move rfl) ?_
        refine wl_f (f_nilCheck rfl) ?_
        refine wl_f (f_fieldAddr 2 rfl Tryz.underlying50 rfl rfl (by kernel_rfl)) ?_
        (first | refine wl_f (f_loadb 0 rfl Tryz.underlying45 rfl rfl rfl) ?_ | refine wl_f (f_loadb 1 rfl Tryz.underlying45 rfl rfl rfl) ?_ | refine wl_f (f_loadb 2 rfl Tryz.underlying45 rfl rfl rfl) ?_ | refine wl_f (f_loadb 3 rfl Tryz.underlying45 rfl rfl rfl) ?_ | refine wl_f (f_loadb 4 rfl Tryz.underlying45 rfl rfl rfl) ?_ | refine wl_f (f_loadb 5 rfl Tryz.underlying45 rfl rfl rfl) ?_ | refine wl_f (f_loadb 6 rfl Tryz.underlying45 rfl rfl rfl) ?_)
        refine wl_f (f_move rfl) ?_
        refine wl_e (e_call0 rfl Tryz.func36 (by kernel_rfl) (fun w hh => rplace_spec _ l k w (Rd.held0 hh (i := 1) rfl) (by omega))) ?_
        rintro _ _ w2 ⟨_, rfl, rfl, y, rfl, hy⟩
        refine wl_f (f_assign rfl) ?_
        refine wl_end [(0, _), (1, _), (2, _), (7, _)] ⟨rfl, rfl, rfl, rfl, trivial⟩ ?_
        refine w_seq ?_
        refine w_reg ?_
        refine wl_f (f_move rfl) ?_
        refine wl_f (f_geq rfl rfl) ?_
        refine wl_end [(0, _), (1, _), (2, _), (7, _), (38, _)] ⟨rfl, rfl, rfl, rfl, rfl, trivial⟩ ?_
        refine w_ifd rfl (fun hc4 => ?_) (fun hc4 => ?_)
        · skip
          obtain ⟨A, o, s, B, rfl, hA, rfl⟩ := rplE_at hy (by omega)
          have hAl : A.length < (A ++ (k, o, s) :: B).length := by simp
          have hAB : (A ++ B).length ≤ 64 := by
            simp only [List.length_append, List.length_cons] at hl ⊢
            omega
          have hos := hls (k, o, s) (by simp)
          have hos' : o + s ≤ sum := hos
          refine w_with fun hh => ?_
          obtain ⟨g, cap, e⟩ := row_form hh (i := 1) rfl (by omega)
          injection e with e1 _ e3
          subst e1; subst e3
          clear hh
          refine w_seq ?_
          refine w_reg ?_
          refine wl_f (f_move rfl) ?_
          refine wl_f (f_nilCheck rfl) ?_
          refine wl_f (f_fieldAddr 2 rfl Tryz.underlying50 rfl rfl (by kernel_rfl)) ?_
          (first | refine wl_f (f_loadb 0 rfl Tryz.underlying45 rfl rfl rfl) ?_ | refine wl_f (f_loadb 1 rfl Tryz.underlying45 rfl rfl rfl) ?_ | refine wl_f (f_loadb 2 rfl Tryz.underlying45 rfl rfl rfl) ?_ | refine wl_f (f_loadb 3 rfl Tryz.underlying45 rfl rfl rfl) ?_ | refine wl_f (f_loadb 4 rfl Tryz.underlying45 rfl rfl rfl) ?_ | refine wl_f (f_loadb 5 rfl Tryz.underlying45 rfl rfl rfl) ?_ | refine wl_f (f_loadb 6 rfl Tryz.underlying45 rfl rfl rfl) ?_)
          refine wl_f (f_move rfl) ?_
          refine wl_f (f_indexAddr 3 (i := A.length) rfl rfl Tryz.underlying45 (by kernel_rfl) rfl hAl) ?_
          refine wl_f (f_loadsr (cs := ecell (some (k, o, s))) 1 rfl Tryz.underlying25 rfl (by kernel_rfl) rfl (encs_get encs_loc)) ?_
          refine wl_e (e_allocs [.string ByteArray.empty, .int .u64 0, .int .u64 0] (by kernel_rfl)) ?_
          rintro _ _ w10_7 ⟨b10_7, rfl, rfl⟩
          (first | refine wl_e0 (e_store0 (us := [_, _, _]) rfl rfl rfl (by kernel_rfl) (by simp [Value.oneCell']) rfl rfl) ?_ | refine wl_e0 (e_store1 (us := [_, _, _]) rfl rfl rfl (by kernel_rfl) (by simp [Value.oneCell']) rfl rfl) ?_ | refine wl_e0 (e_store2 (us := [_, _, _]) rfl rfl rfl (by kernel_rfl) (by simp [Value.oneCell']) rfl rfl) ?_ | refine wl_e0 (e_store3 (us := [_, _, _]) rfl rfl rfl (by kernel_rfl) (by simp [Value.oneCell']) rfl rfl) ?_)
          rintro _ _ w10_8 rfl
          refine wl_end [(0, _), (2, _), (7, _), (8, _)] ⟨rfl, rfl, rfl, rfl, trivial⟩ ?_
          refine w_seq ?_
          refine w_reg ?_
          refine wl_f (f_fieldAddr 1 rfl Tryz.underlying25 rfl rfl (by kernel_rfl)) ?_
          (first | refine wl_f (f_loadb 0 rfl Tryz.underlying23 rfl rfl rfl) ?_ | refine wl_f (f_loadb 1 rfl Tryz.underlying23 rfl rfl rfl) ?_ | refine wl_f (f_loadb 2 rfl Tryz.underlying23 rfl rfl rfl) ?_ | refine wl_f (f_loadb 3 rfl Tryz.underlying23 rfl rfl rfl) ?_ | refine wl_f (f_loadb 4 rfl Tryz.underlying23 rfl rfl rfl) ?_ | refine wl_f (f_loadb 5 rfl Tryz.underlying23 rfl rfl rfl) ?_ | refine wl_f (f_loadb 6 rfl Tryz.underlying23 rfl rfl rfl) ?_)
          refine wl_f (f_move rfl) ?_
          refine wl_f (f_eqv (v' := .int .u64 ((o + v : Nat) : Int)) (f_addu rfl rfl (by omega)) (by rw [Int.natCast_add])) ?_
          refine wl_f (f_fieldAddr 1 rfl Tryz.underlying25 rfl rfl (by kernel_rfl)) ?_
          (first | refine wl_e0 (e_store0 (us := [_]) rfl rfl rfl (by kernel_rfl) (by simp [Value.oneCell']) rfl rfl) ?_ | refine wl_e0 (e_store1 (us := [_]) rfl rfl rfl (by kernel_rfl) (by simp [Value.oneCell']) rfl rfl) ?_ | refine wl_e0 (e_store2 (us := [_]) rfl rfl rfl (by kernel_rfl) (by simp [Value.oneCell']) rfl rfl) ?_ | refine wl_e0 (e_store3 (us := [_]) rfl rfl rfl (by kernel_rfl) (by simp [Value.oneCell']) rfl rfl) ?_)
          rintro _ _ w11_5 rfl
          refine wl_end [(0, _), (7, _), (8, _)] ⟨rfl, rfl, rfl, trivial⟩ ?_
          refine w_seq ?_
          refine w_post (fun m H w' => ∃ (U : Value), m = [] ∧ H = rts q 1 n (A ++ B ++ [(k, o + v, s)]) U base (sum + v)) ?_ ?_
          · skip
            refine w_drawx (.fl 0 (.fl 1 (.fl 2 (.fl 3 (.fl 4 (.fl 5 (.fl 7 (.two 6 (.ef 8 (.ef 9 (.fl 10 (.fl 11 (.ef 12 .done))))) 8 (.ef 6 (.ef 9 (.fl 10 (.fl 11 (.ef 12 .done))))))))))))) ([(_, none), (_, some 12), (_, none)]) ([]) mixed (by kernel_rfl) (by kernel_rfl) rfl rfl (List.Perm.refl _) (fun w12_ => ?_)
            refine wx_f rfl (f_move rfl) ?_
            refine wx_f rfl (f_move rfl) ?_
            refine wx_f rfl (f_nilCheck rfl) ?_
            refine wx_f rfl (f_fieldAddr 2 rfl Tryz.underlying50 rfl rfl (by kernel_rfl)) ?_
            (first | refine wx_f rfl (f_loadb 0 rfl Tryz.underlying45 rfl rfl rfl) ?_ | refine wx_f rfl (f_loadb 1 rfl Tryz.underlying45 rfl rfl rfl) ?_ | refine wx_f rfl (f_loadb 2 rfl Tryz.underlying45 rfl rfl rfl) ?_ | refine wx_f rfl (f_loadb 3 rfl Tryz.underlying45 rfl rfl rfl) ?_ | refine wx_f rfl (f_loadb 4 rfl Tryz.underlying45 rfl rfl rfl) ?_ | refine wx_f rfl (f_loadb 5 rfl Tryz.underlying45 rfl rfl rfl) ?_ | refine wx_f rfl (f_loadb 6 rfl Tryz.underlying45 rfl rfl rfl) ?_)
            refine wx_f rfl (f_move rfl) ?_
            (first | refine wx_f rfl (f_loadsb (cs := [_, _, _]) 0 rfl Tryz.underlying25 rfl (by kernel_rfl) rfl rfl) ?_ | refine wx_f rfl (f_loadsb (cs := [_, _, _]) 1 rfl Tryz.underlying25 rfl (by kernel_rfl) rfl rfl) ?_ | refine wx_f rfl (f_loadsb (cs := [_, _, _]) 2 rfl Tryz.underlying25 rfl (by kernel_rfl) rfl rfl) ?_ | refine wx_f rfl (f_loadsb (cs := [_, _, _]) 3 rfl Tryz.underlying25 rfl (by kernel_rfl) rfl rfl) ?_ | refine wx_f rfl (f_loadsb (cs := [_, _, _]) 4 rfl Tryz.underlying25 rfl (by kernel_rfl) rfl rfl) ?_ | refine wx_f rfl (f_loadsb (cs := [_, _, _]) 5 rfl Tryz.underlying25 rfl (by kernel_rfl) rfl rfl) ?_ | refine wx_f rfl (f_loadsb (cs := [_, _, _]) 6 rfl Tryz.underlying25 rfl (by kernel_rfl) rfl rfl) ?_)
            refine wx_two ?_ ?_
            · skip
              refine ks_e rfl (e_call0 rfl Tryz.func37 (by kernel_rfl) (fun w hh => rwithout_spec _ _ A B (k, o, s) w (Rd.held0 hh (i := 2) rfl) (by omega))) ?_
              rintro _ _ w12_6 ⟨_, rfl, U1, a1, rfl, rfl⟩
              refine ⟨_, List.perm_append_comm_assoc _ _ _, ?_⟩
              refine wx_ef ?_
              refine ks_e rfl (e_lit1 (cs := [_, _, _]) t45 rfl rfl rfl (by omega)) ?_
              rintro _ _ w12_8 ⟨b12_8, rfl, rfl⟩
              refine ⟨_, List.perm_middle.symm, ?_⟩
              refine wx_ef ?_
              refine ks_e rfl (e_appN 4 t45 rfl rfl rfl (fun w hh => Rd.held0 hh (i := 3) rfl) (by simp [Value.oneCell']) (by omega) (by omega)) ?_
              rintro _ _ w12_9 ⟨⟨U2, a2, rfl⟩, rfl⟩
              refine ⟨_, List.Perm.refl _, ?_⟩
              refine wx_f rfl (f_nilCheck rfl) ?_
              refine wx_f rfl (f_fieldAddr 2 rfl Tryz.underlying50 rfl rfl (by kernel_rfl)) ?_
              refine wx_ef ?_
              refine ks_e0 rfl (e_storeN 1 (us := [_]) rfl rfl rfl rfl (by kernel_rfl) (by simp [Value.oneCell']) rfl rfl) ?_
              rintro _ _ w12_12 rfl
              refine ⟨_, pick_perm [0, 1] _ rfl, ?_⟩
              refine wx_endp [] [2, 3] trivial rfl ?_
              refine ⟨.slice U2 ((A ++ B).length + 1) a2, rfl, ?_⟩
              rw [rts, encs_snoc, List.length_append (bs := [(k, o + v, s)])]
              rfl
            · skip
              refine ks_e rfl (e_lit1 (cs := [_, _, _]) t45 rfl rfl rfl (by omega)) ?_
              rintro _ _ w12_8 ⟨b12_8, rfl, rfl⟩
              refine ⟨_, List.perm_middle.symm, ?_⟩
              refine wx_ef ?_
              refine ks_e rfl (e_call0 rfl Tryz.func37 (by kernel_rfl) (fun w hh => rwithout_spec _ _ A B (k, o, s) w (Rd.held0 hh (i := 2) rfl) (by omega))) ?_
              rintro _ _ w12_6 ⟨_, rfl, U1, a1, rfl, rfl⟩
              refine ⟨_, List.perm_append_comm_assoc _ _ _, ?_⟩
              refine wx_ef ?_
              refine ks_e rfl (e_appN 3 t45 rfl rfl rfl (fun w hh => Rd.held0 hh (i := 4) rfl) (by simp [Value.oneCell']) (by omega) (by omega)) ?_
              rintro _ _ w12_9 ⟨⟨U2, a2, rfl⟩, rfl⟩
              refine ⟨_, List.Perm.refl _, ?_⟩
              refine wx_f rfl (f_nilCheck rfl) ?_
              refine wx_f rfl (f_fieldAddr 2 rfl Tryz.underlying50 rfl rfl (by kernel_rfl)) ?_
              refine wx_ef ?_
              refine ks_e0 rfl (e_storeN 1 (us := [_]) rfl rfl rfl rfl (by kernel_rfl) (by simp [Value.oneCell']) rfl rfl) ?_
              rintro _ _ w12_12 rfl
              refine ⟨_, pick_perm [0, 1] _ rfl, ?_⟩
              refine wx_endp [] [2, 2] trivial rfl ?_
              refine ⟨.slice U2 ((A ++ B).length + 1) a2, rfl, ?_⟩
              rw [rts, encs_snoc, List.length_append (bs := [(k, o + v, s)])]
              rfl
          rintro _ _ w12_ ⟨U, rfl, rfl⟩
          refine w_seq ?_
          refine w_reg ?_
          refine wl_f (f_assign rfl) ?_
          refine wl_end [(6, _)] ⟨rfl, trivial⟩ ?_
          refine w_bun (H := []) [_, _] ?_
          refine w_ret ?_
          refine ⟨_, _, fun a ha hh => results_tmps Tryz.results10 rfl a ha _, List.Sublist.refl _, ?_⟩
          exact ⟨0, _, base, sum + v, _, rfl, rfl, ⟨U, rfl⟩, .inr ⟨rfl, hk, hv0, hov, rfl, .inl ⟨A, o, s, B, rfl, hA, rfl, rfl⟩⟩⟩
        · skip
          have hno := rplE_no hy (by omega)
          refine w_skip ?_
          refine w_seq ?_
          refine w_seq ?_
          refine w_reg ?_
          refine wl_f (f_move rfl) ?_
          refine wl_f (f_nilCheck rfl) ?_
          refine wl_f (f_fieldAddr 0 rfl Tryz.underlying50 rfl rfl (by kernel_rfl)) ?_
          (first | refine wl_f (f_loadb 0 rfl Tryz.underlying3 rfl rfl rfl) ?_ | refine wl_f (f_loadb 1 rfl Tryz.underlying3 rfl rfl rfl) ?_ | refine wl_f (f_loadb 2 rfl Tryz.underlying3 rfl rfl rfl) ?_ | refine wl_f (f_loadb 3 rfl Tryz.underlying3 rfl rfl rfl) ?_ | refine wl_f (f_loadb 4 rfl Tryz.underlying3 rfl rfl rfl) ?_ | refine wl_f (f_loadb 5 rfl Tryz.underlying3 rfl rfl rfl) ?_ | refine wl_f (f_loadb 6 rfl Tryz.underlying3 rfl rfl rfl) ?_)
          refine wl_f (f_eql rfl rfl) ?_
          refine wl_end [(0, _), (1, _), (2, _), (67, _)] ⟨rfl, rfl, rfl, rfl, trivial⟩ ?_
          refine w_ifd rfl (fun h => absurd h (by decide)) (fun _ => ?_)
          refine w_skip ?_
          refine w_seq ?_
          refine w_seq ?_
          refine w_draw [(0, true), (1, true), (2, true), (3, true), (4, true), (5, true), (6, true), (7, true), (8, true), (9, true)] (_) ([]) mixed (by kernel_rfl) (by kernel_rfl) rfl (perm_all _) (fun w17_ => ?_)
          refine wd_f rfl (f_move rfl) ?_
          refine wd_f rfl (f_nilCheck rfl) ?_
          refine wd_f rfl (f_fieldAddr 2 rfl Tryz.underlying50 rfl rfl (by kernel_rfl)) ?_
          (first | refine wd_f rfl (f_loadb 0 rfl Tryz.underlying45 rfl rfl rfl) ?_ | refine wd_f rfl (f_loadb 1 rfl Tryz.underlying45 rfl rfl rfl) ?_ | refine wd_f rfl (f_loadb 2 rfl Tryz.underlying45 rfl rfl rfl) ?_ | refine wd_f rfl (f_loadb 3 rfl Tryz.underlying45 rfl rfl rfl) ?_ | refine wd_f rfl (f_loadb 4 rfl Tryz.underlying45 rfl rfl rfl) ?_ | refine wd_f rfl (f_loadb 5 rfl Tryz.underlying45 rfl rfl rfl) ?_ | refine wd_f rfl (f_loadb 6 rfl Tryz.underlying45 rfl rfl rfl) ?_)
          refine wd_f rfl (f_len rfl Tryz.underlying45) ?_
          refine wd_f rfl (f_move rfl) ?_
          refine wd_f rfl (f_nilCheck rfl) ?_
          refine wd_f rfl (f_fieldAddr 1 rfl Tryz.underlying50 rfl rfl (by kernel_rfl)) ?_
          (first | refine wd_f rfl (f_loadb 0 rfl Tryz.underlying3 rfl rfl rfl) ?_ | refine wd_f rfl (f_loadb 1 rfl Tryz.underlying3 rfl rfl rfl) ?_ | refine wd_f rfl (f_loadb 2 rfl Tryz.underlying3 rfl rfl rfl) ?_ | refine wd_f rfl (f_loadb 3 rfl Tryz.underlying3 rfl rfl rfl) ?_ | refine wd_f rfl (f_loadb 4 rfl Tryz.underlying3 rfl rfl rfl) ?_ | refine wd_f rfl (f_loadb 5 rfl Tryz.underlying3 rfl rfl rfl) ?_ | refine wd_f rfl (f_loadb 6 rfl Tryz.underlying3 rfl rfl rfl) ?_)
          refine wd_f rfl (f_eql rfl rfl) ?_
          refine wd_end [(0, _), (1, _), (2, _), (81, _)] ⟨rfl, rfl, rfl, rfl, trivial⟩ ?_
          refine w_post (fun m' H w' => ∃ (l1 : List En) (base1 : Nat) (O : Value), m' = [(0, .pointer (some ⟨q, 0, .none⟩)), (1, .string k), (2, .int .u64 (v : Int))] ∧ H = rts q 1 n l1 O base1 (sum + v) ∧ l1.length ≤ 64 ∧ ((l.length ≠ n ∧ l1 = l ∧ base1 = base) ∨ (l.length = n ∧ ∃ A y B, l = A ++ y :: B ∧ (∀ a ∈ A, cnt y < cnt a) ∧ (∀ b ∈ B, cnt y ≤ cnt b) ∧ base1 = cnt y ∧ l1 = A ++ B))) ?_ ?_
          · skip
            refine w_ifd rfl (fun hc6 => ?_) (fun hc6 => ?_)
            · skip
              have hln : l.length = n := by
                have : (l.length : Int) = (n : Int) := hc6
                omega
              refine w_seq ?_
              refine w_reg ?_
              refine wl_f (f_assign rfl) ?_
              refine wl_end [(0, _), (1, _), (2, _), (9, _)] ⟨rfl, rfl, rfl, rfl, trivial⟩ ?_
              refine w_seq ?_
              refine w_seq ?_
              refine w_reg ?_
              refine wl_f (f_move rfl) ?_
              refine wl_f (f_nilCheck rfl) ?_
              refine wl_f (f_fieldAddr 2 rfl Tryz.underlying50 rfl rfl (by kernel_rfl)) ?_
              (first | refine wl_f (f_loadb 0 rfl Tryz.underlying45 rfl rfl rfl) ?_ | refine wl_f (f_loadb 1 rfl Tryz.underlying45 rfl rfl rfl) ?_ | refine wl_f (f_loadb 2 rfl Tryz.underlying45 rfl rfl rfl) ?_ | refine wl_f (f_loadb 3 rfl Tryz.underlying45 rfl rfl rfl) ?_ | refine wl_f (f_loadb 4 rfl Tryz.underlying45 rfl rfl rfl) ?_ | refine wl_f (f_loadb 5 rfl Tryz.underlying45 rfl rfl rfl) ?_ | refine wl_f (f_loadb 6 rfl Tryz.underlying45 rfl rfl rfl) ?_)
              refine wl_f (f_len rfl Tryz.underlying45) ?_
              refine wl_f (f_move rfl) ?_
              refine wl_end [(0, _), (1, _), (2, _), (9, _), (85, _), (86, _), (87, _)] ⟨rfl, rfl, rfl, rfl, rfl, rfl, rfl, trivial⟩ ?_
              refine w_block ?_
              obtain ⟨y0, hy0⟩ : ∃ y, l[0]? = some y := ⟨_, List.getElem?_eq_getElem (by omega)⟩
              refine w_loop (fun j m H w => ∃ (i a : Nat) (y : En), m = [(0, .pointer (some ⟨q, 0, .none⟩)), (1, .string k), (2, .int .u64 (v : Int)), (9, .int .i64 a), (85, .slice L l.length cl), (86, .int .i64 l.length), (87, .int .i64 i)] ∧ H = rts q 1 n l (.slice L l.length cl) base (sum + v) ∧ j + i = l.length ∧ l[a]? = some y ∧ (∀ b < a, ∀ z, l[b]? = some z → cnt y < cnt z) ∧ (∀ b < i, ∀ z, l[b]? = some z → cnt y ≤ cnt z)) l.length
                ⟨0, 0, y0, rfl, rfl, rfl, hy0, fun b hb => absurd hb (Nat.not_lt_zero b), fun b hb => absurd hb (Nat.not_lt_zero b)⟩ ?_
              rintro j _ _ w1 ⟨i, a, y, rfl, rfl, hj, hya, hlo, hhi⟩
              refine w_seq ?_
              refine w_reg ?_
              refine wl_f (f_lss rfl rfl) ?_
              refine wl_end [(0, _), (1, _), (2, _), (9, _), (85, _), (86, _), (87, _), (88, _)] ⟨rfl, rfl, rfl, rfl, rfl, rfl, rfl, rfl, trivial⟩ ?_
              refine w_seq ?_
              refine w_ifd rfl (fun hc7 => ?_) (fun hc7 => ?_)
              · skip
                have hi : i < l.length := by
                  have : (i : Int) < (l.length : Int) := hc7
                  omega
                have ha : a < l.length := (List.getElem?_eq_some_iff.1 hya).1
                obtain ⟨p, hpi⟩ : ∃ p, l[i]? = some p := ⟨_, List.getElem?_eq_getElem hi⟩
                have hpc := hls p (List.mem_of_getElem? hpi)
                have hyc := hls y (List.mem_of_getElem? hya)
                refine w_with fun hh => ?_
                obtain ⟨g, cap, e⟩ := row_form hh (i := 1) rfl (by omega)
                injection e with e1 _ e3
                subst e1; subst e3
                clear hh
                refine w_skip ?_
                refine w_seq ?_
                refine w_post (fun m' H w' => ∃ (a' : Nat) (y' : En), m' = [(0, .pointer (some ⟨q, 0, .none⟩)), (1, .string k), (2, .int .u64 (v : Int)), (9, .int .i64 a'), (85, .slice (some ⟨g, 0, .none⟩) l.length cl), (86, .int .i64 l.length), (87, .int .i64 i)] ∧ H = rts q 1 n l (.slice (some ⟨g, 0, .none⟩) l.length cl) base (sum + v) ∧ l[a']? = some y' ∧ (∀ b < a', ∀ z, l[b]? = some z → cnt y' < cnt z) ∧ (∀ b < i + 1, ∀ z, l[b]? = some z → cnt y' ≤ cnt z)) ?_ ?_
                · skip
                  refine w_block ?_
                  refine w_seq ?_
                  refine w_reg ?_
                  refine wl_f (f_move rfl) ?_
                  refine wl_f (f_indexAddr 3 (i := i) rfl rfl Tryz.underlying45 (by kernel_rfl) rfl hi) ?_
                  refine wl_f (f_loadsr (cs := ecell (some p)) 1 rfl Tryz.underlying25 rfl (by kernel_rfl) rfl (encs_get hpi)) ?_
                  refine wl_e (e_allocs [.string ByteArray.empty, .int .u64 0, .int .u64 0] (by kernel_rfl)) ?_
                  rintro _ _ w21_3 ⟨b21_3, rfl, rfl⟩
                  refine wl_f (f_assign rfl) ?_
                  (first | refine wl_e0 (e_store0 (us := [_, _, _]) rfl rfl rfl (by kernel_rfl) (by simp [Value.oneCell']) rfl rfl) ?_ | refine wl_e0 (e_store1 (us := [_, _, _]) rfl rfl rfl (by kernel_rfl) (by simp [Value.oneCell']) rfl rfl) ?_ | refine wl_e0 (e_store2 (us := [_, _, _]) rfl rfl rfl (by kernel_rfl) (by simp [Value.oneCell']) rfl rfl) ?_ | refine wl_e0 (e_store3 (us := [_, _, _]) rfl rfl rfl (by kernel_rfl) (by simp [Value.oneCell']) rfl rfl) ?_)
                  rintro _ _ w21_5 rfl
                  refine wl_end [(0, _), (1, _), (2, _), (9, _), (10, _), (11, _), (85, _), (86, _), (87, _)] ⟨rfl, rfl, rfl, rfl, rfl, rfl, rfl, rfl, rfl, trivial⟩ ?_
                  refine w_seq ?_
                  refine w_draw [(0, true), (1, true), (2, true), (3, true), (4, true), (5, true), (6, true), (7, true), (8, true), (9, true), (10, true), (11, true), (12, true), (13, true), (14, true), (15, true), (16, true), (17, true), (18, true), (19, true), (20, true), (21, true), (22, true)] (_) ([]) mixed (by kernel_rfl) (by kernel_rfl) rfl (perm_all _) (fun w22_ => ?_)
                  refine wd_f rfl (f_fieldAddr 1 rfl Tryz.underlying25 rfl rfl (by kernel_rfl)) ?_
                  (first | refine wd_f rfl (f_loadb 0 rfl Tryz.underlying23 rfl rfl rfl) ?_ | refine wd_f rfl (f_loadb 1 rfl Tryz.underlying23 rfl rfl rfl) ?_ | refine wd_f rfl (f_loadb 2 rfl Tryz.underlying23 rfl rfl rfl) ?_ | refine wd_f rfl (f_loadb 3 rfl Tryz.underlying23 rfl rfl rfl) ?_ | refine wd_f rfl (f_loadb 4 rfl Tryz.underlying23 rfl rfl rfl) ?_ | refine wd_f rfl (f_loadb 5 rfl Tryz.underlying23 rfl rfl rfl) ?_ | refine wd_f rfl (f_loadb 6 rfl Tryz.underlying23 rfl rfl rfl) ?_)
                  refine wd_f rfl (f_fieldAddr 2 rfl Tryz.underlying25 rfl rfl (by kernel_rfl)) ?_
                  (first | refine wd_f rfl (f_loadb 0 rfl Tryz.underlying23 rfl rfl rfl) ?_ | refine wd_f rfl (f_loadb 1 rfl Tryz.underlying23 rfl rfl rfl) ?_ | refine wd_f rfl (f_loadb 2 rfl Tryz.underlying23 rfl rfl rfl) ?_ | refine wd_f rfl (f_loadb 3 rfl Tryz.underlying23 rfl rfl rfl) ?_ | refine wd_f rfl (f_loadb 4 rfl Tryz.underlying23 rfl rfl rfl) ?_ | refine wd_f rfl (f_loadb 5 rfl Tryz.underlying23 rfl rfl rfl) ?_ | refine wd_f rfl (f_loadb 6 rfl Tryz.underlying23 rfl rfl rfl) ?_)
                  refine wd_f rfl (f_eqv (v' := .int .u64 ((cnt p : Nat) : Int)) (f_addu rfl rfl (by omega)) (by rw [cnt, Int.natCast_add])) ?_
                  refine wd_f rfl (f_move rfl) ?_
                  refine wd_f rfl (f_nilCheck rfl) ?_
                  refine wd_f rfl (f_fieldAddr 2 rfl Tryz.underlying50 rfl rfl (by kernel_rfl)) ?_
                  (first | refine wd_f rfl (f_loadb 0 rfl Tryz.underlying45 rfl rfl rfl) ?_ | refine wd_f rfl (f_loadb 1 rfl Tryz.underlying45 rfl rfl rfl) ?_ | refine wd_f rfl (f_loadb 2 rfl Tryz.underlying45 rfl rfl rfl) ?_ | refine wd_f rfl (f_loadb 3 rfl Tryz.underlying45 rfl rfl rfl) ?_ | refine wd_f rfl (f_loadb 4 rfl Tryz.underlying45 rfl rfl rfl) ?_ | refine wd_f rfl (f_loadb 5 rfl Tryz.underlying45 rfl rfl rfl) ?_ | refine wd_f rfl (f_loadb 6 rfl Tryz.underlying45 rfl rfl rfl) ?_)
                  refine wd_f rfl (f_move rfl) ?_
                  refine wd_f rfl (f_indexAddr 3 (i := a) rfl rfl Tryz.underlying45 (by kernel_rfl) rfl ha) ?_
                  refine wd_f rfl (f_fieldAddr 1 rfl Tryz.underlying25 rfl rfl (by kernel_rfl)) ?_
                  refine wd_f rfl (f_loadr (v := .int .u64 (y.2.1 : Int)) 2 rfl Tryz.underlying23 rfl rfl (ecells_j (o := some y) (by rw [List.getElem?_map, hya]; rfl) 1 rfl (by omega))) ?_
                  refine wd_f rfl (f_move rfl) ?_
                  refine wd_f rfl (f_nilCheck rfl) ?_
                  refine wd_f rfl (f_fieldAddr 2 rfl Tryz.underlying50 rfl rfl (by kernel_rfl)) ?_
                  (first | refine wd_f rfl (f_loadb 0 rfl Tryz.underlying45 rfl rfl rfl) ?_ | refine wd_f rfl (f_loadb 1 rfl Tryz.underlying45 rfl rfl rfl) ?_ | refine wd_f rfl (f_loadb 2 rfl Tryz.underlying45 rfl rfl rfl) ?_ | refine wd_f rfl (f_loadb 3 rfl Tryz.underlying45 rfl rfl rfl) ?_ | refine wd_f rfl (f_loadb 4 rfl Tryz.underlying45 rfl rfl rfl) ?_ | refine wd_f rfl (f_loadb 5 rfl Tryz.underlying45 rfl rfl rfl) ?_ | refine wd_f rfl (f_loadb 6 rfl Tryz.underlying45 rfl rfl rfl) ?_)
                  refine wd_f rfl (f_move rfl) ?_
                  refine wd_f rfl (f_indexAddr 3 (i := a) rfl rfl Tryz.underlying45 (by kernel_rfl) rfl ha) ?_
                  refine wd_f rfl (f_fieldAddr 2 rfl Tryz.underlying25 rfl rfl (by kernel_rfl)) ?_
                  refine wd_f rfl (f_loadr (v := .int .u64 (y.2.2 : Int)) 2 rfl Tryz.underlying23 rfl rfl (ecells_j (o := some y) (by rw [List.getElem?_map, hya]; rfl) 2 rfl (by omega))) ?_
                  refine wd_f rfl (f_eqv (v' := .int .u64 ((cnt y : Nat) : Int)) (f_addu rfl rfl (by omega)) (by rw [cnt, Int.natCast_add])) ?_
                  refine wd_f rfl (f_lss rfl rfl) ?_
                  refine wd_endp [(0, _), (1, _), (2, _), (9, _), (10, _), (85, _), (86, _), (87, _), (114, _)] [1, 1] ⟨rfl, rfl, rfl, rfl, rfl, rfl, rfl, rfl, rfl, trivial⟩ rfl ?_
                  refine w_ifd rfl (fun hc8 => ?_) (fun hc8 => ?_)
                  · skip
                    have hlt : cnt p < cnt y := by
                      have : (cnt p : Int) < (cnt y : Int) := hc8
                      omega
                    refine w_reg ?_
                    refine wl_f (f_move rfl) ?_
                    refine wl_f (f_assign rfl) ?_
                    refine wl_end [(0, _), (1, _), (2, _), (9, _), (85, _), (86, _), (87, _)] ⟨rfl, rfl, rfl, rfl, rfl, rfl, rfl, trivial⟩ ?_
                    refine ⟨i, p, rfl, rfl, hpi, fun b hb z hz => by have := hhi b hb z hz; omega, fun b hb z hz => ?_⟩
                    rcases Nat.lt_or_eq_of_le (Nat.le_of_lt_succ hb) with h | rfl
                    · have := hhi b h z hz; omega
                    · rw [hpi] at hz; injection hz with hz; subst hz; exact Nat.le_refl _
                  · skip
                    have hlt : cnt y ≤ cnt p := by
                      have : ¬ (cnt p : Int) < (cnt y : Int) := hc8
                      omega
                    refine w_sub [(0, _), (1, _), (2, _), (9, _), (85, _), (86, _), (87, _)] ⟨rfl, rfl, rfl, rfl, rfl, rfl, rfl, trivial⟩ (w_skip ?_)
                    refine ⟨a, y, rfl, rfl, hya, hlo, fun b hb z hz => ?_⟩
                    rcases Nat.lt_or_eq_of_le (Nat.le_of_lt_succ hb) with h | rfl
                    · exact hhi b h z hz
                    · rw [hpi] at hz; injection hz with hz; subst hz; exact hlt
                · rintro _ _ w9 ⟨a', y', rfl, rfl, hya', hlo', hhi'⟩
                  refine w_reg ?_
                  refine wl_f (f_add rfl rfl (by omega)) ?_
                  refine wl_f (f_move rfl) ?_
                  refine wl_end [(0, _), (1, _), (2, _), (9, _), (85, _), (86, _), (87, _)] ⟨rfl, rfl, rfl, rfl, rfl, rfl, rfl, trivial⟩ ?_
                  exact ⟨j - 1, by omega, i + 1, a', y', rfl, rfl, by omega, hya', hlo', hhi'⟩
              · skip
                have hil : i = l.length := by
                  have : ¬ (i : Int) < (l.length : Int) := hc7
                  omega
                have ha : a < l.length := (List.getElem?_eq_some_iff.1 hya).1
                have hyc := hls y (List.mem_of_getElem? hya)
                obtain ⟨A, B, hAl, rfl⟩ : ∃ A B, A.length = a ∧ l = A ++ y :: B := by
                  refine ⟨l.take a, l.drop (a + 1), by rw [List.length_take]; omega, ?_⟩
                  obtain ⟨h1, h2⟩ := List.getElem?_eq_some_iff.1 hya
                  rw [← h2, ← List.drop_eq_getElem_cons h1, List.take_append_drop]
                subst hAl
                have hyA : ∀ x ∈ A, cnt y < cnt x := fun x hx => by
                  obtain ⟨b, hb⟩ := List.mem_iff_getElem?.1 hx
                  have hbl : b < A.length := (List.getElem?_eq_some_iff.1 hb).1
                  exact hlo b hbl x (by rw [List.getElem?_append_left hbl]; exact hb)
                have hyB : ∀ x ∈ B, cnt y ≤ cnt x := fun x hx => by
                  obtain ⟨b, hb⟩ := List.mem_iff_getElem?.1 hx
                  have hbl : b < B.length := (List.getElem?_eq_some_iff.1 hb).1
                  refine hhi (A.length + (b + 1)) (by rw [hil]; simp only [List.length_append, List.length_cons]; omega) x ?_
                  rw [List.getElem?_append_right (by omega), Nat.add_sub_cancel_left]
                  exact hb
                refine w_with fun hh => ?_
                obtain ⟨g, cap, e⟩ := row_form hh (i := 1) rfl (by omega)
                injection e with e1 _ e3
                subst e1; subst e3
                clear hh
                refine w_exit0 ?_
                refine w_seq ?_
                refine w_drawk [(0, true), (1, true), (2, true), (3, true), (4, true), (5, true), (6, true), (7, true), (8, true), (9, true), (10, true), (11, true), (12, true), (13, true), (14, true), (15, true), (16, true), (17, true), (18, true), (19, true), (20, false)] ([(_, some 20), (_, none)]) ([]) mixed (by kernel_rfl) (by kernel_rfl) rfl rfl (List.Perm.refl _) (fun w25_ => ?_)
                refine wk_f rfl (f_move rfl) ?_
                refine wk_f rfl (f_move rfl) ?_
                refine wk_f rfl (f_nilCheck rfl) ?_
                refine wk_f rfl (f_fieldAddr 2 rfl Tryz.underlying50 rfl rfl (by kernel_rfl)) ?_
                (first | refine wk_f rfl (f_loadb 0 rfl Tryz.underlying45 rfl rfl rfl) ?_ | refine wk_f rfl (f_loadb 1 rfl Tryz.underlying45 rfl rfl rfl) ?_ | refine wk_f rfl (f_loadb 2 rfl Tryz.underlying45 rfl rfl rfl) ?_ | refine wk_f rfl (f_loadb 3 rfl Tryz.underlying45 rfl rfl rfl) ?_ | refine wk_f rfl (f_loadb 4 rfl Tryz.underlying45 rfl rfl rfl) ?_ | refine wk_f rfl (f_loadb 5 rfl Tryz.underlying45 rfl rfl rfl) ?_ | refine wk_f rfl (f_loadb 6 rfl Tryz.underlying45 rfl rfl rfl) ?_)
                refine wk_f rfl (f_move rfl) ?_
                refine wk_f rfl (f_indexAddr 3 (i := A.length) rfl rfl Tryz.underlying45 (by kernel_rfl) rfl ha) ?_
                refine wk_f rfl (f_fieldAddr 1 rfl Tryz.underlying25 rfl rfl (by kernel_rfl)) ?_
                refine wk_f rfl (f_loadr (v := .int .u64 (y.2.1 : Int)) 1 rfl Tryz.underlying23 rfl rfl (ecells_j (o := some y) (by rw [List.getElem?_map, hya]; rfl) 1 rfl (by omega))) ?_
                refine wk_f rfl (f_move rfl) ?_
                refine wk_f rfl (f_nilCheck rfl) ?_
                refine wk_f rfl (f_fieldAddr 2 rfl Tryz.underlying50 rfl rfl (by kernel_rfl)) ?_
                (first | refine wk_f rfl (f_loadb 0 rfl Tryz.underlying45 rfl rfl rfl) ?_ | refine wk_f rfl (f_loadb 1 rfl Tryz.underlying45 rfl rfl rfl) ?_ | refine wk_f rfl (f_loadb 2 rfl Tryz.underlying45 rfl rfl rfl) ?_ | refine wk_f rfl (f_loadb 3 rfl Tryz.underlying45 rfl rfl rfl) ?_ | refine wk_f rfl (f_loadb 4 rfl Tryz.underlying45 rfl rfl rfl) ?_ | refine wk_f rfl (f_loadb 5 rfl Tryz.underlying45 rfl rfl rfl) ?_ | refine wk_f rfl (f_loadb 6 rfl Tryz.underlying45 rfl rfl rfl) ?_)
                refine wk_f rfl (f_move rfl) ?_
                refine wk_f rfl (f_indexAddr 3 (i := A.length) rfl rfl Tryz.underlying45 (by kernel_rfl) rfl ha) ?_
                refine wk_f rfl (f_fieldAddr 2 rfl Tryz.underlying25 rfl rfl (by kernel_rfl)) ?_
                refine wk_f rfl (f_loadr (v := .int .u64 (y.2.2 : Int)) 1 rfl Tryz.underlying23 rfl rfl (ecells_j (o := some y) (by rw [List.getElem?_map, hya]; rfl) 2 rfl (by omega))) ?_
                refine wk_f rfl (f_eqv (v' := .int .u64 ((cnt y : Nat) : Int)) (f_addu rfl rfl (by omega)) (by rw [cnt, Int.natCast_add])) ?_
                refine wk_f rfl (f_nilCheck rfl) ?_
                refine wk_f rfl (f_fieldAddr 3 rfl Tryz.underlying50 rfl rfl (by kernel_rfl)) ?_
                refine wk_e0 rfl (e_storeN 0 (us := [_]) rfl rfl rfl rfl (by kernel_rfl) (by simp [Value.oneCell']) rfl rfl) ?_
                rintro _ _ w25 rfl
                refine ⟨_, List.Perm.swap .., ?_⟩
                refine wk_endp [(0, _), (1, _), (2, _), (9, _)] [1, 0] ⟨rfl, rfl, rfl, rfl, trivial⟩ rfl ?_
                refine w_reg ?_
                refine wl_f (f_move rfl) ?_
                refine wl_f (f_move rfl) ?_
                refine wl_f (f_nilCheck rfl) ?_
                refine wl_f (f_fieldAddr 2 rfl Tryz.underlying50 rfl rfl (by kernel_rfl)) ?_
                (first | refine wl_f (f_loadb 0 rfl Tryz.underlying45 rfl rfl rfl) ?_ | refine wl_f (f_loadb 1 rfl Tryz.underlying45 rfl rfl rfl) ?_ | refine wl_f (f_loadb 2 rfl Tryz.underlying45 rfl rfl rfl) ?_ | refine wl_f (f_loadb 3 rfl Tryz.underlying45 rfl rfl rfl) ?_ | refine wl_f (f_loadb 4 rfl Tryz.underlying45 rfl rfl rfl) ?_ | refine wl_f (f_loadb 5 rfl Tryz.underlying45 rfl rfl rfl) ?_ | refine wl_f (f_loadb 6 rfl Tryz.underlying45 rfl rfl rfl) ?_)
                refine wl_f (f_move rfl) ?_
                refine wl_e (e_call0 rfl Tryz.func37 (by kernel_rfl) (fun w hh => rwithout_spec _ _ A B y w (Rd.held0 hh (i := 1) rfl) (by omega))) ?_
                rintro _ _ w26 ⟨_, rfl, U2, u2, rfl, rfl⟩
                refine wl_f (f_nilCheck rfl) ?_
                refine wl_f (f_fieldAddr 2 rfl Tryz.underlying50 rfl rfl (by kernel_rfl)) ?_
                (first | refine wl_e0 (e_store0 (us := [_]) rfl rfl rfl (by kernel_rfl) (by simp [Value.oneCell']) rfl rfl) ?_ | refine wl_e0 (e_store1 (us := [_]) rfl rfl rfl (by kernel_rfl) (by simp [Value.oneCell']) rfl rfl) ?_ | refine wl_e0 (e_store2 (us := [_]) rfl rfl rfl (by kernel_rfl) (by simp [Value.oneCell']) rfl rfl) ?_ | refine wl_e0 (e_store3 (us := [_]) rfl rfl rfl (by kernel_rfl) (by simp [Value.oneCell']) rfl rfl) ?_)
                rintro _ _ w26_9 rfl
                refine wl_pick [1, 0] rfl ?_
                refine wl_end [(0, _), (1, _), (2, _)] ⟨rfl, rfl, rfl, trivial⟩ ?_
                exact ⟨A ++ B, cnt y, .slice U2 (A ++ B).length u2, rfl, rfl, by simp only [List.length_append, List.length_cons] at hl ⊢; omega, .inr ⟨hln, A, y, B, rfl, hyA, hyB, rfl, rfl⟩⟩
            · skip
              refine w_sub [(0, _), (1, _), (2, _)] ⟨rfl, rfl, rfl, trivial⟩ (w_skip ?_)
              exact ⟨l, base, .slice L l.length cl, rfl, rfl, by omega, .inl ⟨fun e => hc6 (by rw [e]), rfl, rfl⟩⟩
          · rintro _ _ w9 ⟨l1, base1, O, rfl, rfl, hl1, hD⟩
            refine w_seq ?_
            refine w_drawk [(0, true), (1, true), (2, true), (3, true), (4, true), (5, true), (6, true), (7, true), (8, true), (9, true), (10, true), (11, true), (12, false), (13, false), (14, true), (15, true), (16, false)] ([(_, some 16)]) ([_]) mixed (by kernel_rfl) (by kernel_rfl) rfl rfl (List.Perm.refl _) (fun w27_ => ?_)
            refine wk_f rfl (f_move rfl) ?_
            refine wk_f rfl (f_move rfl) ?_
            refine wk_f rfl (f_nilCheck rfl) ?_
            refine wk_f rfl (f_fieldAddr 2 rfl Tryz.underlying50 rfl rfl (by kernel_rfl)) ?_
            (first | refine wk_f rfl (f_loadb 0 rfl Tryz.underlying45 rfl rfl rfl) ?_ | refine wk_f rfl (f_loadb 1 rfl Tryz.underlying45 rfl rfl rfl) ?_ | refine wk_f rfl (f_loadb 2 rfl Tryz.underlying45 rfl rfl rfl) ?_ | refine wk_f rfl (f_loadb 3 rfl Tryz.underlying45 rfl rfl rfl) ?_ | refine wk_f rfl (f_loadb 4 rfl Tryz.underlying45 rfl rfl rfl) ?_ | refine wk_f rfl (f_loadb 5 rfl Tryz.underlying45 rfl rfl rfl) ?_ | refine wk_f rfl (f_loadb 6 rfl Tryz.underlying45 rfl rfl rfl) ?_)
            refine wk_f rfl (f_move rfl) ?_
            refine wk_f rfl (f_move rfl) ?_
            refine wk_f rfl (f_move rfl) ?_
            refine wk_f rfl (f_nilCheck rfl) ?_
            refine wk_f rfl (f_fieldAddr 3 rfl Tryz.underlying50 rfl rfl (by kernel_rfl)) ?_
            (first | refine wk_f rfl (f_loadb 0 rfl Tryz.underlying23 rfl rfl rfl) ?_ | refine wk_f rfl (f_loadb 1 rfl Tryz.underlying23 rfl rfl rfl) ?_ | refine wk_f rfl (f_loadb 2 rfl Tryz.underlying23 rfl rfl rfl) ?_ | refine wk_f rfl (f_loadb 3 rfl Tryz.underlying23 rfl rfl rfl) ?_ | refine wk_f rfl (f_loadb 4 rfl Tryz.underlying23 rfl rfl rfl) ?_ | refine wk_f rfl (f_loadb 5 rfl Tryz.underlying23 rfl rfl rfl) ?_ | refine wk_f rfl (f_loadb 6 rfl Tryz.underlying23 rfl rfl rfl) ?_)
            refine wk_f rfl (f_build rfl (fun w => build_entry _ _ _ w)) ?_
            refine wk_e rfl (e_lit1 (cs := [_, _, _]) t45 rfl rfl rfl (by omega)) ?_
            rintro _ _ w27_12 ⟨b27_12, rfl, rfl⟩
            refine ⟨_, List.perm_middle.symm, ?_⟩
            refine wk_e rfl (e_appN 2 t45 rfl rfl rfl (fun w hh => Rd.held0 hh (i := 1) rfl) (by simp [Value.oneCell']) (by omega) (by omega)) ?_
            rintro _ _ w5 ⟨⟨U2, u2, rfl⟩, rfl⟩
            refine ⟨_, List.Perm.refl _, ?_⟩
            refine wk_f rfl (f_nilCheck rfl) ?_
            refine wk_f rfl (f_fieldAddr 2 rfl Tryz.underlying50 rfl rfl (by kernel_rfl)) ?_
            refine wk_e0 rfl (e_storeN 0 (us := [_]) rfl rfl rfl rfl (by kernel_rfl) (by simp [Value.oneCell']) rfl rfl) ?_
            rintro _ _ w27_16 rfl
            refine ⟨_, List.Perm.refl _, ?_⟩
            refine wk_endp [] [0, 1] trivial rfl ?_
            refine w_seq ?_
            refine w_reg ?_
            refine wl_f (f_assign rfl) ?_
            refine wl_end [(6, _)] ⟨rfl, trivial⟩ ?_
            refine w_bun (H := []) [_, _] ?_
            refine w_ret ?_
            refine ⟨_, _, fun a ha hh => results_tmps Tryz.results10 rfl a ha _, List.Sublist.refl _, ?_⟩
            refine ⟨0, l1 ++ [(k, v, base1)], base1, sum + v, _, rfl, rfl, ⟨.slice U2 (l1.length + 1) u2, ?_⟩, .inr ⟨rfl, hk, hv0, hov, rfl, .inr ?_⟩⟩
            · rw [rts, encs_snoc, List.length_append (bs := [(k, v, base1)])]
              rfl
            · rcases hD with ⟨h1, rfl, rfl⟩ | ⟨h1, A, y, B, h2, h3, h4, rfl, rfl⟩
              · exact .inl ⟨hno, h1, rfl, rfl⟩
              · exact .inr ⟨hno, h1, A, y, B, h2, h3, h4, rfl, rfl⟩
end Go.Proofs.YtbcfdgnpdaaleaaGreat

/- The reference's tables in the mode Saving: exchanging. -/
namespace Go.Proofs.YtbcfdgnpdaaleaaGreat
open Go.RowKit

def RsSwapG (l : List En) (base : Nat) (k x : ByteArray) (xo xs : Nat) (v : Value) (l' : List En) : Prop :=
  (∃ e : Int, v = .tuple [enZ, .int .i64 e].toArray ∧ l' = l ∧ (k ∉ eks l ∧ e = 8 ∨ ∃ o s A B, RAt l k o s A B ∧ (x = ByteArray.empty ∧ e = 3 ∨ x ≠ ByteArray.empty ∧ (x ∈ eks l ∧ e = 10 ∨ x ∉ eks l ∧ o + s < xo + xs ∧ e = 1)))) ∨
  (∃ o s A B, RAt l k o s A B ∧ x ≠ ByteArray.empty ∧ x ∉ eks l ∧ xo + xs ≤ o + s ∧ v = .tuple [enV k o s, .int .i64 0].toArray ∧ l' = A ++ B ++ [(x, xo, max xs (base - xo))])
theorem rexact_spec (a b c : Nat) (w : World) (hc : c < 18446744073709551616) : Spec Tryz.prog 43 [.int .u64 (a : Int), .int .u64 (b : Int), .int .u64 (c : Int)] w Nil fun r H => r = .bool (decide (a + b ≤ c)) ∧ H = [] := by
  refine enter (n := 17) Tryz.func43 rfl rfl [(0, _), (1, _), (2, _)] rfl ⟨rfl, rfl, rfl, trivial⟩ (Holds.start _ _) ?_
  refine w_seq ?_
  refine w_reg ?_
  refine wl_f (f_assign rfl) ?_
  refine wl_end [(0, _), (1, _), (2, _)] ⟨rfl, rfl, rfl, trivial⟩ ?_
  refine w_seq ?_
  refine w_reg ?_
  refine wl_f (f_move rfl) ?_
  refine wl_f (f_move rfl) ?_
  refine wl_f (f_leq rfl rfl) ?_
  refine wl_f (f_move rfl) ?_
  refine wl_and (j := 3) (c := decide ((b : Int) ≤ (c : Int) - (a : Int))) 5 [] trivial rfl rfl rfl rfl rfl (fun hg1_9 => ?_) (fun w1_9 => ?_)
  · skip
    refine wl_gf rfl rfl (f_move rfl) ?_
    refine wl_gf rfl rfl (f_move rfl) ?_
    refine wl_gf rfl rfl (f_move rfl) ?_
    refine wl_gf rfl rfl (f_subu rfl rfl (by have := of_decide_eq_true hg1_9; omega)) ?_
    refine wl_gf rfl rfl (f_leq rfl rfl) ?_
    exact wl_pend rfl rfl trivial (List.Sublist.refl _)
  refine wl_f (f_assign rfl) ?_
  refine wl_end [(6, _)] ⟨rfl, trivial⟩ ?_
  refine w_ret ?_
  refine ⟨_, _, fun a ha hh => results_tmps Tryz.results43 rfl a ha _, List.Sublist.refl _, ?_⟩
  refine ⟨congrArg Value.bool ?_, rfl⟩
  rw [← Bool.decide_and, decide_eq_decide]
  omega
set_option maxHeartbeats 8000000 in
theorem rsswap_spec (q n : Nat) (l : List En) (base sum : Nat) (r : Res) (k x : ByteArray) (xo xs : Nat) (w : World) (hl : l.length ≤ 64) (hxo : xo < 18446744073709551616) (hb : base < 18446744073709551616) (hls : ∀ x ∈ l, x.2.1 + x.2.2 < 18446744073709551616) (hr : RtR q 1 n l base sum r) (hs : Holds w r.foot [r] w) :
    Spec Tryz.prog 15 [.pointer (some ⟨q, 0, .none⟩), .string k, .agg #[.string x, .int .u64 (xo : Int), .int .u64 (xs : Int)]] w r.foot fun v H => ∃ l' r', H = [r'] ∧ RtR q 1 n l' base sum r' ∧ RsSwapG l base k x xo xs v l' := by
  have hr0 := hr
  obtain ⟨LV, rfl⟩ := hr
  refine enter (n := 106) Tryz.func15 rfl rfl [(0, _), (1, _), (2, _)] rfl ⟨rfl, rfl, rfl, trivial⟩ hs ?_
  refine w_seq ?_
  refine w_reg ?_
  refine wl_e (e_box (cs := [_, _, _]) rfl rfl) ?_
  rintro _ _ w0_0 ⟨b0_0, rfl, rfl⟩
  refine wl_e (e_allocs [.string ByteArray.empty, .int .u64 0, .int .u64 0] (by kernel_rfl)) ?_
  rintro _ _ w0_1 ⟨b0_1, rfl, rfl⟩
  refine wl_f (f_assign rfl) ?_
  refine wl_end [(0, _), (1, _), (5, _), (6, _)] ⟨rfl, rfl, rfl, rfl, trivial⟩ ?_
  refine w_seq ?_
  refine w_reg ?_
  refine wl_f (f_move rfl) ?_
  refine wl_f (f_move rfl) ?_
  refine wl_e (e_call1 _ [_, _] rfl Tryz.func17 (by kernel_rfl) (pk1 2 rfl) (fun w hh hs' => rget_spec q 1 n l base sum _ k w (by omega) hr0 hs')) ?_
  rintro _ _ w1 ⟨_, rfl, rfl, k', o, s', is, rfl, hG⟩
  refine wl_f (f_move rfl) ?_
  refine wl_f (f_extract rfl rfl) ?_
  refine wl_f (f_extract rfl rfl) ?_
  refine wl_e (e_allocs [.string ByteArray.empty, .int .u64 0, .int .u64 0] (by kernel_rfl)) ?_
  rintro _ _ w1_6 ⟨b1_6, rfl, rfl⟩
  (first | refine wl_e0 (e_store0 (us := [_, _, _]) rfl rfl rfl (by kernel_rfl) (by simp [Value.oneCell']) rfl rfl) ?_ | refine wl_e0 (e_store1 (us := [_, _, _]) rfl rfl rfl (by kernel_rfl) (by simp [Value.oneCell']) rfl rfl) ?_ | refine wl_e0 (e_store2 (us := [_, _, _]) rfl rfl rfl (by kernel_rfl) (by simp [Value.oneCell']) rfl rfl) ?_ | refine wl_e0 (e_store3 (us := [_, _, _]) rfl rfl rfl (by kernel_rfl) (by simp [Value.oneCell']) rfl rfl) ?_)
  rintro _ _ w1_7 rfl
  refine wl_f (f_assign rfl) ?_
  refine wl_end [(0, _), (1, _), (5, _), (6, _), (8, _), (9, _)] ⟨rfl, rfl, rfl, rfl, rfl, rfl, trivial⟩ ?_
  refine w_seq ?_
  refine w_seq ?_
  refine w_reg ?_
  refine wl_f (f_move rfl) ?_
  refine wl_f (f_not rfl rfl) ?_
  refine wl_end [(0, _), (1, _), (5, _), (6, _), (8, _), (17, _)] ⟨rfl, rfl, rfl, rfl, rfl, rfl, trivial⟩ ?_
  refine w_ifb rfl (fun hc1 => ?_) (fun hc1 => ?_)
  · skip
    have hno : k ∉ eks l := by
      rcases hG with ⟨_, h, _⟩ | ⟨h, _⟩
      · exact h
      · rw [h] at hc1; cases hc1
    refine w_seq ?_
    refine w_reg ?_
    refine wl_f (f_build rfl build_entry0) ?_
    (first | refine wl_e0 (e_store0 (us := [_, _, _]) rfl rfl rfl (by kernel_rfl) (by simp [Value.oneCell']) rfl rfl) ?_ | refine wl_e0 (e_store1 (us := [_, _, _]) rfl rfl rfl (by kernel_rfl) (by simp [Value.oneCell']) rfl rfl) ?_ | refine wl_e0 (e_store2 (us := [_, _, _]) rfl rfl rfl (by kernel_rfl) (by simp [Value.oneCell']) rfl rfl) ?_ | refine wl_e0 (e_store3 (us := [_, _, _]) rfl rfl rfl (by kernel_rfl) (by simp [Value.oneCell']) rfl rfl) ?_)
    rintro _ _ w3_1 rfl
    refine wl_f (f_assign rfl) ?_
    refine wl_end [(6, _), (7, _)] ⟨rfl, rfl, trivial⟩ ?_
    refine w_pick [2, 1] rfl ?_
    refine w_ret ?_
    refine ⟨_, _, fun a ha hh => results_mix Tryz.results15 (rm_cell (cell_agg 0 rfl Tryz.underlying25 rfl (by kernel_rfl) rfl) (rm_tmp rfl rm_nil)) a ha _ hh, List.sublist_cons_self .., ?_⟩
    exact ⟨l, _, rfl, ⟨_, rfl⟩, .inl ⟨8, rfl, rfl, .inl ⟨hno, rfl⟩⟩⟩
  · skip
    obtain ⟨A, s, B, hl2, hA, hk2, hs2⟩ : ∃ A s B, l = A ++ (k, o, s) :: B ∧ k ∉ eks A ∧ k' = k ∧ s' = s := by
      rcases hG with ⟨h, _⟩ | ⟨_, A, s, B, h2, h3, h4, h5⟩
      · rw [h] at hc1; exact absurd rfl hc1
      · exact ⟨A, s, B, h2, h3, h4, h5⟩
    subst hl2
    have hk3 := hk2.symm
    subst hk3
    have hs3 := hs2.symm
    subst hs3
    have hAt : RAt (A ++ (k, o, s) :: B) k o s A B := ⟨rfl, hA⟩
    clear hG hc1
    refine w_skip ?_
    refine w_seq ?_
    refine w_seq ?_
    refine w_reg ?_
    refine wl_f (f_fieldAddr 0 rfl Tryz.underlying25 rfl rfl (by kernel_rfl)) ?_
    (first | refine wl_f (f_loadb 0 rfl Tryz.underlying9 rfl rfl rfl) ?_ | refine wl_f (f_loadb 1 rfl Tryz.underlying9 rfl rfl rfl) ?_ | refine wl_f (f_loadb 2 rfl Tryz.underlying9 rfl rfl rfl) ?_ | refine wl_f (f_loadb 3 rfl Tryz.underlying9 rfl rfl rfl) ?_ | refine wl_f (f_loadb 4 rfl Tryz.underlying9 rfl rfl rfl) ?_ | refine wl_f (f_loadb 5 rfl Tryz.underlying9 rfl rfl rfl) ?_ | refine wl_f (f_loadb 6 rfl Tryz.underlying9 rfl rfl rfl) ?_)
    refine wl_f (f_eqls rfl rfl) ?_
    refine wl_end [(0, _), (1, _), (5, _), (6, _), (8, _), (21, _)] ⟨rfl, rfl, rfl, rfl, rfl, rfl, trivial⟩ ?_
    refine w_ifd rfl (fun hc2 => ?_) (fun hc2 => ?_)
    · skip
      have hx : x = ByteArray.empty := hc2
      refine w_seq ?_
      refine w_reg ?_
      refine wl_f (f_build rfl build_entry0) ?_
      (first | refine wl_e0 (e_store0 (us := [_, _, _]) rfl rfl rfl (by kernel_rfl) (by simp [Value.oneCell']) rfl rfl) ?_ | refine wl_e0 (e_store1 (us := [_, _, _]) rfl rfl rfl (by kernel_rfl) (by simp [Value.oneCell']) rfl rfl) ?_ | refine wl_e0 (e_store2 (us := [_, _, _]) rfl rfl rfl (by kernel_rfl) (by simp [Value.oneCell']) rfl rfl) ?_ | refine wl_e0 (e_store3 (us := [_, _, _]) rfl rfl rfl (by kernel_rfl) (by simp [Value.oneCell']) rfl rfl) ?_)
      rintro _ _ w5_1 rfl
      refine wl_f (f_assign rfl) ?_
      refine wl_end [(6, _), (7, _)] ⟨rfl, rfl, trivial⟩ ?_
      refine w_pick [2, 1] rfl ?_
      refine w_ret ?_
      refine ⟨_, _, fun a ha hh => results_mix Tryz.results15 (rm_cell (cell_agg 0 rfl Tryz.underlying25 rfl (by kernel_rfl) rfl) (rm_tmp rfl rm_nil)) a ha _ hh, List.sublist_cons_self .., ?_⟩
      exact ⟨_, _, rfl, ⟨_, rfl⟩, .inl ⟨3, rfl, rfl, .inr ⟨o, s, A, B, hAt, .inl ⟨hx, rfl⟩⟩⟩⟩
    · skip
      have hx : x ≠ ByteArray.empty := hc2
      refine w_skip ?_
      refine w_seq ?_
      refine w_seq ?_
      refine w_draw [(0, true), (1, true), (2, true), (3, true), (4, true), (5, true), (6, false), (7, true)] (_) ([]) mixed (by kernel_rfl) (by kernel_rfl) rfl (perm_all _) (fun w6_ => ?_)
      refine wd_f rfl (f_move rfl) ?_
      refine wd_f rfl (f_nilCheck rfl) ?_
      refine wd_f rfl (f_fieldAddr 2 rfl Tryz.underlying50 rfl rfl (by kernel_rfl)) ?_
      refine wd_f rfl (f_loadB 1 0 rfl rfl rfl Tryz.underlying45 rfl rfl) ?_
      refine wd_f rfl (f_fieldAddr 0 rfl Tryz.underlying25 rfl rfl (by kernel_rfl)) ?_
      (first | refine wd_f rfl (f_loadb 0 rfl Tryz.underlying9 rfl rfl rfl) ?_ | refine wd_f rfl (f_loadb 1 rfl Tryz.underlying9 rfl rfl rfl) ?_ | refine wd_f rfl (f_loadb 2 rfl Tryz.underlying9 rfl rfl rfl) ?_ | refine wd_f rfl (f_loadb 3 rfl Tryz.underlying9 rfl rfl rfl) ?_ | refine wd_f rfl (f_loadb 4 rfl Tryz.underlying9 rfl rfl rfl) ?_ | refine wd_f rfl (f_loadb 5 rfl Tryz.underlying9 rfl rfl rfl) ?_ | refine wd_f rfl (f_loadb 6 rfl Tryz.underlying9 rfl rfl rfl) ?_)
      refine wd_e rfl (e_call0 rfl Tryz.func36 (by kernel_rfl) (fun w hh => rplace_spec LV _ x w (Rd.heldB hh (i := 1) (j := 1) rfl rfl) (by omega))) ?_
      rintro _ _ w2 ⟨_, rfl, rfl, y, rfl, hy⟩
      refine ⟨_, List.Perm.refl _, ?_⟩
      refine wd_f rfl (f_geq rfl rfl) ?_
      refine wd_end [(0, _), (1, _), (5, _), (6, _), (8, _), (30, _)] ⟨rfl, rfl, rfl, rfl, rfl, rfl, trivial⟩ ?_
      refine w_ifd rfl (fun hc3 => ?_) (fun hc3 => ?_)
      · skip
        have hxi := rplE_in hy (by omega)
        refine w_seq ?_
        refine w_reg ?_
        refine wl_f (f_build rfl build_entry0) ?_
        (first | refine wl_e0 (e_store0 (us := [_, _, _]) rfl rfl rfl (by kernel_rfl) (by simp [Value.oneCell']) rfl rfl) ?_ | refine wl_e0 (e_store1 (us := [_, _, _]) rfl rfl rfl (by kernel_rfl) (by simp [Value.oneCell']) rfl rfl) ?_ | refine wl_e0 (e_store2 (us := [_, _, _]) rfl rfl rfl (by kernel_rfl) (by simp [Value.oneCell']) rfl rfl) ?_ | refine wl_e0 (e_store3 (us := [_, _, _]) rfl rfl rfl (by kernel_rfl) (by simp [Value.oneCell']) rfl rfl) ?_)
        rintro _ _ w7_1 rfl
        refine wl_f (f_assign rfl) ?_
        refine wl_end [(6, _), (7, _)] ⟨rfl, rfl, trivial⟩ ?_
        refine w_pick [2, 1] rfl ?_
        refine w_ret ?_
        refine ⟨_, _, fun a ha hh => results_mix Tryz.results15 (rm_cell (cell_agg 0 rfl Tryz.underlying25 rfl (by kernel_rfl) rfl) (rm_tmp rfl rm_nil)) a ha _ hh, List.sublist_cons_self .., ?_⟩
        exact ⟨_, _, rfl, ⟨_, rfl⟩, .inl ⟨10, rfl, rfl, .inr ⟨o, s, A, B, hAt, .inr ⟨hx, .inl ⟨hxi, rfl⟩⟩⟩⟩⟩
      · skip
        have hxn := rplE_no hy (by omega)
        refine w_skip ?_
        refine w_seq ?_
        refine w_seq ?_
        refine w_reg ?_
        refine wl_f (f_move rfl) ?_
        refine wl_f (f_nilCheck rfl) ?_
        refine wl_f (f_fieldAddr 0 rfl Tryz.underlying50 rfl rfl (by kernel_rfl)) ?_
        refine wl_f (f_loadB 1 0 rfl rfl rfl Tryz.underlying3 rfl rfl) ?_
        refine wl_f (f_eql rfl rfl) ?_
        refine wl_end [(0, _), (1, _), (5, _), (6, _), (8, _), (36, _)] ⟨rfl, rfl, rfl, rfl, rfl, rfl, trivial⟩ ?_
        refine w_ifd rfl (fun _ => ?_) (fun h => absurd rfl h)
        refine w_seq ?_
        refine w_seq ?_
        refine w_reg ?_
        refine wl_f (f_fieldAddr 1 rfl Tryz.underlying25 rfl rfl (by kernel_rfl)) ?_
        (first | refine wl_f (f_loadb 0 rfl Tryz.underlying23 rfl rfl rfl) ?_ | refine wl_f (f_loadb 1 rfl Tryz.underlying23 rfl rfl rfl) ?_ | refine wl_f (f_loadb 2 rfl Tryz.underlying23 rfl rfl rfl) ?_ | refine wl_f (f_loadb 3 rfl Tryz.underlying23 rfl rfl rfl) ?_ | refine wl_f (f_loadb 4 rfl Tryz.underlying23 rfl rfl rfl) ?_ | refine wl_f (f_loadb 5 rfl Tryz.underlying23 rfl rfl rfl) ?_ | refine wl_f (f_loadb 6 rfl Tryz.underlying23 rfl rfl rfl) ?_)
        refine wl_f (f_fieldAddr 2 rfl Tryz.underlying25 rfl rfl (by kernel_rfl)) ?_
        (first | refine wl_f (f_loadb 0 rfl Tryz.underlying23 rfl rfl rfl) ?_ | refine wl_f (f_loadb 1 rfl Tryz.underlying23 rfl rfl rfl) ?_ | refine wl_f (f_loadb 2 rfl Tryz.underlying23 rfl rfl rfl) ?_ | refine wl_f (f_loadb 3 rfl Tryz.underlying23 rfl rfl rfl) ?_ | refine wl_f (f_loadb 4 rfl Tryz.underlying23 rfl rfl rfl) ?_ | refine wl_f (f_loadb 5 rfl Tryz.underlying23 rfl rfl rfl) ?_ | refine wl_f (f_loadb 6 rfl Tryz.underlying23 rfl rfl rfl) ?_)
        refine wl_f (f_fieldAddr 1 rfl Tryz.underlying25 rfl rfl (by kernel_rfl)) ?_
        (first | refine wl_f (f_loadb 0 rfl Tryz.underlying23 rfl rfl rfl) ?_ | refine wl_f (f_loadb 1 rfl Tryz.underlying23 rfl rfl rfl) ?_ | refine wl_f (f_loadb 2 rfl Tryz.underlying23 rfl rfl rfl) ?_ | refine wl_f (f_loadb 3 rfl Tryz.underlying23 rfl rfl rfl) ?_ | refine wl_f (f_loadb 4 rfl Tryz.underlying23 rfl rfl rfl) ?_ | refine wl_f (f_loadb 5 rfl Tryz.underlying23 rfl rfl rfl) ?_ | refine wl_f (f_loadb 6 rfl Tryz.underlying23 rfl rfl rfl) ?_)
        refine wl_f (f_fieldAddr 2 rfl Tryz.underlying25 rfl rfl (by kernel_rfl)) ?_
        (first | refine wl_f (f_loadb 0 rfl Tryz.underlying23 rfl rfl rfl) ?_ | refine wl_f (f_loadb 1 rfl Tryz.underlying23 rfl rfl rfl) ?_ | refine wl_f (f_loadb 2 rfl Tryz.underlying23 rfl rfl rfl) ?_ | refine wl_f (f_loadb 3 rfl Tryz.underlying23 rfl rfl rfl) ?_ | refine wl_f (f_loadb 4 rfl Tryz.underlying23 rfl rfl rfl) ?_ | refine wl_f (f_loadb 5 rfl Tryz.underlying23 rfl rfl rfl) ?_ | refine wl_f (f_loadb 6 rfl Tryz.underlying23 rfl rfl rfl) ?_)
        have hos := hls (k, o, s) (by simp)
        have hos' : o + s < 18446744073709551616 := hos
        refine wl_f (f_eqv (v' := .int .u64 ((o + s : Nat) : Int)) (f_addu rfl rfl (by omega)) (by rw [Int.natCast_add])) ?_
        refine wl_e (e_call0 rfl Tryz.func43 (by kernel_rfl) (fun w hh => rexact_spec xo xs (o + s) w hos')) ?_
        rintro _ _ w9 ⟨_, rfl, rfl, rfl⟩
        refine wl_f (f_not rfl rfl) ?_
        refine wl_end [(0, _), (1, _), (5, _), (6, _), (8, _), (47, _)] ⟨rfl, rfl, rfl, rfl, rfl, rfl, trivial⟩ ?_
        refine w_ifb rfl (fun hc5 => ?_) (fun hc5 => ?_)
        · skip
          have hex : o + s < xo + xs := by
            refine Classical.byContradiction fun h => ?_
            rw [decide_eq_true (show xo + xs ≤ o + s by omega)] at hc5
            cases hc5
          refine w_seq ?_
          refine w_reg ?_
          refine wl_f (f_build rfl build_entry0) ?_
          (first | refine wl_e0 (e_store0 (us := [_, _, _]) rfl rfl rfl (by kernel_rfl) (by simp [Value.oneCell']) rfl rfl) ?_ | refine wl_e0 (e_store1 (us := [_, _, _]) rfl rfl rfl (by kernel_rfl) (by simp [Value.oneCell']) rfl rfl) ?_ | refine wl_e0 (e_store2 (us := [_, _, _]) rfl rfl rfl (by kernel_rfl) (by simp [Value.oneCell']) rfl rfl) ?_ | refine wl_e0 (e_store3 (us := [_, _, _]) rfl rfl rfl (by kernel_rfl) (by simp [Value.oneCell']) rfl rfl) ?_)
          rintro _ _ w10_1 rfl
          refine wl_f (f_assign rfl) ?_
          refine wl_end [(6, _), (7, _)] ⟨rfl, rfl, trivial⟩ ?_
          refine w_pick [2, 1] rfl ?_
          refine w_ret ?_
          refine ⟨_, _, fun a ha hh => results_mix Tryz.results15 (rm_cell (cell_agg 0 rfl Tryz.underlying25 rfl (by kernel_rfl) rfl) (rm_tmp rfl rm_nil)) a ha _ hh, List.sublist_cons_self .., ?_⟩
          exact ⟨_, _, rfl, ⟨_, rfl⟩, .inl ⟨1, rfl, rfl, .inr ⟨o, s, A, B, hAt, .inr ⟨hx, .inr ⟨hxn, hex, rfl⟩⟩⟩⟩⟩
        · skip
          have hex : xo + xs ≤ o + s := by
            refine Classical.byContradiction fun h => hc5 ?_
            rw [decide_eq_false h]
            rfl
          refine w_skip ?_
          refine w_seq ?_
          refine w_draw [(0, true), (1, true), (2, true), (3, true), (4, true), (5, true), (6, true)] (_) ([]) mixed (by kernel_rfl) (by kernel_rfl) rfl (perm_all _) (fun w11_ => ?_)
          refine wd_f rfl (f_fieldAddr 1 rfl Tryz.underlying25 rfl rfl (by kernel_rfl)) ?_
          (first | refine wd_f rfl (f_loadb 0 rfl Tryz.underlying23 rfl rfl rfl) ?_ | refine wd_f rfl (f_loadb 1 rfl Tryz.underlying23 rfl rfl rfl) ?_ | refine wd_f rfl (f_loadb 2 rfl Tryz.underlying23 rfl rfl rfl) ?_ | refine wd_f rfl (f_loadb 3 rfl Tryz.underlying23 rfl rfl rfl) ?_ | refine wd_f rfl (f_loadb 4 rfl Tryz.underlying23 rfl rfl rfl) ?_ | refine wd_f rfl (f_loadb 5 rfl Tryz.underlying23 rfl rfl rfl) ?_ | refine wd_f rfl (f_loadb 6 rfl Tryz.underlying23 rfl rfl rfl) ?_)
          refine wd_f rfl (f_move rfl) ?_
          refine wd_f rfl (f_nilCheck rfl) ?_
          refine wd_f rfl (f_fieldAddr 3 rfl Tryz.underlying50 rfl rfl (by kernel_rfl)) ?_
          refine wd_f rfl (f_loadB 1 0 rfl rfl rfl Tryz.underlying23 rfl rfl) ?_
          refine wd_f rfl (f_lss rfl rfl) ?_
          refine wd_end [(0, _), (1, _), (5, _), (6, _), (8, _), (55, _)] ⟨rfl, rfl, rfl, rfl, rfl, rfl, trivial⟩ ?_
          refine w_post (fun m' H w' => m' = [(0, .pointer (some ⟨q, 0, .none⟩)), (1, .string k), (5, .pointer (some ⟨b0_0, 0, .none⟩)), (6, .pointer (some ⟨b0_1, 0, .none⟩)), (8, .pointer (some ⟨b1_6, 0, .none⟩))] ∧ H = [blk b1_6 [.string k, .int .u64 (o : Int), .int .u64 (s : Int)] 25, bun (rts q 1 n (A ++ (k, o, s) :: B) LV base sum), blk b0_1 [.string ByteArray.empty, .int .u64 0, .int .u64 0] 25, blk b0_0 [.string x, .int .u64 (xo : Int), .int .u64 ((max xs (base - xo) : Nat) : Int)] 25]) ?_ ?_
          · skip
            refine w_ifd rfl (fun hc6 => ?_) (fun hc6 => ?_)
            · skip
              have hlt : xo < base := by
                have : (xo : Int) < (base : Int) := hc6
                omega
              refine w_drawk [(0, true), (1, true), (2, true), (3, true), (4, true), (5, true), (6, true), (7, true), (8, true), (9, true), (10, true), (11, false)] ([(_, none), (_, none), (_, none), (_, some 11)]) ([]) mixed (by kernel_rfl) (by kernel_rfl) rfl rfl (List.Perm.refl _) (fun w12_ => ?_)
              refine wk_f rfl (f_fieldAddr 2 rfl Tryz.underlying25 rfl rfl (by kernel_rfl)) ?_
              (first | refine wk_f rfl (f_loadb 0 rfl Tryz.underlying23 rfl rfl rfl) ?_ | refine wk_f rfl (f_loadb 1 rfl Tryz.underlying23 rfl rfl rfl) ?_ | refine wk_f rfl (f_loadb 2 rfl Tryz.underlying23 rfl rfl rfl) ?_ | refine wk_f rfl (f_loadb 3 rfl Tryz.underlying23 rfl rfl rfl) ?_ | refine wk_f rfl (f_loadb 4 rfl Tryz.underlying23 rfl rfl rfl) ?_ | refine wk_f rfl (f_loadb 5 rfl Tryz.underlying23 rfl rfl rfl) ?_ | refine wk_f rfl (f_loadb 6 rfl Tryz.underlying23 rfl rfl rfl) ?_)
              refine wk_f rfl (f_move rfl) ?_
              refine wk_f rfl (f_nilCheck rfl) ?_
              refine wk_f rfl (f_fieldAddr 3 rfl Tryz.underlying50 rfl rfl (by kernel_rfl)) ?_
              refine wk_f rfl (f_loadB 1 0 rfl rfl rfl Tryz.underlying23 rfl rfl) ?_
              refine wk_f rfl (f_fieldAddr 1 rfl Tryz.underlying25 rfl rfl (by kernel_rfl)) ?_
              (first | refine wk_f rfl (f_loadb 0 rfl Tryz.underlying23 rfl rfl rfl) ?_ | refine wk_f rfl (f_loadb 1 rfl Tryz.underlying23 rfl rfl rfl) ?_ | refine wk_f rfl (f_loadb 2 rfl Tryz.underlying23 rfl rfl rfl) ?_ | refine wk_f rfl (f_loadb 3 rfl Tryz.underlying23 rfl rfl rfl) ?_ | refine wk_f rfl (f_loadb 4 rfl Tryz.underlying23 rfl rfl rfl) ?_ | refine wk_f rfl (f_loadb 5 rfl Tryz.underlying23 rfl rfl rfl) ?_ | refine wk_f rfl (f_loadb 6 rfl Tryz.underlying23 rfl rfl rfl) ?_)
              refine wk_f rfl (f_eqv (v' := .int .u64 ((base - xo : Nat) : Int)) (f_subu rfl rfl (by omega)) (by congr 1; omega)) ?_
              refine wk_f rfl (f_max (r := ((max xs (base - xo) : Nat) : Int)) rfl rfl (by split <;> omega)) ?_
              refine wk_f rfl (f_fieldAddr 2 rfl Tryz.underlying25 rfl rfl (by kernel_rfl)) ?_
              refine wk_e0 rfl (e_storeN 3 (us := [_]) rfl rfl rfl rfl (by kernel_rfl) (by simp [Value.oneCell']) rfl rfl) ?_
              rintro _ _ w12_11 rfl
              refine ⟨_, List.Perm.refl _, ?_⟩
              refine wk_end [(0, _), (1, _), (5, _), (6, _), (8, _)] ⟨rfl, rfl, rfl, rfl, rfl, trivial⟩ ?_
              exact ⟨rfl, rfl⟩
            · skip
              have hge : base - xo = 0 := by
                have : ¬ (xo : Int) < (base : Int) := hc6
                omega
              refine w_sub [(0, _), (1, _), (5, _), (6, _), (8, _)] ⟨rfl, rfl, rfl, rfl, rfl, trivial⟩ (w_skip ?_)
              rw [hge, Nat.max_eq_left (Nat.zero_le xs)]; exact ⟨rfl, rfl⟩
          · rintro _ _ w10 ⟨rfl, rfl⟩
            refine w_seq ?_
            refine w_pick [1, 0, 0, 0] rfl ?_
            refine w_with fun hh => ?_
            obtain ⟨g, cap, e⟩ := rowB_form hh (i := 0) (j := 1) rfl rfl (by simp; omega)
            subst e
            clear hh
            refine w_unb [_, _] ?_
            have hAB : (A ++ B).length ≤ 64 := by
              simp only [List.length_append, List.length_cons] at hl ⊢
              omega
            refine w_post (fun m H w' => ∃ (U : Value), m = [(6, .pointer (some ⟨b0_1, 0, .none⟩)), (8, .pointer (some ⟨b1_6, 0, .none⟩))] ∧ H = rts q 1 n (A ++ B ++ [(x, xo, max xs (base - xo))]) U base sum ++ [blk b1_6 [.string k, .int .u64 (o : Int), .int .u64 (s : Int)] 25, blk b0_1 [.string ByteArray.empty, .int .u64 0, .int .u64 0] 25]) ?_ ?_
            · skip
              refine w_drawx (.fl 0 (.fl 1 (.fl 2 (.fl 3 (.fl 4 (.fl 5 (.fl 6 (.fl 7 (.fl 8 (.fl 9 (.fl 12 (.two 10 (.two 11 (.ef 13 (.ef 14 (.fl 15 (.fl 16 (.ef 17 .done))))) 13 (.ef 11 (.ef 14 (.fl 15 (.fl 16 (.ef 17 .done)))))) 13 (.ef 10 (.ef 11 (.ef 14 (.fl 15 (.fl 16 (.ef 17 .done)))))))))))))))))) ([(_, some 17), (_, none), (_, none), (_, none), (_, none)]) ([]) mixed (by kernel_rfl) (by kernel_rfl) rfl rfl (List.Perm.refl _) (fun w16_ => ?_)
              refine wx_f rfl (f_move rfl) ?_
              refine wx_f rfl (f_move rfl) ?_
              refine wx_f rfl (f_nilCheck rfl) ?_
              refine wx_f rfl (f_fieldAddr 2 rfl Tryz.underlying50 rfl rfl (by kernel_rfl)) ?_
              (first | refine wx_f rfl (f_loadb 0 rfl Tryz.underlying45 rfl rfl rfl) ?_ | refine wx_f rfl (f_loadb 1 rfl Tryz.underlying45 rfl rfl rfl) ?_ | refine wx_f rfl (f_loadb 2 rfl Tryz.underlying45 rfl rfl rfl) ?_ | refine wx_f rfl (f_loadb 3 rfl Tryz.underlying45 rfl rfl rfl) ?_ | refine wx_f rfl (f_loadb 4 rfl Tryz.underlying45 rfl rfl rfl) ?_ | refine wx_f rfl (f_loadb 5 rfl Tryz.underlying45 rfl rfl rfl) ?_ | refine wx_f rfl (f_loadb 6 rfl Tryz.underlying45 rfl rfl rfl) ?_)
              refine wx_f rfl (f_move rfl) ?_
              refine wx_f rfl (f_nilCheck rfl) ?_
              refine wx_f rfl (f_fieldAddr 2 rfl Tryz.underlying50 rfl rfl (by kernel_rfl)) ?_
              (first | refine wx_f rfl (f_loadb 0 rfl Tryz.underlying45 rfl rfl rfl) ?_ | refine wx_f rfl (f_loadb 1 rfl Tryz.underlying45 rfl rfl rfl) ?_ | refine wx_f rfl (f_loadb 2 rfl Tryz.underlying45 rfl rfl rfl) ?_ | refine wx_f rfl (f_loadb 3 rfl Tryz.underlying45 rfl rfl rfl) ?_ | refine wx_f rfl (f_loadb 4 rfl Tryz.underlying45 rfl rfl rfl) ?_ | refine wx_f rfl (f_loadb 5 rfl Tryz.underlying45 rfl rfl rfl) ?_ | refine wx_f rfl (f_loadb 6 rfl Tryz.underlying45 rfl rfl rfl) ?_)
              refine wx_f rfl (f_move rfl) ?_
              (first | refine wx_f rfl (f_loadsb (cs := [_, _, _]) 0 rfl Tryz.underlying25 rfl (by kernel_rfl) rfl rfl) ?_ | refine wx_f rfl (f_loadsb (cs := [_, _, _]) 1 rfl Tryz.underlying25 rfl (by kernel_rfl) rfl rfl) ?_ | refine wx_f rfl (f_loadsb (cs := [_, _, _]) 2 rfl Tryz.underlying25 rfl (by kernel_rfl) rfl rfl) ?_ | refine wx_f rfl (f_loadsb (cs := [_, _, _]) 3 rfl Tryz.underlying25 rfl (by kernel_rfl) rfl rfl) ?_ | refine wx_f rfl (f_loadsb (cs := [_, _, _]) 4 rfl Tryz.underlying25 rfl (by kernel_rfl) rfl rfl) ?_ | refine wx_f rfl (f_loadsb (cs := [_, _, _]) 5 rfl Tryz.underlying25 rfl (by kernel_rfl) rfl rfl) ?_ | refine wx_f rfl (f_loadsb (cs := [_, _, _]) 6 rfl Tryz.underlying25 rfl (by kernel_rfl) rfl rfl) ?_)
              refine wx_two ?_ ?_
              · skip
                refine ks_e rfl (e_call0 rfl Tryz.func36 (by kernel_rfl) (fun w hh => rplace_spec _ _ k w (Rd.held0 hh (i := 1) rfl) (by omega))) ?_
                rintro _ _ w16_10 ⟨_, rfl, rfl, y2, rfl, hy2⟩
                obtain rfl : y2 = (A.length : Nat) := rplE_uniq hA hy2
                refine ⟨_, List.Perm.refl _, ?_⟩
                refine wx_two ?_ ?_
                · skip
                  refine ks_e rfl (e_call0 rfl Tryz.func37 (by kernel_rfl) (fun w hh => rwithout_spec _ _ A B (k, o, s) w (Rd.held0 hh (i := 1) rfl) (by omega))) ?_
                  rintro _ _ w16_11 ⟨_, rfl, U1, a1, rfl, rfl⟩
                  refine ⟨_, List.perm_append_comm_assoc _ _ _, ?_⟩
                  refine wx_ef ?_
                  refine ks_e rfl (e_lit1 (cs := [_, _, _]) t45 rfl rfl rfl (by omega)) ?_
                  rintro _ _ w16_13 ⟨b16_13, rfl, rfl⟩
                  refine ⟨_, List.perm_middle.symm, ?_⟩
                  refine wx_ef ?_
                  refine ks_e rfl (e_appN 6 t45 rfl rfl rfl (fun w hh => Rd.held0 hh (i := 5) rfl) (by simp [Value.oneCell']) (by omega) (by omega)) ?_
                  rintro _ _ w16_14 ⟨⟨U2, a2, rfl⟩, rfl⟩
                  refine ⟨_, List.Perm.refl _, ?_⟩
                  refine wx_f rfl (f_nilCheck rfl) ?_
                  refine wx_f rfl (f_fieldAddr 2 rfl Tryz.underlying50 rfl rfl (by kernel_rfl)) ?_
                  refine wx_ef ?_
                  refine ks_e0 rfl (e_storeN 0 (us := [_]) rfl rfl rfl rfl (by kernel_rfl) (by simp [Value.oneCell']) rfl rfl) ?_
                  rintro _ _ w16_17 rfl
                  refine ⟨_, pick_perm [1, 1, 1, 1] _ rfl, ?_⟩
                  refine wx_endp [(6, _), (8, _)] [4, 5, 1, 1] ⟨rfl, rfl, trivial⟩ rfl ?_
                  refine ⟨.slice U2 ((A ++ B).length + 1) a2, rfl, ?_⟩
                  rw [rts, encs_snoc, List.length_append (bs := [(x, xo, max xs (base - xo))])]
                  rfl
                · skip
                  refine ks_e rfl (e_lit1 (cs := [_, _, _]) t45 rfl rfl rfl (by omega)) ?_
                  rintro _ _ w16_13 ⟨b16_13, rfl, rfl⟩
                  refine ⟨_, List.perm_middle.symm, ?_⟩
                  refine wx_ef ?_
                  refine ks_e rfl (e_call0 rfl Tryz.func37 (by kernel_rfl) (fun w hh => rwithout_spec _ _ A B (k, o, s) w (Rd.held0 hh (i := 1) rfl) (by omega))) ?_
                  rintro _ _ w16_11 ⟨_, rfl, U1, a1, rfl, rfl⟩
                  refine ⟨_, List.perm_append_comm_assoc _ _ _, ?_⟩
                  refine wx_ef ?_
                  refine ks_e rfl (e_appN 5 t45 rfl rfl rfl (fun w hh => Rd.held0 hh (i := 6) rfl) (by simp [Value.oneCell']) (by omega) (by omega)) ?_
                  rintro _ _ w16_14 ⟨⟨U2, a2, rfl⟩, rfl⟩
                  refine ⟨_, List.Perm.refl _, ?_⟩
                  refine wx_f rfl (f_nilCheck rfl) ?_
                  refine wx_f rfl (f_fieldAddr 2 rfl Tryz.underlying50 rfl rfl (by kernel_rfl)) ?_
                  refine wx_ef ?_
                  refine ks_e0 rfl (e_storeN 0 (us := [_]) rfl rfl rfl rfl (by kernel_rfl) (by simp [Value.oneCell']) rfl rfl) ?_
                  rintro _ _ w16_17 rfl
                  refine ⟨_, pick_perm [1, 1, 1, 1] _ rfl, ?_⟩
                  refine wx_endp [(6, _), (8, _)] [4, 4, 1, 1] ⟨rfl, rfl, trivial⟩ rfl ?_
                  refine ⟨.slice U2 ((A ++ B).length + 1) a2, rfl, ?_⟩
                  rw [rts, encs_snoc, List.length_append (bs := [(x, xo, max xs (base - xo))])]
                  rfl
              · skip
                refine ks_e rfl (e_lit1 (cs := [_, _, _]) t45 rfl rfl rfl (by omega)) ?_
                rintro _ _ w16_13 ⟨b16_13, rfl, rfl⟩
                refine ⟨_, List.perm_middle.symm, ?_⟩
                refine wx_ef ?_
                refine ks_e rfl (e_call0 rfl Tryz.func36 (by kernel_rfl) (fun w hh => rplace_spec _ _ k w (Rd.held0 hh (i := 1) rfl) (by omega))) ?_
                rintro _ _ w16_10 ⟨_, rfl, rfl, y2, rfl, hy2⟩
                obtain rfl : y2 = (A.length : Nat) := rplE_uniq hA hy2
                refine ⟨_, List.Perm.refl _, ?_⟩
                refine wx_ef ?_
                refine ks_e rfl (e_call0 rfl Tryz.func37 (by kernel_rfl) (fun w hh => rwithout_spec _ _ A B (k, o, s) w (Rd.held0 hh (i := 1) rfl) (by omega))) ?_
                rintro _ _ w16_11 ⟨_, rfl, U1, a1, rfl, rfl⟩
                refine ⟨_, List.perm_append_comm_assoc _ _ _, ?_⟩
                refine wx_ef ?_
                refine ks_e rfl (e_appN 5 t45 rfl rfl rfl (fun w hh => Rd.held0 hh (i := 6) rfl) (by simp [Value.oneCell']) (by omega) (by omega)) ?_
                rintro _ _ w16_14 ⟨⟨U2, a2, rfl⟩, rfl⟩
                refine ⟨_, List.Perm.refl _, ?_⟩
                refine wx_f rfl (f_nilCheck rfl) ?_
                refine wx_f rfl (f_fieldAddr 2 rfl Tryz.underlying50 rfl rfl (by kernel_rfl)) ?_
                refine wx_ef ?_
                refine ks_e0 rfl (e_storeN 0 (us := [_]) rfl rfl rfl rfl (by kernel_rfl) (by simp [Value.oneCell']) rfl rfl) ?_
                rintro _ _ w16_17 rfl
                refine ⟨_, pick_perm [1, 1, 1, 1] _ rfl, ?_⟩
                refine wx_endp [(6, _), (8, _)] [4, 4, 1, 1] ⟨rfl, rfl, trivial⟩ rfl ?_
                refine ⟨.slice U2 ((A ++ B).length + 1) a2, rfl, ?_⟩
                rw [rts, encs_snoc, List.length_append (bs := [(x, xo, max xs (base - xo))])]
                rfl
            rintro _ _ w16_ ⟨U, rfl, rfl⟩
            refine w_seq ?_
            refine w_reg ?_
            (first | refine wl_f (f_loadsb (cs := [_, _, _]) 0 rfl Tryz.underlying25 rfl (by kernel_rfl) rfl rfl) ?_ | refine wl_f (f_loadsb (cs := [_, _, _]) 1 rfl Tryz.underlying25 rfl (by kernel_rfl) rfl rfl) ?_ | refine wl_f (f_loadsb (cs := [_, _, _]) 2 rfl Tryz.underlying25 rfl (by kernel_rfl) rfl rfl) ?_ | refine wl_f (f_loadsb (cs := [_, _, _]) 3 rfl Tryz.underlying25 rfl (by kernel_rfl) rfl rfl) ?_ | refine wl_f (f_loadsb (cs := [_, _, _]) 4 rfl Tryz.underlying25 rfl (by kernel_rfl) rfl rfl) ?_ | refine wl_f (f_loadsb (cs := [_, _, _]) 5 rfl Tryz.underlying25 rfl (by kernel_rfl) rfl rfl) ?_ | refine wl_f (f_loadsb (cs := [_, _, _]) 6 rfl Tryz.underlying25 rfl (by kernel_rfl) rfl rfl) ?_)
            (first | refine wl_e0 (e_store0 (us := [_, _, _]) rfl rfl rfl (by kernel_rfl) (by simp [Value.oneCell']) rfl rfl) ?_ | refine wl_e0 (e_store1 (us := [_, _, _]) rfl rfl rfl (by kernel_rfl) (by simp [Value.oneCell']) rfl rfl) ?_ | refine wl_e0 (e_store2 (us := [_, _, _]) rfl rfl rfl (by kernel_rfl) (by simp [Value.oneCell']) rfl rfl) ?_ | refine wl_e0 (e_store3 (us := [_, _, _]) rfl rfl rfl (by kernel_rfl) (by simp [Value.oneCell']) rfl rfl) ?_)
            rintro _ _ w17_1 rfl
            refine wl_f (f_assign rfl) ?_
            refine wl_end [(6, _), (7, _)] ⟨rfl, rfl, trivial⟩ ?_
            refine w_bun (H := [_, _]) [_, _] ?_
            refine w_pick [2, 0] rfl ?_
            refine w_ret ?_
            refine ⟨_, _, fun a ha hh => results_mix Tryz.results15 (rm_cell (cell_agg 0 rfl Tryz.underlying25 rfl (by kernel_rfl) rfl) (rm_tmp rfl rm_nil)) a ha _ hh, List.sublist_cons_self .., ?_⟩
            exact ⟨_, _, rfl, ⟨_, rfl⟩, .inr ⟨o, s, A, B, hAt, hx, hxn, hex, rfl, rfl⟩⟩
end Go.Proofs.YtbcfdgnpdaaleaaGreat

/- Saving's exchanging against the reference, plain. -/
namespace Go.Proofs.YtbcfdgnpdaaleaaGreat
open Go.RowKit

section
variable {m : Nat} {E E' : List (Option En)} {l l' : Ord} {L L' : List En} {k x : ByteArray}
theorem enz_inj {k' : ByteArray} {o s : Nat} {e e' : Int} (h : (Value.tuple [enZ, .int .i64 e].toArray) = .tuple [enV k' o s, .int .i64 e'].toArray) : k' = ByteArray.empty ∧ e = e' := by
  simp [enZ, enV] at h
  exact ⟨h.1.1.symm, h.2⟩
theorem SRel.swap {base xo xs : Nat} {u u' : Value} (h : SRel E l L) (hf : SFact m E l) (hS : SwapG E base k x xo xs u E') (hL : SwapL E l base k xo xs u l') (hR : RsSwapG L base k x xo xs u' L') : u' = u ∧ SRel E' l' L' := by
  have hx1 : x ∈ eks L → ∃ i o s, Has E x i o s := fun hx => by
    obtain ⟨y, hy, rfl⟩ := List.mem_map.1 hx
    obtain ⟨i, hi⟩ := (h.mem hf).1 hy
    exact ⟨i, y.2.1, y.2.2, hi⟩
  rcases hS with ⟨e, rfl, rfl, hE⟩ | ⟨i, o, s, hi, hx, hno, hc, rfl, rfl⟩
  · have he0 : e ≠ 0 := by
      rcases hE with ⟨_, rfl⟩ | ⟨_, _, _, _, ⟨_, rfl⟩ | ⟨_, ⟨_, rfl⟩ | ⟨_, _, rfl⟩⟩⟩ <;> decide
    have hl' : l' = l := by
      rcases hL with ⟨_, _, hl⟩ | ⟨_, _, _, _, hu, _⟩
      · exact hl
      · exact absurd (enz_inj hu).2 he0
    subst hl'
    rcases hR with ⟨e', rfl, rfl, hE'⟩ | ⟨o', s', A, B, hAt, hx', hno', hc', _, _⟩
    · refine ⟨?_, h⟩
      suffices e' = e by rw [this]
      rcases hE with ⟨h1, rfl⟩ | ⟨i, o, s, hi, hE⟩
      · rcases hE' with ⟨_, rfl⟩ | ⟨o', s', A, B, hAt, _⟩
        · rfl
        · obtain ⟨j, hj⟩ := (h.mem hf (x := (k, o', s'))).1 (by rw [hAt.1]; simp)
          exact absurd hj (h1 j o' s')
      · rcases hE' with ⟨h1, _⟩ | ⟨o', s', A, B, hAt, hE'⟩
        · exact absurd hi ((h.hasnt hf).1 h1 i o s)
        · obtain ⟨rfl, rfl⟩ := h.at hf hi hAt.1
          rcases hE with ⟨h1, rfl⟩ | ⟨h1, ⟨⟨j, oj, sj, hj⟩, rfl⟩ | ⟨h2, h3, rfl⟩⟩ <;> rcases hE' with ⟨h4, rfl⟩ | ⟨h4, ⟨h5, rfl⟩ | ⟨h5, h6, rfl⟩⟩
          · rfl
          · exact absurd h1 h4
          · exact absurd h1 h4
          · exact absurd h4 h1
          · rfl
          · exact absurd hj ((h.hasnt hf).1 h5 j oj sj)
          · exact absurd h4 h1
          · obtain ⟨j, oj, sj, hj⟩ := hx1 h5
            exact absurd hj (h2 j oj sj)
          · rfl
    · exfalso
      rcases hE with ⟨h1, _⟩ | ⟨i, o, s, hi, hE⟩
      · obtain ⟨j, hj⟩ := (h.mem hf (x := (k, o', s'))).1 (by rw [hAt.1]; simp)
        exact absurd hj (h1 j o' s')
      · obtain ⟨rfl, rfl⟩ := h.at hf hi hAt.1
        rcases hE with ⟨h1, _⟩ | ⟨_, ⟨⟨j, oj, sj, hj⟩, _⟩ | ⟨_, h3, _⟩⟩
        · exact hx' h1
        · exact absurd hj ((h.hasnt hf).1 hno' j oj sj)
        · omega
  · have hk := hf.ne i _ hi
    have hl' : l' = ins (rem l i) i (xo + max xs (base - xo)) := by
      rcases hL with ⟨e', hu, _⟩ | ⟨i2, o2, s2, hi2, hu, hl⟩
      · exact absurd (enz_inj hu.symm).1 hk
      · have : i = i2 := hf.uq i2 i _ _ hi2 hi rfl
        subst this
        exact hl
    subst hl'
    rcases hR with ⟨e', rfl, rfl, hE'⟩ | ⟨o', s', A, B, hAt, hx', hno', hc', rfl, rfl⟩
    · exfalso
      rcases hE' with ⟨h1, _⟩ | ⟨o', s', A, B, hAt, hE'⟩
      · exact absurd hi ((h.hasnt hf).1 h1 i o s)
      · obtain ⟨rfl, rfl⟩ := h.at hf hi hAt.1
        rcases hE' with ⟨h1, _⟩ | ⟨_, ⟨h2, _⟩ | ⟨_, h3, _⟩⟩
        · exact hx h1
        · obtain ⟨j, oj, sj, hj⟩ := hx1 h2
          exact absurd hj (hno j oj sj)
        · omega
    · obtain ⟨rfl, rfl⟩ := h.at hf hi hAt.1
      refine ⟨rfl, ?_⟩
      have h1 := h.del hf hi hAt.1
      have hil : i < E.length := (List.getElem?_eq_some_iff.1 hi).1
      have h2 := h1.put (n := i) (x := (x, xo, max xs (base - xo))) (by rw [List.length_set]; exact hil) (fun p hp e => by
        obtain ⟨hp1, hp2⟩ := rem_ne hf.nd hp
        have := hf.rng p hp1
        exact hp2 (by omega)) (by
          rw [eks_app]
          have h3 := hno'
          rw [hAt.1, eks_app] at h3
          exact fun hm => (List.mem_append.1 hm).elim (fun hm => h3 (List.mem_append_left _ hm)) (fun hm => h3 (List.mem_append_right _ (by simp only [eks, List.map_cons, List.mem_cons] at hm ⊢; exact .inr hm))))
      rw [List.set_set] at h2
      exact h2
theorem SRel.rdy {base total : Nat} (h : SRel E l L) (hf : SFact m E l) (hB : BInv E base total) (hm : 1 ≤ m) (ht : total ≤ 9223372036854775808) : L.length ≤ m ∧ base ≤ total ∧ (∀ y ∈ L, y.2.1 + y.2.2 ≤ total) ∧ TOk E base total := by
  have hlen := hf.len
  have hT := hB.tok (by omega) ht
  have h1 := h.len
  have h2 := hf.cnt
  have h3 : (E.filterMap id).length ≤ E.length := List.length_filterMap_le ..
  refine ⟨by omega, hT.2.1, fun y hy => ?_, hT⟩
  obtain ⟨i, hi⟩ := (h.mem hf).1 hy
  exact hT.2.2 i y.1 y.2.1 y.2.2 hi
theorem SRel.new (m : Nat) : SRel (List.replicate m none) [] [] := ⟨rfl, List.nodup_nil⟩
end
end Go.Proofs.YtbcfdgnpdaaleaaGreat
