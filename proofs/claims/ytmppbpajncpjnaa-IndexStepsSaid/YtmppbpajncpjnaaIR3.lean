/- The reference's tables: putting, getting, taking out, the keys. -/
import Derived.Test.YtmppbpajncpjnaaIR2
import Derived.Test.YtmppbpajncpjnaaK10
namespace Go.Proofs.Ytmppbpajncpjnaa
open Go.RowKit

theorem get_val {A B : KL} {k : ByteArray} {y : Int} : ((A ++ (k, y) :: B).map Prod.snd)[A.length]? = some y := by simp [List.getElem?_append]
theorem del_map {β γ : Type} (f : β → γ) (A B : List β) (p : β) : ((A ++ p :: B).map f).take A.length ++ ((A ++ p :: B).map f).drop (A.length + 1) = (A ++ B).map f := by
  simp [List.take_append, List.drop_append]
theorem ins_map {β γ : Type} (f : β → γ) (A B : List β) (p : β) : ((A ++ B).map f).take A.length ++ f p :: ((A ++ B).map f).drop A.length = (A ++ p :: B).map f := by simp

set_option maxHeartbeats 4000000 in
theorem rmput_spec (q n : Nat) (M : KL) (r : Res) (k : ByteArray) (v : Int) (w : World) (hn : n ≤ 8192) (hl : M.length ≤ n) (hS : SrtK M) (hr : RmR q n M r) (hs : Holds w r.foot [r] w) :
    Spec Try.prog 25 [.pointer (some ⟨q, 0, .none⟩), .string k, .int .i64 v] w r.foot fun u H => u = .int .i64 (mput n M k v).1 ∧ ∃ M' r', H = [r'] ∧ RmR q n M' r' ∧ SrtK M' ∧ M'.Perm (mput n M k v).2 := by
  refine enter (n := 75) Try.func25 rfl rfl [(0, _), (1, _), (2, _)] rfl ⟨rfl, rfl, rfl, trivial⟩ hs ?_
  refine w_seq ?_
  refine w_reg ?_
  refine wl_f (f_assign rfl) ?_
  refine wl_end [(0, _), (1, _), (2, _)] ⟨rfl, rfl, rfl, trivial⟩ ?_
  refine w_seq ?_
  refine w_reg ?_
  refine wl_f (f_move rfl) ?_
  refine wl_f (f_move rfl) ?_
  refine wl_e (e_call1 r [] rfl Try.func39 (by kernel_rfl) (List.Perm.refl _) (fun w hh hs' => rmat_spec q n M r k w (by omega) hr hs')) ?_
  rintro _ _ w1 ⟨_, rfl, ⟨A, B, is, hMM, rfl, hA, h1, h2⟩, rfl⟩
  obtain ⟨KV, VV, rfl⟩ := id hr
  refine wl_f (f_move rfl) ?_
  refine wl_f (f_extract rfl rfl) ?_
  refine wl_f (f_extract rfl rfl) ?_
  refine wl_f (f_assign rfl) ?_
  refine wl_f (f_assign rfl) ?_
  refine wl_end [(0, _), (1, _), (2, _), (7, _), (8, _)] ⟨rfl, rfl, rfl, rfl, rfl, trivial⟩ ?_
  refine w_seq ?_
  refine w_seq ?_
  refine w_reg ?_
  refine wl_f (f_move rfl) ?_
  refine wl_end [(0, _), (1, _), (2, _), (7, _), (15, _)] ⟨rfl, rfl, rfl, rfl, rfl, trivial⟩ ?_
  refine w_ifb rfl (fun hc1 => ?_) (fun hc1 => ?_)
  · skip
    obtain ⟨y, B', rfl⟩ := h1 hc1
    subst hMM
    have hin : k ∈ keys (A ++ (k, y) :: B') := mem_keys.2 ⟨y, by simp⟩
    have hAl : A.length < (A ++ (k, y) :: B').length := by simp
    have e0 := mput_over (n := n) (v := v) hin
    rw [e0, del_mid hS]
    refine w_with fun hh => ?_
    obtain ⟨g, cap, e⟩ := rowB_form hh (i := 0) (j := 2) rfl rfl (by omega)
    subst e
    clear hh
    refine w_unb (H := []) (rms q n _ _ _) ?_
    refine w_seq ?_
    refine w_reg ?_
    refine wl_f (f_move rfl) ?_
    refine wl_f (f_nilCheck rfl) ?_
    refine wl_f (f_fieldAddr 2 rfl Try.underlying76 rfl rfl (by kernel_rfl)) ?_
    (first | refine wl_f (f_loadb 0 rfl Try.underlying23 rfl rfl rfl) ?_ | refine wl_f (f_loadb 1 rfl Try.underlying23 rfl rfl rfl) ?_ | refine wl_f (f_loadb 2 rfl Try.underlying23 rfl rfl rfl) ?_ | refine wl_f (f_loadb 3 rfl Try.underlying23 rfl rfl rfl) ?_ | refine wl_f (f_loadb 4 rfl Try.underlying23 rfl rfl rfl) ?_ | refine wl_f (f_loadb 5 rfl Try.underlying23 rfl rfl rfl) ?_ | refine wl_f (f_loadb 6 rfl Try.underlying23 rfl rfl rfl) ?_)
    refine wl_f (f_move rfl) ?_
    refine wl_f (f_move rfl) ?_
    refine wl_f (f_indexAddr 1 (i := A.length) rfl rfl Try.underlying23 (by kernel_rfl) rfl hAl) ?_
    refine wl_e0 (e_storerN 2 (us := [_]) (xs' := iv (((A ++ (k, y) :: B').map Prod.snd).set A.length v)) rfl rfl rfl rfl (by kernel_rfl) (by simp [Value.oneCell']) (by simp [iv]) (map_set1 (Value.int .i64) v (by rw [List.length_map]; exact hAl))) ?_
    rintro _ _ w3_7 rfl
    refine wl_end [] trivial ?_
    refine w_seq ?_
    refine w_reg ?_
    refine wl_f (f_assign rfl) ?_
    refine wl_end [(6, _)] ⟨rfl, trivial⟩ ?_
    refine w_bun (H := []) [_, _, _] ?_
    refine w_ret ?_
    refine ⟨_, _, fun a ha hh => results_tmps Try.results25 rfl a ha _, List.Sublist.refl _, ?_⟩
    refine ⟨rfl, A ++ (k, v) :: B', _, rfl, ⟨KV, .slice (some ⟨g, 0, .none⟩) (A ++ (k, y) :: B').length cap, ?_⟩, srt_over hS, List.perm_middle⟩
    have e1 : ((A ++ (k, y) :: B').map Prod.snd).set A.length v = (A ++ (k, v) :: B').map Prod.snd := by simp
    have e2 : keys (A ++ (k, y) :: B') = keys (A ++ (k, v) :: B') := by simp [keys]
    have e3 : (A ++ (k, y) :: B').length = (A ++ (k, v) :: B').length := by simp
    rw [e1, e2, e3]
    rfl
  · skip
    obtain ⟨hno, hBall⟩ := not_there (hMM ▸ hS) hA (h2 (by simpa using hc1))
    rw [← hMM] at hno
    refine w_skip ?_
    refine w_seq ?_
    refine w_seq ?_
    refine w_with fun hh => ?_
    obtain ⟨N, cn, rfl⟩ := rowB_slice hh (i := 0) (j := 1) rfl rfl
    obtain ⟨V, cv, rfl⟩ := rowB_slice hh (i := 0) (j := 2) rfl rfl
    clear hh
    refine w_draw [(0, true), (1, true), (2, true), (3, true), (4, true), (5, true), (6, true), (7, true), (8, true), (9, true)] (_) ([]) mixed (by kernel_rfl) (by kernel_rfl) rfl (perm_all _) (fun w5_ => ?_)
    refine wd_f rfl (f_move rfl) ?_
    refine wd_f rfl (f_nilCheck rfl) ?_
    refine wd_f rfl (f_fieldAddr 1 rfl Try.underlying76 rfl rfl (by kernel_rfl)) ?_
    refine wd_f rfl (f_loadB 0 0 rfl rfl rfl Try.underlying22 rfl rfl) ?_
    refine wd_f rfl (f_len (len := M.length) rfl Try.underlying22) ?_
    refine wd_f rfl (f_move rfl) ?_
    refine wd_f rfl (f_nilCheck rfl) ?_
    refine wd_f rfl (f_fieldAddr 0 rfl Try.underlying76 rfl rfl (by kernel_rfl)) ?_
    refine wd_f rfl (f_loadB 0 0 rfl rfl rfl Try.underlying3 rfl rfl) ?_
    refine wd_f rfl (f_eql rfl rfl) ?_
    refine wd_end [(0, _), (1, _), (2, _), (7, _), (32, _)] ⟨rfl, rfl, rfl, rfl, rfl, trivial⟩ ?_
    refine w_ifd rfl (fun hc2 => ?_) (fun hc2 => ?_)
    · skip
      have hfull : M.length = n := by
        have : (M.length : Int) = (n : Int) := hc2
        omega
      refine w_seq ?_
      refine w_reg ?_
      refine wl_f (f_assign rfl) ?_
      refine wl_end [(6, _)] ⟨rfl, trivial⟩ ?_
      refine w_ret ?_
      refine ⟨_, _, fun a ha hh => results_tmps Try.results25 rfl a ha _, List.Sublist.refl _, ?_⟩
      rw [mput_full hno hfull]; exact ⟨rfl, M, _, rfl, hr, hS, List.Perm.refl _⟩
    · skip
      have hfull : M.length ≠ n := fun h => hc2 (show (M.length : Int) = (n : Int) by omega)
      rw [mput_new hno hfull]
      have hAl : A.length ≤ M.length := by rw [hMM]; simp
      generalize hi : A.length = i at hAl
      refine w_with fun hh => ?_
      have hcn : M.length ≤ cn := by
        obtain ⟨_, _, e, _, h, _⟩ := Rd.heldB hh (i := 0) (j := 1) rfl rfl
        injection e with _ _ e
        subst e
        exact h
      have hcv : M.length ≤ cv := by
        obtain ⟨_, _, e, _, h, _⟩ := Rd.heldB hh (i := 0) (j := 2) rfl rfl
        injection e with _ _ e
        subst e
        exact h
      clear hh
      have hlen : 0 + (i - 0) + 1 + (M.length - i) = M.length + 1 := by omega
      refine w_skip ?_
      refine w_seq ?_
      refine w_unb (H := []) (rms q n M (.slice N M.length cn) (.slice V M.length cv)) ?_
      refine w_post (fun m H w' => ∃ (U : Option Addr) (cu : Nat), m = [(0, .pointer (some ⟨q, 0, .none⟩)), (2, .int .i64 v), (7, .int .i64 (i : Nat))] ∧ H = [blk q [.int .i64 (n : Int), .slice U (M.length + 1) cu, .slice V M.length cv] 76, row (.slice U (M.length + 1) cu) 9 1 (M.length + 1) (sv ((keys M).take i ++ k :: (keys M).drop i)), row (.slice V M.length cv) 3 1 M.length (iv (M.map Prod.snd))]) ?_ ?_
      · skip
        refine w_drawx (.fl 0 (.fl 2 (.fl 3 (.fl 4 (.fl 5 (.fl 6 (.fl 7 (.fl 9 (.fl 12 (.fl 13 (.fl 14 (.fl 15 (.fl 16 (.fl 17 (.two 1 (.two 8 (.ef 10 (.ef 11 (.ef 18 (.fl 19 (.fl 20 (.ef 21 .done)))))) 10 (.ef 8 (.ef 11 (.ef 18 (.fl 19 (.fl 20 (.ef 21 .done))))))) 10 (.ef 1 (.ef 8 (.ef 11 (.ef 18 (.fl 19 (.fl 20 (.ef 21 .done)))))))))))))))))))))) ([(_, some 21), (_, none)]) ([_]) mixed (by kernel_rfl) (by kernel_rfl) rfl rfl (List.Perm.refl _) (fun w7_ => ?_)
        refine wx_f rfl (f_move rfl) ?_
        refine wx_f rfl (f_move rfl) ?_
        refine wx_f rfl (f_nilCheck rfl) ?_
        refine wx_f rfl (f_fieldAddr 1 rfl Try.underlying76 rfl rfl (by kernel_rfl)) ?_
        (first | refine wx_f rfl (f_loadb 0 rfl Try.underlying22 rfl rfl rfl) ?_ | refine wx_f rfl (f_loadb 1 rfl Try.underlying22 rfl rfl rfl) ?_ | refine wx_f rfl (f_loadb 2 rfl Try.underlying22 rfl rfl rfl) ?_ | refine wx_f rfl (f_loadb 3 rfl Try.underlying22 rfl rfl rfl) ?_ | refine wx_f rfl (f_loadb 4 rfl Try.underlying22 rfl rfl rfl) ?_ | refine wx_f rfl (f_loadb 5 rfl Try.underlying22 rfl rfl rfl) ?_ | refine wx_f rfl (f_loadb 6 rfl Try.underlying22 rfl rfl rfl) ?_)
        refine wx_f rfl (f_move rfl) ?_
        refine wx_f rfl (f_sliceA 1 (l := 0) (u := i) rfl Try.underlying22 (by kernel_rfl) rfl ⟨_, rfl⟩ (by omega) (by omega)) ?_
        refine wx_f rfl (f_move rfl) ?_
        refine wx_f rfl (f_move rfl) ?_
        refine wx_f rfl (f_nilCheck rfl) ?_
        refine wx_f rfl (f_fieldAddr 1 rfl Try.underlying76 rfl rfl (by kernel_rfl)) ?_
        (first | refine wx_f rfl (f_loadb 0 rfl Try.underlying22 rfl rfl rfl) ?_ | refine wx_f rfl (f_loadb 1 rfl Try.underlying22 rfl rfl rfl) ?_ | refine wx_f rfl (f_loadb 2 rfl Try.underlying22 rfl rfl rfl) ?_ | refine wx_f rfl (f_loadb 3 rfl Try.underlying22 rfl rfl rfl) ?_ | refine wx_f rfl (f_loadb 4 rfl Try.underlying22 rfl rfl rfl) ?_ | refine wx_f rfl (f_loadb 5 rfl Try.underlying22 rfl rfl rfl) ?_ | refine wx_f rfl (f_loadb 6 rfl Try.underlying22 rfl rfl rfl) ?_)
        refine wx_f rfl (f_move rfl) ?_
        refine wx_f rfl (f_sliceA 1 (l := i) (u := M.length) rfl Try.underlying22 (by kernel_rfl) ⟨_, rfl⟩ rfl (by omega) (by omega)) ?_
        refine wx_two ?_ ?_
        · skip
          refine ks_e rfl (e_lit0 t22) ?_
          rintro _ _ w7_1 ⟨b7_1, rfl, rfl⟩
          refine ⟨_, List.perm_middle.symm, ?_⟩
          refine wx_two ?_ ?_
          · skip
            refine ks_e rfl (e_appN 2 t22 rfl rfl rfl (fun w hh => (Rd.held0 hh (i := 1) rfl).cut (l := 0) (u := i) (by omega) (by omega)) (mid_one (sv_one _) _ _) (by omega) (by omega)) ?_
            rintro _ _ w7_8 ⟨⟨U1, a1, rfl⟩, rfl⟩
            refine ⟨_, List.Perm.refl _, ?_⟩
            refine wx_ef ?_
            refine ks_e rfl (e_lit1 (cs := [_]) t22 rfl rfl rfl (by omega)) ?_
            rintro _ _ w7_10 ⟨b7_10, rfl, rfl⟩
            refine ⟨_, List.perm_middle.symm, ?_⟩
            refine wx_ef ?_
            refine ks_e rfl (e_appN 3 t22 rfl rfl rfl (fun w hh => Rd.held0 hh (i := 2) rfl) (by simp [Value.oneCell']) (by omega) (by omega)) ?_
            rintro _ _ w7_11 ⟨⟨U2, a2, rfl⟩, rfl⟩
            refine ⟨_, List.Perm.refl _, ?_⟩
            refine wx_ef ?_
            refine ks_e rfl (e_appN 3 t22 rfl rfl rfl (fun w hh => (Rd.held0 hh (i := 1) rfl).cut (l := i) (u := M.length) (by omega) (by omega)) (mid_one (sv_one _) _ _) (by omega) (by omega)) ?_
            rintro _ _ w7_18 ⟨⟨U3, a3, rfl⟩, rfl⟩
            refine ⟨_, List.Perm.refl _, ?_⟩
            refine wx_f rfl (f_nilCheck rfl) ?_
            refine wx_f rfl (f_fieldAddr 1 rfl Try.underlying76 rfl rfl (by kernel_rfl)) ?_
            refine wx_ef ?_
            refine ks_e0 rfl (e_storeN 0 (us := [_]) rfl rfl rfl rfl (by kernel_rfl) (by simp [Value.oneCell']) rfl rfl) ?_
            rintro _ _ w7_21 rfl
            refine ⟨_, pick_perm [1] _ rfl, ?_⟩
            refine wx_endp [(0, _), (2, _), (7, _)] [1, 2, 2] ⟨rfl, rfl, rfl, trivial⟩ rfl ?_
            refine ⟨U3, a3, rfl, ?_⟩
            have hcells := ins_cellsG Value.string (keys M) i k (by rw [keys, List.length_map]; omega)
            rw [show (keys M).length = M.length by simp [keys]] at hcells
            rw [hlen]
            simp only [sv]
            rw [hcells]
            rfl
          · skip
            refine ks_e rfl (e_lit1 (cs := [_]) t22 rfl rfl rfl (by omega)) ?_
            rintro _ _ w7_10 ⟨b7_10, rfl, rfl⟩
            refine ⟨_, List.perm_middle.symm, ?_⟩
            refine wx_ef ?_
            refine ks_e rfl (e_appN 3 t22 rfl rfl rfl (fun w hh => (Rd.held0 hh (i := 1) rfl).cut (l := 0) (u := i) (by omega) (by omega)) (mid_one (sv_one _) _ _) (by omega) (by omega)) ?_
            rintro _ _ w7_8 ⟨⟨U1, a1, rfl⟩, rfl⟩
            refine ⟨_, List.Perm.refl _, ?_⟩
            refine wx_ef ?_
            refine ks_e rfl (e_appN 3 t22 rfl rfl rfl (fun w hh => Rd.held0 hh (i := 2) rfl) (by simp [Value.oneCell']) (by omega) (by omega)) ?_
            rintro _ _ w7_11 ⟨⟨U2, a2, rfl⟩, rfl⟩
            refine ⟨_, List.Perm.refl _, ?_⟩
            refine wx_ef ?_
            refine ks_e rfl (e_appN 3 t22 rfl rfl rfl (fun w hh => (Rd.held0 hh (i := 1) rfl).cut (l := i) (u := M.length) (by omega) (by omega)) (mid_one (sv_one _) _ _) (by omega) (by omega)) ?_
            rintro _ _ w7_18 ⟨⟨U3, a3, rfl⟩, rfl⟩
            refine ⟨_, List.Perm.refl _, ?_⟩
            refine wx_f rfl (f_nilCheck rfl) ?_
            refine wx_f rfl (f_fieldAddr 1 rfl Try.underlying76 rfl rfl (by kernel_rfl)) ?_
            refine wx_ef ?_
            refine ks_e0 rfl (e_storeN 0 (us := [_]) rfl rfl rfl rfl (by kernel_rfl) (by simp [Value.oneCell']) rfl rfl) ?_
            rintro _ _ w7_21 rfl
            refine ⟨_, pick_perm [1] _ rfl, ?_⟩
            refine wx_endp [(0, _), (2, _), (7, _)] [1, 2, 2] ⟨rfl, rfl, rfl, trivial⟩ rfl ?_
            refine ⟨U3, a3, rfl, ?_⟩
            have hcells := ins_cellsG Value.string (keys M) i k (by rw [keys, List.length_map]; omega)
            rw [show (keys M).length = M.length by simp [keys]] at hcells
            rw [hlen]
            simp only [sv]
            rw [hcells]
            rfl
        · skip
          refine ks_e rfl (e_lit1 (cs := [_]) t22 rfl rfl rfl (by omega)) ?_
          rintro _ _ w7_10 ⟨b7_10, rfl, rfl⟩
          refine ⟨_, List.perm_middle.symm, ?_⟩
          refine wx_ef ?_
          refine ks_e rfl (e_lit0 t22) ?_
          rintro _ _ w7_1 ⟨b7_1, rfl, rfl⟩
          refine ⟨_, List.perm_middle.symm, ?_⟩
          refine wx_ef ?_
          refine ks_e rfl (e_appN 2 t22 rfl rfl rfl (fun w hh => (Rd.held0 hh (i := 1) rfl).cut (l := 0) (u := i) (by omega) (by omega)) (mid_one (sv_one _) _ _) (by omega) (by omega)) ?_
          rintro _ _ w7_8 ⟨⟨U1, a1, rfl⟩, rfl⟩
          refine ⟨_, List.Perm.refl _, ?_⟩
          refine wx_ef ?_
          refine ks_e rfl (e_appN 2 t22 rfl rfl rfl (fun w hh => Rd.held0 hh (i := 3) rfl) (by simp [Value.oneCell']) (by omega) (by omega)) ?_
          rintro _ _ w7_11 ⟨⟨U2, a2, rfl⟩, rfl⟩
          refine ⟨_, List.Perm.refl _, ?_⟩
          refine wx_ef ?_
          refine ks_e rfl (e_appN 2 t22 rfl rfl rfl (fun w hh => (Rd.held0 hh (i := 1) rfl).cut (l := i) (u := M.length) (by omega) (by omega)) (mid_one (sv_one _) _ _) (by omega) (by omega)) ?_
          rintro _ _ w7_18 ⟨⟨U3, a3, rfl⟩, rfl⟩
          refine ⟨_, List.Perm.refl _, ?_⟩
          refine wx_f rfl (f_nilCheck rfl) ?_
          refine wx_f rfl (f_fieldAddr 1 rfl Try.underlying76 rfl rfl (by kernel_rfl)) ?_
          refine wx_ef ?_
          refine ks_e0 rfl (e_storeN 0 (us := [_]) rfl rfl rfl rfl (by kernel_rfl) (by simp [Value.oneCell']) rfl rfl) ?_
          rintro _ _ w7_21 rfl
          refine ⟨_, pick_perm [1] _ rfl, ?_⟩
          refine wx_endp [(0, _), (2, _), (7, _)] [1, 1, 2] ⟨rfl, rfl, rfl, trivial⟩ rfl ?_
          refine ⟨U3, a3, rfl, ?_⟩
          have hcells := ins_cellsG Value.string (keys M) i k (by rw [keys, List.length_map]; omega)
          rw [show (keys M).length = M.length by simp [keys]] at hcells
          rw [hlen]
          simp only [sv]
          rw [hcells]
          rfl
      rintro _ _ w7_ ⟨U6, a6, rfl, rfl⟩
      refine w_seq ?_
      refine w_post (fun m H w' => ∃ (U : Option Addr) (cu : Nat), m = [] ∧ H = [blk q [.int .i64 (n : Int), .slice U6 (M.length + 1) a6, .slice U (M.length + 1) cu] 76, row (.slice U6 (M.length + 1) a6) 9 1 (M.length + 1) (sv ((keys M).take i ++ k :: (keys M).drop i)), row (.slice U (M.length + 1) cu) 3 1 (M.length + 1) (iv ((M.map Prod.snd).take i ++ v :: (M.map Prod.snd).drop i))]) ?_ ?_
      · skip
        refine w_drawx (.fl 0 (.fl 2 (.fl 3 (.fl 4 (.fl 5 (.fl 6 (.fl 7 (.fl 9 (.fl 12 (.fl 13 (.fl 14 (.fl 15 (.fl 16 (.fl 17 (.two 1 (.two 8 (.ef 10 (.ef 11 (.ef 18 (.fl 19 (.fl 20 (.ef 21 .done)))))) 10 (.ef 8 (.ef 11 (.ef 18 (.fl 19 (.fl 20 (.ef 21 .done))))))) 10 (.ef 1 (.ef 8 (.ef 11 (.ef 18 (.fl 19 (.fl 20 (.ef 21 .done)))))))))))))))))))))) ([(_, some 21), (_, none)]) ([_]) mixed (by kernel_rfl) (by kernel_rfl) rfl rfl (pick_perm [0, 1] _ rfl) (fun w8_ => ?_)
        refine wx_f rfl (f_move rfl) ?_
        refine wx_f rfl (f_move rfl) ?_
        refine wx_f rfl (f_nilCheck rfl) ?_
        refine wx_f rfl (f_fieldAddr 2 rfl Try.underlying76 rfl rfl (by kernel_rfl)) ?_
        (first | refine wx_f rfl (f_loadb 0 rfl Try.underlying23 rfl rfl rfl) ?_ | refine wx_f rfl (f_loadb 1 rfl Try.underlying23 rfl rfl rfl) ?_ | refine wx_f rfl (f_loadb 2 rfl Try.underlying23 rfl rfl rfl) ?_ | refine wx_f rfl (f_loadb 3 rfl Try.underlying23 rfl rfl rfl) ?_ | refine wx_f rfl (f_loadb 4 rfl Try.underlying23 rfl rfl rfl) ?_ | refine wx_f rfl (f_loadb 5 rfl Try.underlying23 rfl rfl rfl) ?_ | refine wx_f rfl (f_loadb 6 rfl Try.underlying23 rfl rfl rfl) ?_)
        refine wx_f rfl (f_move rfl) ?_
        refine wx_f rfl (f_sliceA 1 (l := 0) (u := i) rfl Try.underlying23 (by kernel_rfl) rfl ⟨_, rfl⟩ (by omega) (by omega)) ?_
        refine wx_f rfl (f_move rfl) ?_
        refine wx_f rfl (f_move rfl) ?_
        refine wx_f rfl (f_nilCheck rfl) ?_
        refine wx_f rfl (f_fieldAddr 2 rfl Try.underlying76 rfl rfl (by kernel_rfl)) ?_
        (first | refine wx_f rfl (f_loadb 0 rfl Try.underlying23 rfl rfl rfl) ?_ | refine wx_f rfl (f_loadb 1 rfl Try.underlying23 rfl rfl rfl) ?_ | refine wx_f rfl (f_loadb 2 rfl Try.underlying23 rfl rfl rfl) ?_ | refine wx_f rfl (f_loadb 3 rfl Try.underlying23 rfl rfl rfl) ?_ | refine wx_f rfl (f_loadb 4 rfl Try.underlying23 rfl rfl rfl) ?_ | refine wx_f rfl (f_loadb 5 rfl Try.underlying23 rfl rfl rfl) ?_ | refine wx_f rfl (f_loadb 6 rfl Try.underlying23 rfl rfl rfl) ?_)
        refine wx_f rfl (f_move rfl) ?_
        refine wx_f rfl (f_sliceA 1 (l := i) (u := M.length) rfl Try.underlying23 (by kernel_rfl) ⟨_, rfl⟩ rfl (by omega) (by omega)) ?_
        refine wx_two ?_ ?_
        · skip
          refine ks_e rfl (e_lit0 t23) ?_
          rintro _ _ w8_1 ⟨b8_1, rfl, rfl⟩
          refine ⟨_, List.perm_middle.symm, ?_⟩
          refine wx_two ?_ ?_
          · skip
            refine ks_e rfl (e_appN 2 t23 rfl rfl rfl (fun w hh => (Rd.held0 hh (i := 1) rfl).cut (l := 0) (u := i) (by omega) (by omega)) (mid_one (iv_one _) _ _) (by omega) (by omega)) ?_
            rintro _ _ w8_8 ⟨⟨U1, a1, rfl⟩, rfl⟩
            refine ⟨_, List.Perm.refl _, ?_⟩
            refine wx_ef ?_
            refine ks_e rfl (e_lit1 (cs := [_]) t23 rfl rfl rfl (by omega)) ?_
            rintro _ _ w8_10 ⟨b8_10, rfl, rfl⟩
            refine ⟨_, List.perm_middle.symm, ?_⟩
            refine wx_ef ?_
            refine ks_e rfl (e_appN 3 t23 rfl rfl rfl (fun w hh => Rd.held0 hh (i := 2) rfl) (by simp [Value.oneCell']) (by omega) (by omega)) ?_
            rintro _ _ w8_11 ⟨⟨U2, a2, rfl⟩, rfl⟩
            refine ⟨_, List.Perm.refl _, ?_⟩
            refine wx_ef ?_
            refine ks_e rfl (e_appN 3 t23 rfl rfl rfl (fun w hh => (Rd.held0 hh (i := 1) rfl).cut (l := i) (u := M.length) (by omega) (by omega)) (mid_one (iv_one _) _ _) (by omega) (by omega)) ?_
            rintro _ _ w8_18 ⟨⟨U3, a3, rfl⟩, rfl⟩
            refine ⟨_, List.Perm.refl _, ?_⟩
            refine wx_f rfl (f_nilCheck rfl) ?_
            refine wx_f rfl (f_fieldAddr 2 rfl Try.underlying76 rfl rfl (by kernel_rfl)) ?_
            refine wx_ef ?_
            refine ks_e0 rfl (e_storeN 0 (us := [_]) rfl rfl rfl rfl (by kernel_rfl) (by simp [Value.oneCell']) rfl rfl) ?_
            rintro _ _ w8_21 rfl
            refine ⟨_, pick_perm [1] _ rfl, ?_⟩
            refine wx_endp [] [1, 3, 2] trivial rfl ?_
            refine ⟨U3, a3, rfl, ?_⟩
            have hcells := ins_cellsG (Value.int .i64) (M.map Prod.snd) i v (by rw [List.length_map]; omega)
            rw [List.length_map] at hcells
            rw [hlen]
            simp only [iv]
            rw [hcells]
            rfl
          · skip
            refine ks_e rfl (e_lit1 (cs := [_]) t23 rfl rfl rfl (by omega)) ?_
            rintro _ _ w8_10 ⟨b8_10, rfl, rfl⟩
            refine ⟨_, List.perm_middle.symm, ?_⟩
            refine wx_ef ?_
            refine ks_e rfl (e_appN 3 t23 rfl rfl rfl (fun w hh => (Rd.held0 hh (i := 1) rfl).cut (l := 0) (u := i) (by omega) (by omega)) (mid_one (iv_one _) _ _) (by omega) (by omega)) ?_
            rintro _ _ w8_8 ⟨⟨U1, a1, rfl⟩, rfl⟩
            refine ⟨_, List.Perm.refl _, ?_⟩
            refine wx_ef ?_
            refine ks_e rfl (e_appN 3 t23 rfl rfl rfl (fun w hh => Rd.held0 hh (i := 2) rfl) (by simp [Value.oneCell']) (by omega) (by omega)) ?_
            rintro _ _ w8_11 ⟨⟨U2, a2, rfl⟩, rfl⟩
            refine ⟨_, List.Perm.refl _, ?_⟩
            refine wx_ef ?_
            refine ks_e rfl (e_appN 3 t23 rfl rfl rfl (fun w hh => (Rd.held0 hh (i := 1) rfl).cut (l := i) (u := M.length) (by omega) (by omega)) (mid_one (iv_one _) _ _) (by omega) (by omega)) ?_
            rintro _ _ w8_18 ⟨⟨U3, a3, rfl⟩, rfl⟩
            refine ⟨_, List.Perm.refl _, ?_⟩
            refine wx_f rfl (f_nilCheck rfl) ?_
            refine wx_f rfl (f_fieldAddr 2 rfl Try.underlying76 rfl rfl (by kernel_rfl)) ?_
            refine wx_ef ?_
            refine ks_e0 rfl (e_storeN 0 (us := [_]) rfl rfl rfl rfl (by kernel_rfl) (by simp [Value.oneCell']) rfl rfl) ?_
            rintro _ _ w8_21 rfl
            refine ⟨_, pick_perm [1] _ rfl, ?_⟩
            refine wx_endp [] [1, 3, 2] trivial rfl ?_
            refine ⟨U3, a3, rfl, ?_⟩
            have hcells := ins_cellsG (Value.int .i64) (M.map Prod.snd) i v (by rw [List.length_map]; omega)
            rw [List.length_map] at hcells
            rw [hlen]
            simp only [iv]
            rw [hcells]
            rfl
        · skip
          refine ks_e rfl (e_lit1 (cs := [_]) t23 rfl rfl rfl (by omega)) ?_
          rintro _ _ w8_10 ⟨b8_10, rfl, rfl⟩
          refine ⟨_, List.perm_middle.symm, ?_⟩
          refine wx_ef ?_
          refine ks_e rfl (e_lit0 t23) ?_
          rintro _ _ w8_1 ⟨b8_1, rfl, rfl⟩
          refine ⟨_, List.perm_middle.symm, ?_⟩
          refine wx_ef ?_
          refine ks_e rfl (e_appN 2 t23 rfl rfl rfl (fun w hh => (Rd.held0 hh (i := 1) rfl).cut (l := 0) (u := i) (by omega) (by omega)) (mid_one (iv_one _) _ _) (by omega) (by omega)) ?_
          rintro _ _ w8_8 ⟨⟨U1, a1, rfl⟩, rfl⟩
          refine ⟨_, List.Perm.refl _, ?_⟩
          refine wx_ef ?_
          refine ks_e rfl (e_appN 2 t23 rfl rfl rfl (fun w hh => Rd.held0 hh (i := 3) rfl) (by simp [Value.oneCell']) (by omega) (by omega)) ?_
          rintro _ _ w8_11 ⟨⟨U2, a2, rfl⟩, rfl⟩
          refine ⟨_, List.Perm.refl _, ?_⟩
          refine wx_ef ?_
          refine ks_e rfl (e_appN 2 t23 rfl rfl rfl (fun w hh => (Rd.held0 hh (i := 1) rfl).cut (l := i) (u := M.length) (by omega) (by omega)) (mid_one (iv_one _) _ _) (by omega) (by omega)) ?_
          rintro _ _ w8_18 ⟨⟨U3, a3, rfl⟩, rfl⟩
          refine ⟨_, List.Perm.refl _, ?_⟩
          refine wx_f rfl (f_nilCheck rfl) ?_
          refine wx_f rfl (f_fieldAddr 2 rfl Try.underlying76 rfl rfl (by kernel_rfl)) ?_
          refine wx_ef ?_
          refine ks_e0 rfl (e_storeN 0 (us := [_]) rfl rfl rfl rfl (by kernel_rfl) (by simp [Value.oneCell']) rfl rfl) ?_
          rintro _ _ w8_21 rfl
          refine ⟨_, pick_perm [1] _ rfl, ?_⟩
          refine wx_endp [] [1, 3, 1] trivial rfl ?_
          refine ⟨U3, a3, rfl, ?_⟩
          have hcells := ins_cellsG (Value.int .i64) (M.map Prod.snd) i v (by rw [List.length_map]; omega)
          rw [List.length_map] at hcells
          rw [hlen]
          simp only [iv]
          rw [hcells]
          rfl
      rintro _ _ w8_ ⟨U7, a7, rfl, rfl⟩
      refine w_seq ?_
      refine w_reg ?_
      refine wl_f (f_assign rfl) ?_
      refine wl_end [(6, _)] ⟨rfl, trivial⟩ ?_
      refine w_bun (H := []) [_, _, _] ?_
      refine w_ret ?_
      refine ⟨_, _, fun a ha hh => results_tmps Try.results25 rfl a ha _, List.Sublist.refl _, ?_⟩
      subst hi; subst hMM
      refine ⟨rfl, A ++ (k, v) :: B, _, rfl, ⟨.slice U6 ((A ++ B).length + 1) a6, .slice U7 ((A ++ B).length + 1) a7, ?_⟩, srt_put hS hA hBall, List.perm_middle⟩
      have e1 : (A ++ (k, v) :: B).length = (A ++ B).length + 1 := by simp; omega
      have e2 := ins_map (Prod.fst : ByteArray × Int → ByteArray) A B (k, v)
      have e3 := ins_map (Prod.snd : ByteArray × Int → Int) A B (k, v)
      rw [rms, e1, keys, keys, e2, e3]

set_option maxHeartbeats 4000000 in
theorem rmdelete_spec (q n : Nat) (M : KL) (r : Res) (k : ByteArray) (w : World) (hn : n ≤ 8192) (hl : M.length ≤ n) (hS : SrtK M) (hr : RmR q n M r) (hs : Holds w r.foot [r] w) :
    Spec Try.prog 26 [.pointer (some ⟨q, 0, .none⟩), .string k] w r.foot fun u H => u = .tuple #[.int .i64 ((mget M k).getD 0), .bool (mget M k).isSome] ∧ ∃ M' r', H = [r'] ∧ RmR q n M' r' ∧ SrtK M' ∧ M'.Perm (mdel M k) := by
  refine enter (n := 63) Try.func26 rfl rfl [(0, _), (1, _)] rfl ⟨rfl, rfl, trivial⟩ hs ?_
  refine w_seq ?_
  refine w_reg ?_
  refine wl_f (f_assign rfl) ?_
  refine wl_f (f_assign rfl) ?_
  refine wl_end [(0, _), (1, _)] ⟨rfl, rfl, trivial⟩ ?_
  refine w_seq ?_
  refine w_reg ?_
  refine wl_f (f_move rfl) ?_
  refine wl_f (f_move rfl) ?_
  refine wl_e (e_call1 r [] rfl Try.func39 (by kernel_rfl) (List.Perm.refl _) (fun w hh hs' => rmat_spec q n M r k w (by omega) hr hs')) ?_
  rintro _ _ w1 ⟨_, rfl, ⟨A, B, is, hMM, rfl, hA, h1, h2⟩, rfl⟩
  refine wl_f (f_move rfl) ?_
  refine wl_f (f_extract rfl rfl) ?_
  refine wl_f (f_extract rfl rfl) ?_
  refine wl_f (f_assign rfl) ?_
  refine wl_f (f_assign rfl) ?_
  refine wl_end [(0, _), (6, _), (7, _)] ⟨rfl, rfl, rfl, trivial⟩ ?_
  refine w_seq ?_
  refine w_seq ?_
  refine w_reg ?_
  refine wl_f (f_move rfl) ?_
  refine wl_f (f_not rfl rfl) ?_
  refine wl_end [(0, _), (6, _), (16, _)] ⟨rfl, rfl, rfl, trivial⟩ ?_
  refine w_ifb rfl (fun hc1 => ?_) (fun hc1 => ?_)
  · skip
    obtain ⟨hno, hBall⟩ := not_there (hMM ▸ hS) hA (h2 (by simpa using hc1))
    rw [← hMM] at hno
    refine w_seq ?_
    refine w_reg ?_
    refine wl_f (f_assign rfl) ?_
    refine wl_f (f_assign rfl) ?_
    refine wl_end [(4, _), (5, _)] ⟨rfl, rfl, trivial⟩ ?_
    refine w_ret ?_
    refine ⟨_, _, fun a ha hh => results_tmps Try.results26 rfl a ha _, List.Sublist.refl _, ?_⟩
    rw [mget_none hno, mdel_none hno]; exact ⟨rfl, M, _, rfl, hr, hS, List.Perm.refl _⟩
  · skip
    obtain ⟨y, B', rfl⟩ := h1 (by simpa using hc1)
    have hg : mget M k = some y := mget_some (srt_nd hS) (by rw [hMM]; simp)
    have hd : mdel M k = A ++ B' := by subst hMM; exact del_mid hS
    have hS' : SrtK (A ++ B') := srt_del (hMM ▸ hS)
    rw [hg, hd]
    have hAl : M.length = A.length + B'.length + 1 := by rw [hMM]; simp; omega
    have hgv : (M.map Prod.snd)[A.length]? = some y := by rw [hMM]; exact get_val
    have hk1 : (keys M).take A.length ++ (keys M).drop (A.length + 1) = keys (A ++ B') := by rw [hMM]; exact del_map Prod.fst A B' (k, y)
    have hv1 : (M.map Prod.snd).take A.length ++ (M.map Prod.snd).drop (A.length + 1) = (A ++ B').map Prod.snd := by rw [hMM]; exact del_map Prod.snd A B' (k, y)
    obtain ⟨NV, VV, rfl⟩ := id hr
    refine w_with fun hh => ?_
    obtain ⟨g1, cn, e1⟩ := rowB_form hh (i := 0) (j := 1) rfl rfl (by omega)
    obtain ⟨g2, cv, e2⟩ := rowB_form hh (i := 0) (j := 2) rfl rfl (by omega)
    subst e1; subst e2
    have hcn : M.length ≤ cn := by
      obtain ⟨_, _, e, _, h, _⟩ := Rd.heldB hh (i := 0) (j := 1) rfl rfl
      injection e with _ _ e
      subst e
      exact h
    have hcv : M.length ≤ cv := by
      obtain ⟨_, _, e, _, h, _⟩ := Rd.heldB hh (i := 0) (j := 2) rfl rfl
      injection e with _ _ e
      subst e
      exact h
    clear hh
    have hlen : 0 + (A.length - 0) + (M.length - (A.length + 1)) = M.length - 1 := by omega
    refine w_unb (H := []) (rms q n M (.slice (some ⟨g1, 0, .none⟩) M.length cn) (.slice (some ⟨g2, 0, .none⟩) M.length cv)) ?_
    refine w_skip ?_
    refine w_seq ?_
    refine w_reg ?_
    refine wl_f (f_move rfl) ?_
    refine wl_f (f_nilCheck rfl) ?_
    refine wl_f (f_fieldAddr 2 rfl Try.underlying76 rfl rfl (by kernel_rfl)) ?_
    (first | refine wl_f (f_loadb 0 rfl Try.underlying23 rfl rfl rfl) ?_ | refine wl_f (f_loadb 1 rfl Try.underlying23 rfl rfl rfl) ?_ | refine wl_f (f_loadb 2 rfl Try.underlying23 rfl rfl rfl) ?_ | refine wl_f (f_loadb 3 rfl Try.underlying23 rfl rfl rfl) ?_ | refine wl_f (f_loadb 4 rfl Try.underlying23 rfl rfl rfl) ?_ | refine wl_f (f_loadb 5 rfl Try.underlying23 rfl rfl rfl) ?_ | refine wl_f (f_loadb 6 rfl Try.underlying23 rfl rfl rfl) ?_)
    refine wl_f (f_move rfl) ?_
    refine wl_f (f_indexAddr 1 (i := A.length) rfl rfl Try.underlying23 (by kernel_rfl) rfl (by omega)) ?_
    refine wl_f (f_loadr (v := .int .i64 y) 2 rfl Try.underlying3 rfl rfl (map_get (Value.int .i64) hgv)) ?_
    refine wl_f (f_assign rfl) ?_
    refine wl_end [(0, _), (6, _), (8, _)] ⟨rfl, rfl, rfl, trivial⟩ ?_
    refine w_seq ?_
    refine w_post (fun m H w' => ∃ (U : Option Addr) (cu : Nat), m = [(0, .pointer (some ⟨q, 0, .none⟩)), (6, .int .i64 (A.length : Nat)), (8, .int .i64 y)] ∧ H = [blk q [.int .i64 (n : Int), .slice U (M.length - 1) cu, .slice (some ⟨g2, 0, .none⟩) M.length cv] 76, row (.slice U (M.length - 1) cu) 9 1 (M.length - 1) (sv (keys (A ++ B'))), row (.slice (some ⟨g2, 0, .none⟩) M.length cv) 3 1 M.length (iv (M.map Prod.snd))]) ?_ ?_
    · skip
      refine w_drawx (.fl 0 (.fl 2 (.fl 3 (.fl 4 (.fl 5 (.fl 6 (.fl 7 (.fl 9 (.fl 10 (.fl 11 (.fl 12 (.fl 13 (.fl 14 (.fl 15 (.ef 1 (.ef 8 (.ef 16 (.fl 17 (.fl 18 (.ef 19 .done)))))))))))))))))))) ([(_, some 19), (_, none)]) ([_]) mixed (by kernel_rfl) (by kernel_rfl) rfl rfl (List.Perm.refl _) (fun w5_ => ?_)
      refine wx_f rfl (f_move rfl) ?_
      refine wx_f rfl (f_move rfl) ?_
      refine wx_f rfl (f_nilCheck rfl) ?_
      refine wx_f rfl (f_fieldAddr 1 rfl Try.underlying76 rfl rfl (by kernel_rfl)) ?_
      (first | refine wx_f rfl (f_loadb 0 rfl Try.underlying22 rfl rfl rfl) ?_ | refine wx_f rfl (f_loadb 1 rfl Try.underlying22 rfl rfl rfl) ?_ | refine wx_f rfl (f_loadb 2 rfl Try.underlying22 rfl rfl rfl) ?_ | refine wx_f rfl (f_loadb 3 rfl Try.underlying22 rfl rfl rfl) ?_ | refine wx_f rfl (f_loadb 4 rfl Try.underlying22 rfl rfl rfl) ?_ | refine wx_f rfl (f_loadb 5 rfl Try.underlying22 rfl rfl rfl) ?_ | refine wx_f rfl (f_loadb 6 rfl Try.underlying22 rfl rfl rfl) ?_)
      refine wx_f rfl (f_move rfl) ?_
      refine wx_f rfl (f_sliceA 1 (l := 0) (u := A.length) rfl Try.underlying22 (by kernel_rfl) rfl ⟨_, rfl⟩ (by omega) (by omega)) ?_
      refine wx_f rfl (f_move rfl) ?_
      refine wx_f rfl (f_nilCheck rfl) ?_
      refine wx_f rfl (f_fieldAddr 1 rfl Try.underlying76 rfl rfl (by kernel_rfl)) ?_
      (first | refine wx_f rfl (f_loadb 0 rfl Try.underlying22 rfl rfl rfl) ?_ | refine wx_f rfl (f_loadb 1 rfl Try.underlying22 rfl rfl rfl) ?_ | refine wx_f rfl (f_loadb 2 rfl Try.underlying22 rfl rfl rfl) ?_ | refine wx_f rfl (f_loadb 3 rfl Try.underlying22 rfl rfl rfl) ?_ | refine wx_f rfl (f_loadb 4 rfl Try.underlying22 rfl rfl rfl) ?_ | refine wx_f rfl (f_loadb 5 rfl Try.underlying22 rfl rfl rfl) ?_ | refine wx_f rfl (f_loadb 6 rfl Try.underlying22 rfl rfl rfl) ?_)
      refine wx_f rfl (f_move rfl) ?_
      refine wx_f rfl (f_add rfl rfl (by omega)) ?_
      refine wx_f rfl (f_sliceA 1 (l := A.length + 1) (u := M.length) rfl Try.underlying22 (by kernel_rfl) ⟨_, rfl⟩ rfl (by omega) (by omega)) ?_
      refine wx_ef ?_
      refine ks_e rfl (e_lit0 t22) ?_
      rintro _ _ w5_1 ⟨b5_1, rfl, rfl⟩
      refine ⟨_, List.perm_middle.symm, ?_⟩
      refine wx_ef ?_
      refine ks_e rfl (e_appN 2 t22 rfl rfl rfl (fun w hh => (Rd.held0 hh (i := 1) rfl).cut (l := 0) (u := A.length) (by omega) (by omega)) (mid_one (sv_one _) _ _) (by omega) (by omega)) ?_
      rintro _ _ w5_8 ⟨⟨U1, a1, rfl⟩, rfl⟩
      refine ⟨_, List.Perm.refl _, ?_⟩
      refine wx_ef ?_
      refine ks_e rfl (e_appN 2 t22 rfl rfl rfl (fun w hh => (Rd.held0 hh (i := 1) rfl).cut (l := A.length + 1) (u := M.length) (by omega) (by omega)) (mid_one (sv_one _) _ _) (by omega) (by omega)) ?_
      rintro _ _ w5_16 ⟨⟨U3, a3, rfl⟩, rfl⟩
      refine ⟨_, List.Perm.refl _, ?_⟩
      refine wx_f rfl (f_nilCheck rfl) ?_
      refine wx_f rfl (f_fieldAddr 1 rfl Try.underlying76 rfl rfl (by kernel_rfl)) ?_
      refine wx_ef ?_
      refine ks_e0 rfl (e_storeN 0 (us := [_]) rfl rfl rfl rfl (by kernel_rfl) (by simp [Value.oneCell']) rfl rfl) ?_
      rintro _ _ w5_19 rfl
      refine ⟨_, pick_perm [1] _ rfl, ?_⟩
      refine wx_endp [(0, _), (6, _), (8, _)] [1, 1, 1] ⟨rfl, rfl, rfl, trivial⟩ rfl ?_
      refine ⟨U3, a3, rfl, ?_⟩
      have hcells := del_cellsG Value.string (keys M) A.length
      rw [show (keys M).length = M.length by simp [keys], hk1] at hcells
      rw [hlen]
      simp only [sv]
      rw [hcells]
      rfl
    rintro _ _ w5_ ⟨U5, a5, rfl, rfl⟩
    refine w_seq ?_
    refine w_post (fun m H w' => ∃ (U : Option Addr) (cu : Nat), m = [(8, .int .i64 y)] ∧ H = [blk q [.int .i64 (n : Int), .slice U5 (M.length - 1) a5, .slice U (M.length - 1) cu] 76, row (.slice U5 (M.length - 1) a5) 9 1 (M.length - 1) (sv (keys (A ++ B'))), row (.slice U (M.length - 1) cu) 3 1 (M.length - 1) (iv ((A ++ B').map Prod.snd))]) ?_ ?_
    · skip
      refine w_drawx (.fl 0 (.fl 2 (.fl 3 (.fl 4 (.fl 5 (.fl 6 (.fl 7 (.fl 9 (.fl 10 (.fl 11 (.fl 12 (.fl 13 (.fl 14 (.fl 15 (.ef 1 (.ef 8 (.ef 16 (.fl 17 (.fl 18 (.ef 19 .done)))))))))))))))))))) ([(_, some 19), (_, none)]) ([_]) mixed (by kernel_rfl) (by kernel_rfl) rfl rfl (pick_perm [0, 1] _ rfl) (fun w6_ => ?_)
      refine wx_f rfl (f_move rfl) ?_
      refine wx_f rfl (f_move rfl) ?_
      refine wx_f rfl (f_nilCheck rfl) ?_
      refine wx_f rfl (f_fieldAddr 2 rfl Try.underlying76 rfl rfl (by kernel_rfl)) ?_
      (first | refine wx_f rfl (f_loadb 0 rfl Try.underlying23 rfl rfl rfl) ?_ | refine wx_f rfl (f_loadb 1 rfl Try.underlying23 rfl rfl rfl) ?_ | refine wx_f rfl (f_loadb 2 rfl Try.underlying23 rfl rfl rfl) ?_ | refine wx_f rfl (f_loadb 3 rfl Try.underlying23 rfl rfl rfl) ?_ | refine wx_f rfl (f_loadb 4 rfl Try.underlying23 rfl rfl rfl) ?_ | refine wx_f rfl (f_loadb 5 rfl Try.underlying23 rfl rfl rfl) ?_ | refine wx_f rfl (f_loadb 6 rfl Try.underlying23 rfl rfl rfl) ?_)
      refine wx_f rfl (f_move rfl) ?_
      refine wx_f rfl (f_sliceA 1 (l := 0) (u := A.length) rfl Try.underlying23 (by kernel_rfl) rfl ⟨_, rfl⟩ (by omega) (by omega)) ?_
      refine wx_f rfl (f_move rfl) ?_
      refine wx_f rfl (f_nilCheck rfl) ?_
      refine wx_f rfl (f_fieldAddr 2 rfl Try.underlying76 rfl rfl (by kernel_rfl)) ?_
      (first | refine wx_f rfl (f_loadb 0 rfl Try.underlying23 rfl rfl rfl) ?_ | refine wx_f rfl (f_loadb 1 rfl Try.underlying23 rfl rfl rfl) ?_ | refine wx_f rfl (f_loadb 2 rfl Try.underlying23 rfl rfl rfl) ?_ | refine wx_f rfl (f_loadb 3 rfl Try.underlying23 rfl rfl rfl) ?_ | refine wx_f rfl (f_loadb 4 rfl Try.underlying23 rfl rfl rfl) ?_ | refine wx_f rfl (f_loadb 5 rfl Try.underlying23 rfl rfl rfl) ?_ | refine wx_f rfl (f_loadb 6 rfl Try.underlying23 rfl rfl rfl) ?_)
      refine wx_f rfl (f_move rfl) ?_
      refine wx_f rfl (f_add rfl rfl (by omega)) ?_
      refine wx_f rfl (f_sliceA 1 (l := A.length + 1) (u := M.length) rfl Try.underlying23 (by kernel_rfl) ⟨_, rfl⟩ rfl (by omega) (by omega)) ?_
      refine wx_ef ?_
      refine ks_e rfl (e_lit0 t23) ?_
      rintro _ _ w6_1 ⟨b6_1, rfl, rfl⟩
      refine ⟨_, List.perm_middle.symm, ?_⟩
      refine wx_ef ?_
      refine ks_e rfl (e_appN 2 t23 rfl rfl rfl (fun w hh => (Rd.held0 hh (i := 1) rfl).cut (l := 0) (u := A.length) (by omega) (by omega)) (mid_one (iv_one _) _ _) (by omega) (by omega)) ?_
      rintro _ _ w6_8 ⟨⟨U1, a1, rfl⟩, rfl⟩
      refine ⟨_, List.Perm.refl _, ?_⟩
      refine wx_ef ?_
      refine ks_e rfl (e_appN 2 t23 rfl rfl rfl (fun w hh => (Rd.held0 hh (i := 1) rfl).cut (l := A.length + 1) (u := M.length) (by omega) (by omega)) (mid_one (iv_one _) _ _) (by omega) (by omega)) ?_
      rintro _ _ w6_16 ⟨⟨U3, a3, rfl⟩, rfl⟩
      refine ⟨_, List.Perm.refl _, ?_⟩
      refine wx_f rfl (f_nilCheck rfl) ?_
      refine wx_f rfl (f_fieldAddr 2 rfl Try.underlying76 rfl rfl (by kernel_rfl)) ?_
      refine wx_ef ?_
      refine ks_e0 rfl (e_storeN 0 (us := [_]) rfl rfl rfl rfl (by kernel_rfl) (by simp [Value.oneCell']) rfl rfl) ?_
      rintro _ _ w6_19 rfl
      refine ⟨_, pick_perm [1] _ rfl, ?_⟩
      refine wx_endp [(8, _)] [1, 2, 1] ⟨rfl, trivial⟩ rfl ?_
      refine ⟨U3, a3, rfl, ?_⟩
      have hcells := del_cellsG (Value.int .i64) (M.map Prod.snd) A.length
      rw [List.length_map, hv1] at hcells
      rw [hlen]
      simp only [iv]
      rw [hcells]
      rfl
    rintro _ _ w6_ ⟨U6, a6, rfl, rfl⟩
    refine w_seq ?_
    refine w_reg ?_
    refine wl_f (f_move rfl) ?_
    refine wl_f (f_assign rfl) ?_
    refine wl_f (f_assign rfl) ?_
    refine wl_end [(4, _), (5, _)] ⟨rfl, rfl, trivial⟩ ?_
    refine w_bun (H := []) [_, _, _] ?_
    refine w_ret ?_
    refine ⟨_, _, fun a ha hh => results_tmps Try.results26 rfl a ha _, List.Sublist.refl _, ?_⟩
    refine ⟨rfl, A ++ B', _, rfl, ⟨.slice U5 (M.length - 1) a5, .slice U6 (M.length - 1) a6, ?_⟩, hS', List.Perm.refl _⟩
    rw [rms, show (A ++ B').length = M.length - 1 by rw [hAl, List.length_append]; omega]

set_option maxHeartbeats 1000000 in
theorem rmget_spec (q n : Nat) (M : KL) (r : Res) (k : ByteArray) (w : World) (hn : n ≤ 8192) (hl : M.length ≤ n) (hS : SrtK M) (hr : RmR q n M r) (hs : Holds w r.foot [r] w) :
    Spec Try.prog 27 [.pointer (some ⟨q, 0, .none⟩), .string k] w r.foot fun u H => u = .tuple #[.int .i64 ((mget M k).getD 0), .bool (mget M k).isSome] ∧ H = [r] := by
  refine enter (n := 22) Try.func27 rfl rfl [(0, _), (1, _)] rfl ⟨rfl, rfl, trivial⟩ hs ?_
  refine w_seq ?_
  refine w_reg ?_
  refine wl_f (f_assign rfl) ?_
  refine wl_f (f_assign rfl) ?_
  refine wl_end [(0, _), (1, _)] ⟨rfl, rfl, trivial⟩ ?_
  refine w_seq ?_
  refine w_seq ?_
  refine w_reg ?_
  refine wl_f (f_move rfl) ?_
  refine wl_f (f_move rfl) ?_
  refine wl_e (e_call1 r [] rfl Try.func39 (by kernel_rfl) (List.Perm.refl _) (fun w hh hs' => rmat_spec q n M r k w (by omega) hr hs')) ?_
  rintro _ _ w1 ⟨_, rfl, ⟨A, B, is, hMM, rfl, hA, h1, h2⟩, rfl⟩
  refine wl_f (f_move rfl) ?_
  refine wl_f (f_extract rfl rfl) ?_
  refine wl_f (f_extract rfl rfl) ?_
  refine wl_f (f_assign rfl) ?_
  refine wl_f (f_assign rfl) ?_
  refine wl_end [(0, _), (6, _), (7, _)] ⟨rfl, rfl, rfl, trivial⟩ ?_
  refine w_seq ?_
  refine w_reg ?_
  refine wl_f (f_move rfl) ?_
  refine wl_end [(0, _), (6, _), (14, _)] ⟨rfl, rfl, rfl, trivial⟩ ?_
  refine w_ifb rfl (fun hc1 => ?_) (fun hc1 => ?_)
  · skip
    obtain ⟨y, B', rfl⟩ := h1 hc1
    have hg : mget M k = some y := mget_some (srt_nd hS) (by rw [hMM]; simp)
    have hgv : (M.map Prod.snd)[A.length]? = some y := by rw [hMM]; exact get_val
    have hAl : A.length < M.length := by rw [hMM]; simp
    rw [hg]
    obtain ⟨NV, VV, rfl⟩ := id hr
    refine w_with fun hh => ?_
    obtain ⟨g, cap, e⟩ := rowB_form hh (i := 0) (j := 2) rfl rfl (by omega)
    subst e
    clear hh
    refine w_seq ?_
    refine w_reg ?_
    refine wl_f (f_move rfl) ?_
    refine wl_f (f_nilCheck rfl) ?_
    refine wl_f (f_fieldAddr 2 rfl Try.underlying76 rfl rfl (by kernel_rfl)) ?_
    refine wl_f (f_loadB 0 0 rfl rfl rfl Try.underlying23 rfl rfl) ?_
    refine wl_f (f_move rfl) ?_
    refine wl_f (f_indexAddr 1 (i := A.length) rfl rfl Try.underlying23 (by kernel_rfl) rfl hAl) ?_
    refine wl_f (f_loadBr (v := .int .i64 y) 0 2 rfl rfl rfl Try.underlying3 rfl (map_get (Value.int .i64) hgv)) ?_
    refine wl_f (f_assign rfl) ?_
    refine wl_f (f_assign rfl) ?_
    refine wl_end [(4, _), (5, _)] ⟨rfl, rfl, trivial⟩ ?_
    refine w_ret ?_
    refine ⟨_, _, fun a ha hh => results_tmps Try.results27 rfl a ha _, List.Sublist.refl _, ?_⟩
    exact ⟨rfl, rfl⟩
  · skip
    obtain ⟨hno, hBall⟩ := not_there (hMM ▸ hS) hA (h2 (by simpa using hc1))
    rw [← hMM] at hno
    refine w_skip ?_
    refine w_seq ?_
    refine w_reg ?_
    refine wl_f (f_assign rfl) ?_
    refine wl_f (f_assign rfl) ?_
    refine wl_end [(4, _), (5, _)] ⟨rfl, rfl, trivial⟩ ?_
    refine w_ret ?_
    refine ⟨_, _, fun a ha hh => results_tmps Try.results27 rfl a ha _, List.Sublist.refl _, ?_⟩
    rw [mget_none hno]; exact ⟨rfl, rfl⟩
theorem rmkeys_spec (q n : Nat) (M : KL) (r : Res) (w : World) (hl : M.length ≤ 8192) (hr : RmR q n M r) (hs : Holds w r.foot [r] w) :
    Spec Try.prog 28 [.pointer (some ⟨q, 0, .none⟩)] w r.foot fun u H => H = [row u 9 1 M.length (sv (keys M)), r] := by
  obtain ⟨KV, VV, rfl⟩ := id hr
  refine enter (n := 9) Try.func28 rfl rfl [(0, _)] rfl ⟨rfl, trivial⟩ hs ?_
  refine w_with fun hh => ?_
  obtain ⟨N, cn, rfl⟩ := rowB_slice hh (i := 0) (j := 1) rfl rfl
  clear hh
  refine w_seq ?_
  refine w_reg ?_
  refine wl_f (f_assign rfl) ?_
  refine wl_end [(0, _)] ⟨rfl, trivial⟩ ?_
  refine w_seq ?_
  refine w_reg ?_
  refine wl_e (e_lit0 t22) ?_
  rintro _ _ w1_0 ⟨b1_0, rfl, rfl⟩
  refine wl_f (f_move rfl) ?_
  refine wl_f (f_nilCheck rfl) ?_
  refine wl_f (f_fieldAddr 1 rfl Try.underlying76 rfl rfl (by kernel_rfl)) ?_
  refine wl_f (f_loadB 1 0 rfl rfl rfl Try.underlying22 rfl rfl) ?_
  refine wl_e (e_app0 t22 rfl rfl (fun w hh => Rd.heldB hh (i := 1) (j := 1) rfl rfl) (sv_one _) (by omega) (by omega)) ?_
  rintro v1_5 _ w1_5 rfl
  refine wl_f (f_assign rfl) ?_
  refine wl_end [(2, _)] ⟨rfl, trivial⟩ ?_
  refine w_ret ?_
  refine ⟨_, _, fun a ha hh => results_tmps Try.results28 rfl a ha _, List.Sublist.refl _, ?_⟩
  rw [Nat.zero_add]; rfl
end Go.Proofs.Ytmppbpajncpjnaa
