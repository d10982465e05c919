/- The law ChainWalk: the call returns true. -/
import Derived.Test.YtkabdnijhjccoaaCB
namespace Go.Proofs.Ytkabdnijhjccoaa
open Go.RowKit

section
variable {α : Type} {R : List (Nat × α) → Res → Prop} {K : VK α} {n : Nat} {A B l : List (Nat × α)} {v a : α} {r : Res} {u : Value} {H : List Res} {y : Nat} {node : Int}
theorem NewG.some (h : NewG R n A B v r u H) (hr : R (A ++ B) r) : ∃ l' r', H = [r'] ∧ R l' r' := by
  rcases h with ⟨_, _, rfl⟩ | ⟨_, x, r', _, _, rfl, h⟩
  · exact ⟨_, _, rfl, hr⟩
  · exact ⟨_, _, rfl, h⟩
theorem BehindG.some (h : BehindG R n l node v r u H) (hr : R l r) : ∃ l' r', H = [r'] ∧ R l' r' := by
  rcases h with ⟨_, _, rfl⟩ | ⟨A, y, a, B, rfl, _, h⟩
  · exact ⟨_, _, rfl, hr⟩
  · exact h.some (by simpa using hr)
theorem RemG.some (h : RemG K R l node r u H) (hr : R l r) : ∃ l' r', H = [r'] ∧ R l' r' := by
  rcases h with ⟨_, _, rfl⟩ | ⟨A, y, a, B, r', _, _, _, rfl, h⟩
  · exact ⟨_, _, rfl, hr⟩
  · exact ⟨_, _, rfl, h⟩
theorem ValAt.ok (h : ValAt K (A ++ (y, a) :: B) y u) (hnd : (nodes (A ++ (y, a) :: B)).Nodup) : u = .tuple [K.val a, .int .i64 0].toArray := by
  rcases h with ⟨h, _⟩ | ⟨A', y', a', B', he, hy, rfl⟩
  · rw [isAt_split] at h; cases h
  · obtain rfl : y = y' := by omega
    obtain ⟨rfl, rfl, rfl⟩ := node_uniq hnd he
    rfl
theorem ChR.nd {b : Nat} (h : ChR K b n l r) : (nodes l).Nodup := by obtain ⟨_, _, _, _, _, _, _, _, _, hc⟩ := h; exact hc.nd
theorem ChR.len {b : Nat} (h : ChR K b n l r) : l.length ≤ n := by obtain ⟨_, _, _, _, _, _, _, _, _, hc⟩ := h; exact Nat.le_trans hc.len hc.le
end
theorem vcells_int (l : List Int) : vcells kInt l = iv l := flatMap_single _ l

set_option maxHeartbeats 4000000 in
theorem chainWalk_spec (z : Nat) (A : Option Addr) (c : Nat) (L : List Int) (w : World) (hz : z < 256) (hx : Rd w Nil 1 (.slice A L.length c) L.length (iv L)) (hl : L.length ≤ 140737488355328) :
    Spec Try.prog 6 [.int .u8 z, .slice A L.length c] w Nil fun r _ => r = .bool true := by
  obtain ⟨A', c', e, hxl, hxc, hxA⟩ := id hx
  injection e with e1 _ e3
  subst e1; subst e3
  refine enter (n := 120) Try.func6 rfl rfl [(0, _), (1, _)] rfl ⟨rfl, rfl, trivial⟩ (Holds.start _ _) ?_
  refine w_seq ?_
  refine w_reg ?_
  refine wl_f (f_assign rfl) ?_
  refine wl_end [(0, _), (1, _)] ⟨rfl, rfl, trivial⟩ ?_
  refine w_seq ?_
  refine w_reg ?_
  refine wl_f (f_move rfl) ?_
  refine wl_f (f_convi rfl Try.underlying5 Try.underlying3 (by omega)) ?_
  refine wl_f (f_rem rfl rfl (by omega)) ?_
  refine wl_f (f_eqv (v' := .int .i64 ((1 + z % 20 : Nat) : Int)) (f_add rfl rfl (by omega)) (by congr 1)) ?_
  refine wl_e (e_call0 rfl Try.func17 (by kernel_rfl) (fun w hh => inew_spec ((1 + z % 20 : Nat) : Int) w)) ?_
  rintro u _ w1 ⟨H1, rfl, hH⟩
  obtain ⟨b, r0, rfl, rfl, hr0⟩ := inew_ok (1 + z % 20) (by omega) hH
  clear hH
  have hn : 1 + z % 20 ≤ 8192 := by omega
  generalize 1 + z % 20 = n at hr0 hn
  refine wl_f (f_move rfl) ?_
  refine wl_f (f_extract rfl rfl) ?_
  refine wl_f (f_extract rfl rfl) ?_
  refine wl_f (f_assign rfl) ?_
  refine wl_f (f_assign rfl) ?_
  refine wl_end [(1, _), (5, _), (6, _)] ⟨rfl, rfl, rfl, trivial⟩ ?_
  refine w_seq ?_
  refine w_seq ?_
  refine w_reg ?_
  refine wl_f (f_move rfl) ?_
  refine wl_f (f_neq rfl rfl) ?_
  refine wl_f (f_move rfl) ?_
  refine wl_or (j := 2) (c := false) 2 [(1, _), (5, _)] ⟨rfl, rfl, trivial⟩ rfl rfl rfl rfl rfl (fun hg2_5 => ?_) (fun w2_5 => ?_)
  · skip
    refine wl_gf rfl rfl (f_move rfl) ?_
    refine wl_gf rfl rfl (f_eqlnil rfl rfl Try.underlying34) ?_
    exact wl_pend rfl rfl ⟨rfl, rfl, trivial⟩ (List.Sublist.refl _)
  refine wl_end [(1, _), (5, _), (29, _)] ⟨rfl, rfl, rfl, trivial⟩ ?_
  refine w_iff rfl ?_
  refine w_skip ?_
  refine w_seq ?_
  refine w_seq ?_
  refine w_reg ?_
  refine wl_f (f_assign rfl) ?_
  refine wl_end [(1, _), (5, _), (7, _)] ⟨rfl, rfl, rfl, trivial⟩ ?_
  refine w_block ?_
  refine w_loop (fun k m H w' => ∃ (i : Nat) (l : List (Nat × Int)) (r : Res), m = [(1, .slice A L.length c), (5, .pointer (some ⟨b, 0, .none⟩)), (7, .int .i64 i)] ∧ H = [r] ∧ ChR kInt b n l r ∧ k + i = 60 ∧ i ≤ L.length) 60 ⟨0, [], r0, rfl, rfl, hr0, rfl, Nat.zero_le _⟩ ?_
  rintro k _ _ w2 ⟨i, l, r, rfl, rfl, hr, hk, hiL⟩
  refine w_seq ?_
  refine w_seq ?_
  refine w_reg ?_
  refine wl_f (f_move rfl) ?_
  refine wl_f (f_move rfl) ?_
  refine wl_f (f_len rfl Try.underlying33) ?_
  refine wl_f (f_lss rfl rfl) ?_
  refine wl_f (f_move rfl) ?_
  refine wl_and (j := 4) (c := decide ((i : Int) < 60)) 2 [(1, _), (5, _), (7, _)] ⟨rfl, rfl, rfl, trivial⟩ rfl rfl rfl rfl rfl (fun hg5_7 => ?_) (fun w5_7 => ?_)
  · skip
    refine wl_gf rfl rfl (f_move rfl) ?_
    refine wl_gf rfl rfl (f_lss rfl rfl) ?_
    exact wl_pend rfl rfl ⟨rfl, rfl, rfl, trivial⟩ (List.Sublist.refl _)
  refine wl_end [(1, _), (5, _), (7, _), (37, _)] ⟨rfl, rfl, rfl, rfl, trivial⟩ ?_
  refine w_ifb rfl (fun hc2 => ?_) (fun hc2 => ?_)
  · skip
    simp only [Bool.and_eq_true, decide_eq_true_eq] at hc2
    have hi : i < L.length := by omega
    obtain ⟨s, hsi⟩ : ∃ s, L[i]? = some s := ⟨_, List.getElem?_eq_getElem hi⟩
    obtain ⟨b2, off, rfl, _, _, hcell⟩ := hxA.resolve_left (by omega)
    refine w_skip ?_
    refine w_seq ?_
    refine w_block ?_
    refine w_seq ?_
    refine w_reg ?_
    refine wl_f (f_move rfl) ?_
    refine wl_f (f_move rfl) ?_
    refine wl_f (f_indexAddr 1 (i := i) rfl rfl Try.underlying33 (by kernel_rfl) rfl hi) ?_
    refine wl_f (f_loado (v := .int .i64 s) rfl Try.underlying3 rfl (hcell _ _ (by simp [iv, hsi])) id) ?_
    refine wl_f (f_assign rfl) ?_
    refine wl_end [(1, _), (5, _), (7, _), (8, _)] ⟨rfl, rfl, rfl, rfl, trivial⟩ ?_
    refine w_seq ?_
    refine w_reg ?_
    refine wl_f (f_move rfl) ?_
    refine wl_f (f_and rfl rfl rfl) ?_
    refine wl_end [(1, _), (5, _), (7, _), (8, _), (45, _)] ⟨rfl, rfl, rfl, rfl, rfl, trivial⟩ ?_
    refine w_post (fun m H w' => m = [(1, .slice (some ⟨b2, off, .none⟩) L.length c), (5, .pointer (some ⟨b, 0, .none⟩)), (7, .int .i64 i)] ∧ ∃ l' r', H = [r'] ∧ ChR kInt b n l' r') ?_ ?_
    · skip
      refine w_block ?_
      refine w_seq ?_
      refine w_reg ?_
      refine wl_f (f_eql rfl rfl) ?_
      refine wl_f (f_assign rfl) ?_
      refine wl_end [(1, _), (5, _), (7, _), (8, _), (45, _), (51, _)] ⟨rfl, rfl, rfl, rfl, rfl, rfl, trivial⟩ ?_
      refine w_ifd rfl (fun hc3 => ?_) (fun hc3 => ?_)
      · skip
        refine w_reg ?_
        refine wl_f (f_move rfl) ?_
        refine wl_f (f_move rfl) ?_
        refine wl_e (e_call1 r [] rfl Try.func30 (by kernel_rfl) (List.Perm.refl _) (fun w hh hs => ipushFront_spec b n l s r w hn hr hs)) ?_
        rintro u _ w3 ⟨H1, rfl, hH⟩
        obtain ⟨l', r', rfl, hr'⟩ := hH.some (by simpa using hr)
        refine wl_end [(1, _), (5, _), (7, _)] ⟨rfl, rfl, rfl, trivial⟩ ?_
        exact ⟨rfl, _, _, rfl, hr'⟩
      · skip
        refine w_seq ?_
        refine w_reg ?_
        refine wl_f (f_eql rfl rfl) ?_
        refine wl_f (f_assign rfl) ?_
        refine wl_end [(1, _), (5, _), (7, _), (8, _), (45, _), (56, _)] ⟨rfl, rfl, rfl, rfl, rfl, rfl, trivial⟩ ?_
        refine w_ifd rfl (fun hc4 => ?_) (fun hc4 => ?_)
        · skip
          refine w_reg ?_
          refine wl_f (f_move rfl) ?_
          refine wl_f (f_move rfl) ?_
          refine wl_f (f_shr rfl rfl (by omega) rfl) ?_
          refine wl_f (f_and rfl rfl rfl) ?_
          refine wl_f (f_move rfl) ?_
          refine wl_e (e_call1 r [] rfl Try.func31 (by kernel_rfl) (List.Perm.refl _) (fun w hh hs => iInsertAfter_spec b n l _ s r w hn hr hs)) ?_
          rintro u _ w3 ⟨H1, rfl, hH⟩
          obtain ⟨l', r', rfl, hr'⟩ := hH.some hr
          refine wl_end [(1, _), (5, _), (7, _)] ⟨rfl, rfl, rfl, trivial⟩ ?_
          exact ⟨rfl, _, _, rfl, hr'⟩
        · skip
          refine w_seq ?_
          refine w_reg ?_
          refine wl_f (f_eql rfl rfl) ?_
          refine wl_f (f_assign rfl) ?_
          refine wl_end [(1, _), (5, _), (7, _), (8, _), (64, _)] ⟨rfl, rfl, rfl, rfl, rfl, trivial⟩ ?_
          refine w_ifd rfl (fun hc5 => ?_) (fun hc5 => ?_)
          · skip
            refine w_reg ?_
            refine wl_f (f_move rfl) ?_
            refine wl_f (f_move rfl) ?_
            refine wl_e (e_call1 r [] rfl Try.func28 (by kernel_rfl) (List.Perm.refl _) (fun w hh hs => ipushBack_spec b n l s r w hn hr hs)) ?_
            rintro u _ w3 ⟨H1, rfl, hH⟩
            obtain ⟨l', r', rfl, hr'⟩ := hH.some (by simpa using hr)
            refine wl_end [(1, _), (5, _), (7, _)] ⟨rfl, rfl, rfl, trivial⟩ ?_
            exact ⟨rfl, _, _, rfl, hr'⟩
          · skip
            refine w_reg ?_
            refine wl_f (f_move rfl) ?_
            refine wl_f (f_move rfl) ?_
            refine wl_f (f_shr rfl rfl (by omega) rfl) ?_
            refine wl_f (f_and rfl rfl rfl) ?_
            refine wl_e (e_call1 r [] rfl Try.func33 (by kernel_rfl) (List.Perm.refl _) (fun w hh hs => iRemove_spec b n l _ r w hn hr hs)) ?_
            rintro u _ w3 ⟨H1, rfl, hH⟩
            obtain ⟨l', r', rfl, hr'⟩ := hH.some hr
            refine wl_end [(1, _), (5, _), (7, _)] ⟨rfl, rfl, rfl, trivial⟩ ?_
            exact ⟨rfl, _, _, rfl, hr'⟩
    · rintro _ _ w4 ⟨rfl, l', r', rfl, hr'⟩
      refine w_reg ?_
      refine wl_f (f_move rfl) ?_
      refine wl_f (f_add rfl rfl (by omega)) ?_
      refine wl_f (f_assign rfl) ?_
      refine wl_end [(1, _), (5, _), (7, _)] ⟨rfl, rfl, rfl, trivial⟩ ?_
      exact ⟨k - 1, by omega, i + 1, l', r', rfl, rfl, hr', by omega, by omega⟩
  · skip
    have hnd := hr.nd
    have hll := hr.len
    refine w_exit0 ?_
    refine w_seq ?_
    refine w_reg ?_
    refine wl_f (f_move rfl) ?_
    refine wl_e (e_call1 r [] rfl Try.func38 (by kernel_rfl) (List.Perm.refl _) (fun w hh hs => ivalues_spec b n l r w hn hr hs)) ?_
    rintro V1 _ w5 ⟨H1, rfl, rfl⟩
    refine wl_with fun hh => ?_
    obtain ⟨U, cu, rfl⟩ := row_slice hh (i := 0) rfl
    clear hh
    refine wl_f (f_assign rfl) ?_
    refine wl_end [(5, _), (9, _)] ⟨rfl, rfl, trivial⟩ ?_
    refine w_seq ?_
    refine w_seq ?_
    refine w_reg ?_
    refine wl_f (f_move rfl) ?_
    refine wl_f (f_len rfl Try.underlying33) ?_
    refine wl_f (f_move rfl) ?_
    refine wl_e (e_call1 r [_] rfl Try.func39 (by kernel_rfl) (List.Perm.swap ..) (fun w hh hs => ilen_spec b n l r w hr hs)) ?_
    rintro _ _ w6 ⟨_, rfl, rfl, rfl⟩
    refine wl_f (f_neq rfl rfl) ?_
    refine wl_end [(5, _), (9, _), (75, _)] ⟨rfl, rfl, rfl, trivial⟩ ?_
    refine w_ifd rfl (fun h => absurd rfl h) (fun _ => ?_)
    refine w_skip ?_
    refine w_seq ?_
    refine w_reg ?_
    refine wl_f (f_move rfl) ?_
    refine wl_e (e_call1 r [_] rfl Try.func43 (by kernel_rfl) (List.Perm.refl _) (fun w hh hs => ifirst_spec b n l r w hr hs)) ?_
    rintro _ _ w7 ⟨_, rfl, rfl, rfl⟩
    refine wl_f (f_assign rfl) ?_
    refine wl_f (f_assign rfl) ?_
    refine wl_end [(5, _), (9, _), (10, _), (11, _)] ⟨rfl, rfl, rfl, rfl, trivial⟩ ?_
    refine w_seq ?_
    refine w_seq ?_
    refine w_reg ?_
    refine wl_f (f_move rfl) ?_
    refine wl_f (f_len rfl Try.underlying33) ?_
    refine wl_f (f_move rfl) ?_
    refine wl_end [(5, _), (10, _), (11, _), (78, _), (79, _), (80, _)] ⟨rfl, rfl, rfl, rfl, rfl, rfl, trivial⟩ ?_
    refine w_block ?_
    rw [vcells_int]
    refine w_loop (fun k m H w' => ∃ done rest : List (Nat × Int), m = [(5, .pointer (some ⟨b, 0, .none⟩)), (10, .int .i64 (hdE (-1) (nodes rest))), (11, .int .i64 (hdE (-1) (nodes done).reverse)), (78, .slice U l.length cu), (79, .int .i64 l.length), (80, .int .i64 (done.length : Nat))] ∧
      H = [r, row (.slice U l.length cu) 3 1 l.length (iv (l.map Prod.snd))] ∧ k = rest.length ∧ l = done ++ rest) l.length ⟨[], l, rfl, rfl, rfl, rfl⟩ ?_
    rintro k _ _ w8 ⟨done, rest, rfl, rfl, rfl, hl2⟩
    refine w_seq ?_
    refine w_reg ?_
    refine wl_f (f_lss rfl rfl) ?_
    refine wl_end [(5, _), (10, _), (11, _), (78, _), (79, _), (80, _), (81, _)] ⟨rfl, rfl, rfl, rfl, rfl, rfl, rfl, trivial⟩ ?_
    refine w_seq ?_
    refine w_ifd rfl (fun hc7 => ?_) (fun hc7 => ?_)
    · skip
      have hlen2 := congrArg List.length hl2
      rw [List.length_append] at hlen2
      obtain ⟨⟨x, a⟩, B, rfl⟩ : ∃ p B, rest = p :: B := List.exists_cons_of_length_pos (by omega)
      refine w_with fun hh => ?_
      obtain ⟨g, cap, e⟩ := row_form hh (i := 1) rfl (by omega)
      injection e with e1 _ e3
      subst e1; subst e3
      clear hh
      have hnd2 := hnd
      rw [hl2] at hnd2
      refine w_skip ?_
      refine w_seq ?_
      refine w_block ?_
      refine w_seq ?_
      refine w_reg ?_
      refine wl_f (f_indexAddr 1 (i := done.length) rfl rfl Try.underlying33 (by kernel_rfl) rfl (by simp at hlen2; omega)) ?_
      refine wl_f (f_loadr (v := .int .i64 a) 1 rfl Try.underlying3 rfl rfl (map_get (Value.int .i64) (by rw [hl2]; simp [List.getElem?_append]))) ?_
      refine wl_f (f_assign rfl) ?_
      refine wl_end [(5, _), (10, _), (11, _), (13, _), (78, _), (79, _), (80, _)] ⟨rfl, rfl, rfl, rfl, rfl, rfl, rfl, trivial⟩ ?_
      refine w_seq ?_
      refine w_reg ?_
      refine wl_f (f_move rfl) ?_
      refine wl_f (f_move rfl) ?_
      refine wl_e (e_call1 r [_] rfl Try.func35 (by kernel_rfl) (List.Perm.refl _) (fun w hh hs => iValue_spec b n l _ r w hr hs)) ?_
      rintro _ _ w9 ⟨_, rfl, rfl, hv⟩
      rw [hl2] at hv
      obtain rfl := ValAt.ok hv hnd2
      clear hv
      refine wl_f (f_move rfl) ?_
      refine wl_f (f_extract rfl rfl) ?_
      refine wl_f (f_extract rfl rfl) ?_
      refine wl_f (f_assign rfl) ?_
      refine wl_f (f_assign rfl) ?_
      refine wl_end [(5, _), (10, _), (11, _), (13, _), (14, _), (15, _), (78, _), (79, _), (80, _)] ⟨rfl, rfl, rfl, rfl, rfl, rfl, rfl, rfl, rfl, trivial⟩ ?_
      refine w_seq ?_
      refine w_seq ?_
      refine w_reg ?_
      refine wl_f (f_move rfl) ?_
      refine wl_f (f_neq rfl rfl) ?_
      refine wl_f (f_move rfl) ?_
      refine wl_or (j := 2) (c := decide (a ≠ a)) 3 [(5, _), (10, _), (11, _), (78, _), (79, _), (80, _)] ⟨rfl, rfl, rfl, rfl, rfl, rfl, trivial⟩ rfl rfl rfl rfl rfl (fun hg24_6 => ?_) (fun w24_6 => ?_)
      · skip
        refine wl_gf rfl rfl (f_move rfl) ?_
        refine wl_gf rfl rfl (f_move rfl) ?_
        refine wl_gf rfl rfl (f_neq rfl rfl) ?_
        exact wl_pend rfl rfl ⟨rfl, rfl, rfl, rfl, rfl, rfl, trivial⟩ (List.Sublist.refl _)
      refine wl_f (f_move rfl) ?_
      refine wl_or (j := 7) (c := decide (hdE (-1) (nodes done).reverse ≠ hdE (-1) (nodes done).reverse)) 5 [(5, _), (10, _), (78, _), (79, _), (80, _)] ⟨rfl, rfl, rfl, rfl, rfl, trivial⟩ rfl rfl rfl rfl rfl (fun hg24_13 => ?_) (fun w24_13 => ?_)
      · skip
        refine wl_gf rfl rfl (f_move rfl) ?_
        refine wl_gf rfl rfl (f_move rfl) ?_
        refine wl_ge rfl rfl (e_call1 r [_] rfl Try.func42 (by kernel_rfl) (List.Perm.refl _) (fun w hh hs => iprev_spec b n l r _ w hr hs)) ?_
        rintro _ _ w10 ⟨_, rfl, rfl, y, rfl, _, hy⟩
        obtain rfl := hy done x a B hl2 rfl
        refine wl_gf rfl rfl (f_move rfl) ?_
        refine wl_gf rfl rfl (f_neq rfl rfl) ?_
        exact wl_pend rfl rfl ⟨rfl, rfl, rfl, rfl, rfl, trivial⟩ (List.Sublist.refl _)
      refine wl_end [(5, _), (10, _), (78, _), (79, _), (80, _), (103, _)] ⟨rfl, rfl, rfl, rfl, rfl, rfl, trivial⟩ ?_
      refine w_ifb rfl (fun h => absurd h (by simp)) (fun _ => ?_)
      refine w_skip ?_
      refine w_reg ?_
      refine wl_f (f_move rfl) ?_
      refine wl_f (f_move rfl) ?_
      refine wl_f (f_move rfl) ?_
      refine wl_e (e_call1 r [_] rfl Try.func40 (by kernel_rfl) (List.Perm.refl _) (fun w hh hs => inext_spec b n l r _ w hr hs)) ?_
      rintro _ _ w11 ⟨_, rfl, rfl, y, rfl, _, hy⟩
      obtain rfl := hy done x a B hl2 rfl
      refine wl_f (f_assign rfl) ?_
      refine wl_f (f_assign rfl) ?_
      refine wl_end [(5, _), (10, _), (11, _), (78, _), (79, _), (80, _)] ⟨rfl, rfl, rfl, rfl, rfl, rfl, trivial⟩ ?_
      refine w_reg ?_
      refine wl_f (f_add rfl rfl (by omega)) ?_
      refine wl_f (f_move rfl) ?_
      refine wl_end [(5, _), (10, _), (11, _), (78, _), (79, _), (80, _)] ⟨rfl, rfl, rfl, rfl, rfl, rfl, trivial⟩ ?_
      exact ⟨B.length, by simp, done ++ [(x, a)], B, by simp [nodes, hdE], rfl, rfl, by rw [hl2]; simp⟩
    · skip
      have hlen2 := congrArg List.length hl2
      rw [List.length_append] at hlen2
      have hr0 : rest = [] := List.eq_nil_of_length_eq_zero (by omega)
      subst hr0
      rw [List.append_nil] at hl2
      subst hl2
      refine w_exit0 ?_
      refine w_seq ?_
      refine w_reg ?_
      refine wl_f (f_move rfl) ?_
      refine wl_f (f_eql rfl rfl) ?_
      refine wl_f (f_move rfl) ?_
      refine wl_and (j := 2) (c := decide (hdE (-1) (nodes l).reverse = hdE (-1) (nodes l).reverse)) 4 [] trivial rfl rfl rfl rfl rfl (fun hg28_7 => ?_) (fun w28_7 => ?_)
      · skip
        refine wl_gf rfl rfl (f_move rfl) ?_
        refine wl_ge rfl rfl (e_call1 r [_] rfl Try.func44 (by kernel_rfl) (List.Perm.refl _) (fun w hh hs => ilast_spec b n l r w hr hs)) ?_
        rintro _ _ w12 ⟨_, rfl, rfl, rfl⟩
        refine wl_gf rfl rfl (f_move rfl) ?_
        refine wl_gf rfl rfl (f_eql rfl rfl) ?_
        exact wl_pend rfl rfl trivial (List.Sublist.refl _)
      refine wl_f (f_move rfl) ?_
      refine wl_and (j := 8) (c := true) 1 [] trivial rfl rfl rfl rfl rfl (fun hg28_10 => ?_) (fun w28_10 => ?_)
      · skip
        refine wl_ge rfl rfl (e_call0 rfl Try.func16 (by kernel_rfl) (fun w hh => awake11_spec w)) ?_
        rintro _ _ w13 ⟨_, rfl, rfl⟩
        exact wl_pend rfl rfl trivial (List.sublist_append_right _ _)
      refine wl_f (f_assign rfl) ?_
      refine wl_end [(4, _)] ⟨rfl, trivial⟩ ?_
      refine w_ret ?_
      refine ⟨_, _, fun a ha hh => results_tmps Try.results6 rfl a ha _, List.Sublist.refl _, ?_⟩
      simp [tup, hdE]
end Go.Proofs.Ytkabdnijhjccoaa
