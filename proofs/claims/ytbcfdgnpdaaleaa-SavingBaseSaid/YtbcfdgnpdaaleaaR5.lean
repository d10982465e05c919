/- Orders by count: put. -/
import Derived.Test.YtbcfdgnpdaaleaaR4
namespace Go.Proofs.Ytbcfdgnpdaaleaa
open Go.RowKit

def hdC (S : List Bk) : Nat := match S with
  | [] => 0
  | s :: _ => s.2.1
theorem hd_bks_nil {S : List Bk} (h : hdE (-1) (nodes (bks S)) = -1) : S = [] := by
  cases S with
  | nil => rfl
  | cons s S => simp only [bks_cons, List.map_cons, hdE] at h; omega
theorem last_bks {A : List Bk} {s : Bk} : hdE (-1) (nodes (bks (A ++ [s]))).reverse = (s.1 : Int) := by simp [bks, nodes, hdE]
theorem last_bks_nil {A : List Bk} (h : hdE (-1) (nodes (bks A)).reverse = -1) : A = [] := by
  rcases List.eq_nil_or_concat A with rfl | ⟨A0, s, rfl⟩
  · rfl
  · rw [List.concat_eq_append, last_bks] at h; omega
theorem last_bks_some {A : List Bk} (h : hdE (-1) (nodes (bks A)).reverse ≠ -1) : ∃ A0 s, A = A0 ++ [s] := by
  rcases List.eq_nil_or_concat A with rfl | ⟨A0, s, rfl⟩
  · exact absurd rfl h
  · exact ⟨A0, s, by rw [List.concat_eq_append]⟩

section
variable {P : Program} {n : Nat} {w0 : World} {F0 : Nat → Prop} {N R : Cond} {X : Nat → Cond} {m : Env} {H L L' : List Res} {r : Res} {w : World}
theorem bun_mid : Holds w0 F0 (bun (L ++ r :: L') :: H) w ↔ Holds w0 F0 (r :: bun (L ++ L') :: H) w := by
  have hp : ((L ++ r :: L') ++ H).Perm ((L ++ L') ++ (r :: H)) := by
    rw [List.append_assoc, List.append_assoc]
    refine List.Perm.append_left _ ?_
    exact (List.perm_middle (l₁ := L') (l₂ := H) (a := r)).symm
  constructor
  · intro h
    exact (Holds.bun.1 ((Holds.bun.2 h).perm hp)).perm (List.Perm.swap ..)
  · intro h
    exact Holds.bun.1 ((Holds.bun.2 (h.perm (List.Perm.swap ..))).perm hp.symm)
theorem w_mid {c : Code} (h : W P n w0 F0 c N R X m (r :: bun (L ++ L') :: H) w) : W P n w0 F0 c N R X m (bun (L ++ r :: L') :: H) w := w_eqv bun_mid.1 h
theorem w_amid {c : Code} (h : W P n w0 F0 c N R X m (bun (L ++ r :: L') :: H) w) : W P n w0 F0 c N R X m (r :: bun (L ++ L') :: H) w := w_eqv bun_mid.2 h
theorem wl_mid {ops : Array Oper} {l : List Oper} (h : WL P n w0 F0 ops N l m (r :: bun (L ++ L') :: H) w) : WL P n w0 F0 ops N l m (bun (L ++ r :: L') :: H) w := wl_eqv bun_mid.1 h
theorem wl_amid {ops : Array Oper} {l : List Oper} (h : WL P n w0 F0 ops N l m (bun (L ++ r :: L') :: H) w) : WL P n w0 F0 ops N l m (r :: bun (L ++ L') :: H) w := wl_eqv bun_mid.2 h
end
theorem build_bucket (c : Int) (B : Nat) (w : World) : (Instr.build 89 [(0, .int .u64 c), (1, .pointer (some ⟨B, 0, .none⟩))].toArray).run Try.prog w =
    .ok (.agg [.int .u64 c, .pointer (some ⟨B, 0, .none⟩)].toArray) w := by kernel_rfl
theorem build_place (x y : Int) (w : World) : (Instr.build 102 [(0, .bool true), (1, .int .i64 x), (2, .int .i64 y)].toArray).run Try.prog w =
    .ok (.agg [.bool true, .int .i64 x, .int .i64 y].toArray) w := by kernel_rfl

set_option maxHeartbeats 8000000 in
theorem rkput_spec (b n : Nat) (A C : List Bk) (r : Res) (x c : Nat) (w : World) (hx : x < n) (hid : (x : Int) ∉ ids (flat (A ++ C))) (hc : c ≤ 9223372036854775808) (hA : ∀ s ∈ A, s.2.1 < c) (hr : RkR b n (A ++ C) r) (hs : Holds w r.foot [r] w) :
    Spec Try.prog 42 [.pointer (some ⟨b, 0, .none⟩), .int .i64 (x : Int), .int .u64 (c : Int), .int .i64 (hdE (-1) (nodes (bks A)).reverse)] w r.foot fun v H => v = .int .i64 0 ∧ ∃ r', H = [r'] ∧ RkO b n (ins (flat (A ++ C)) x c) r' := by
  obtain ⟨hn1, hn2, B, pV, pl, rB, rs, rfl, hrB, hrs, hI⟩ := id hr
  refine enter (n := 121) Try.func42 rfl rfl [(0, _), (1, _), (2, _), (3, _)] rfl ⟨rfl, rfl, rfl, rfl, trivial⟩ hs ?_
  refine w_seq ?_
  refine w_reg ?_
  refine wl_f (f_assign rfl) ?_
  refine wl_end [(0, _), (1, _), (2, _), (3, _)] ⟨rfl, rfl, rfl, rfl, trivial⟩ ?_
  refine w_seq ?_
  refine w_unb (rkg b n _ B pV pl rB rs) ?_
  refine w_reg ?_
  refine wl_f (f_move rfl) ?_
  refine wl_f (f_nilCheck rfl) ?_
  refine wl_f (f_fieldAddr 2 rfl Try.underlying92 rfl rfl (by kernel_rfl)) ?_
  (first | refine wl_f (f_loadb 0 rfl Try.underlying84 rfl rfl rfl) ?_ | refine wl_f (f_loadb 1 rfl Try.underlying84 rfl rfl rfl) ?_ | refine wl_f (f_loadb 2 rfl Try.underlying84 rfl rfl rfl) ?_ | refine wl_f (f_loadb 3 rfl Try.underlying84 rfl rfl rfl) ?_ | refine wl_f (f_loadb 4 rfl Try.underlying84 rfl rfl rfl) ?_ | refine wl_f (f_loadb 5 rfl Try.underlying84 rfl rfl rfl) ?_ | refine wl_f (f_loadb 6 rfl Try.underlying84 rfl rfl rfl) ?_)
  refine wl_e (e_call1 rB [_, _, _] rfl Try.func57 (by kernel_rfl) (pk1 2 rfl) (fun w hh hs' => bfirst_spec B n _ rB w hrB hs')) ?_
  rintro _ _ w1 ⟨_, rfl, rfl, rfl⟩
  refine wl_f (f_assign rfl) ?_
  refine wl_pick [1, 1, 0, 0] rfl ?_
  refine wl_bun (H := []) [_, _, _, _] ?_
  refine wl_end [(0, _), (1, _), (2, _), (3, _), (9, _)] ⟨rfl, rfl, rfl, rfl, rfl, trivial⟩ ?_
  refine w_seq ?_
  refine w_seq ?_
  refine w_reg ?_
  refine wl_f (f_move rfl) ?_
  refine wl_f (f_neq rfl rfl) ?_
  refine wl_end [(0, _), (1, _), (2, _), (3, _), (9, _), (21, _)] ⟨rfl, rfl, rfl, rfl, rfl, rfl, trivial⟩ ?_
  refine w_post (fun m H w' => m = [(0, .pointer (some ⟨b, 0, .none⟩)), (1, .int .i64 x), (2, .int .u64 c), (3, .int .i64 (hdE (-1) (nodes (bks A)).reverse)), (9, .int .i64 (hdE (-1) (nodes (bks C))))] ∧ H = [bun (rkg b n (flat (A ++ C)).length B pV pl rB rs)]) ?_ ?_
  · skip
    refine w_ifd rfl (fun hc1 => ?_) (fun hc1 => ?_)
    · skip
      obtain ⟨A0, s0, rfl⟩ := last_bks_some (by simpa using hc1)
      rw [last_bks]
      refine w_unb (rkg b n _ B pV pl rB rs) ?_
      refine w_reg ?_
      refine wl_f (f_move rfl) ?_
      refine wl_f (f_nilCheck rfl) ?_
      refine wl_f (f_fieldAddr 2 rfl Try.underlying92 rfl rfl (by kernel_rfl)) ?_
      (first | refine wl_f (f_loadb 0 rfl Try.underlying84 rfl rfl rfl) ?_ | refine wl_f (f_loadb 1 rfl Try.underlying84 rfl rfl rfl) ?_ | refine wl_f (f_loadb 2 rfl Try.underlying84 rfl rfl rfl) ?_ | refine wl_f (f_loadb 3 rfl Try.underlying84 rfl rfl rfl) ?_ | refine wl_f (f_loadb 4 rfl Try.underlying84 rfl rfl rfl) ?_ | refine wl_f (f_loadb 5 rfl Try.underlying84 rfl rfl rfl) ?_ | refine wl_f (f_loadb 6 rfl Try.underlying84 rfl rfl rfl) ?_)
      refine wl_f (f_move rfl) ?_
      refine wl_e (e_call1 rB [_, _, _] rfl Try.func58 (by kernel_rfl) (pk1 2 rfl) (fun w hh hs' => bnext_spec B n _ rB s0.1 w hrB hs')) ?_
      rintro _ _ w2 ⟨_, rfl, rfl, y, rfl, _, hy⟩
      obtain rfl := hy (bks A0) s0.1 _ (bks C) (by rw [bks_app, bks_app, List.append_assoc]; rfl) rfl
      refine wl_f (f_assign rfl) ?_
      refine wl_pick [1, 1, 0, 0] rfl ?_
      refine wl_bun (H := []) [_, _, _, _] ?_
      refine wl_end [(0, _), (1, _), (2, _), (3, _), (9, _)] ⟨rfl, rfl, rfl, rfl, rfl, trivial⟩ ?_
      exact ⟨rfl, rfl⟩
    · skip
      obtain rfl : A = [] := last_bks_nil (by simpa using hc1)
      refine w_sub [(0, _), (1, _), (2, _), (3, _), (9, _)] ⟨rfl, rfl, rfl, rfl, rfl, trivial⟩ (w_skip ?_)
      exact ⟨rfl, rfl⟩
  · rintro _ _ w3 ⟨rfl, rfl⟩
    refine w_seq ?_
    refine w_block ?_
    refine w_loop (fun k m H w' => ∃ A' C', m = [(0, .pointer (some ⟨b, 0, .none⟩)), (1, .int .i64 x), (2, .int .u64 c), (3, .int .i64 (hdE (-1) (nodes (bks A')).reverse)), (9, .int .i64 (hdE (-1) (nodes (bks C'))))] ∧ H = [bun (rkg b n (flat (A ++ C)).length B pV pl rB rs)] ∧
      A ++ C = A' ++ C' ∧ (∀ s ∈ A', s.2.1 < c) ∧ k = C'.length) C.length ⟨A, C, rfl, rfl, rfl, hA, rfl⟩ ?_
    rintro k _ _ w4 ⟨A', C', rfl, rfl, hS, hA', hk⟩
    refine w_seq ?_
    refine w_seq ?_
    refine w_reg ?_
    refine wl_f (f_move rfl) ?_
    refine wl_f (f_neq rfl rfl) ?_
    refine wl_f (f_move rfl) ?_
    refine wl_and (j := 2) (c := decide ((hdC C' : Int) < (c : Int))) 6 [(0, _), (1, _), (2, _), (3, _), (9, _)] ⟨rfl, rfl, rfl, rfl, rfl, trivial⟩ rfl rfl rfl rfl rfl (fun hg4_9 => ?_) (fun w4_9 => ?_)
    · skip
      refine wl_gf rfl rfl (f_move rfl) ?_
      refine wl_gf rfl rfl (f_move rfl) ?_
      obtain ⟨s, C2, rfl⟩ : ∃ s C2, C' = s :: C2 := by
        cases C' with
        | nil => simp [bks, nodes, hdE] at hg4_9
        | cons s t => exact ⟨s, t, rfl⟩
      refine wl_ge rfl rfl (e_call1 (bun (rkg b n _ B pV pl rB rs)) [] rfl Try.func40 (by kernel_rfl) (List.Perm.refl _) (fun w hh hs' => rkofg_spec b n _ A' s C2 B pV pl rB rs w (hS ▸ hrB) hs')) ?_
      rintro _ _ w5 ⟨_, rfl, rfl, rfl⟩
      refine wl_gf rfl rfl (f_field rfl Try.underlying89 rfl Try.underlying30 rfl rfl) ?_
      refine wl_gf rfl rfl (f_move rfl) ?_
      refine wl_gf rfl rfl (f_lss rfl rfl) ?_
      exact wl_pend rfl rfl ⟨rfl, rfl, rfl, rfl, rfl, trivial⟩ (List.Sublist.refl _)
    refine wl_end [(0, _), (1, _), (2, _), (3, _), (9, _), (37, _)] ⟨rfl, rfl, rfl, rfl, rfl, rfl, trivial⟩ ?_
    refine w_ifb rfl (fun hc2 => ?_) (fun hc2 => ?_)
    · skip
      refine w_skip ?_
      refine w_block ?_
      obtain ⟨s, C2, rfl⟩ : ∃ s C2, C' = s :: C2 := by
        cases C' with
        | nil => simp [bks, nodes, hdE] at hc2
        | cons s t => exact ⟨s, t, rfl⟩
      refine w_unb (rkg b n _ B pV pl rB rs) ?_
      refine w_reg ?_
      refine wl_f (f_move rfl) ?_
      refine wl_f (f_move rfl) ?_
      refine wl_f (f_nilCheck rfl) ?_
      refine wl_f (f_fieldAddr 2 rfl Try.underlying92 rfl rfl (by kernel_rfl)) ?_
      (first | refine wl_f (f_loadb 0 rfl Try.underlying84 rfl rfl rfl) ?_ | refine wl_f (f_loadb 1 rfl Try.underlying84 rfl rfl rfl) ?_ | refine wl_f (f_loadb 2 rfl Try.underlying84 rfl rfl rfl) ?_ | refine wl_f (f_loadb 3 rfl Try.underlying84 rfl rfl rfl) ?_ | refine wl_f (f_loadb 4 rfl Try.underlying84 rfl rfl rfl) ?_ | refine wl_f (f_loadb 5 rfl Try.underlying84 rfl rfl rfl) ?_ | refine wl_f (f_loadb 6 rfl Try.underlying84 rfl rfl rfl) ?_)
      refine wl_f (f_move rfl) ?_
      refine wl_e (e_call1 rB [_, _, _] rfl Try.func58 (by kernel_rfl) (pk1 2 rfl) (fun w hh hs' => bnext_spec B n _ rB s.1 w hrB hs')) ?_
      rintro _ _ w6 ⟨_, rfl, rfl, y, rfl, _, hy⟩
      obtain rfl := hy (bks A') s.1 _ (bks C2) (by rw [hS, bks_app]; rfl) rfl
      refine wl_f (f_assign rfl) ?_
      refine wl_f (f_assign rfl) ?_
      refine wl_pick [1, 1, 0, 0] rfl ?_
      refine wl_bun (H := []) [_, _, _, _] ?_
      refine wl_end [(0, _), (1, _), (2, _), (3, _), (9, _)] ⟨rfl, rfl, rfl, rfl, rfl, trivial⟩ ?_
      refine ⟨C2.length, by rw [hk]; exact Nat.lt_succ_self _, A' ++ [s], C2, by rw [last_bks]; rfl, rfl, by rw [hS, List.append_assoc]; rfl, fun t ht => ?_, rfl⟩
      rcases List.mem_append.1 ht with ht | ht
      · exact hA' t ht
      · rw [List.mem_singleton] at ht
        subst ht
        have h2 := (Bool.and_eq_true _ _).mp hc2 |>.2
        have h3 : (t.2.1 : Int) < (c : Int) := of_decide_eq_true h2
        omega
    · skip
      have hC0 : C' = [] ∨ c ≤ hdC C' := by
        cases C' with
        | nil => exact .inl rfl
        | cons s t =>
          refine .inr (Nat.le_of_not_lt fun h => hc2 ?_)
          rw [Bool.and_eq_true]
          refine ⟨?_, decide_eq_true (by show (s.2.1 : Int) < c; have h' : s.2.1 < c := h; omega)⟩
          simp only [bks_cons, List.map_cons, hdE]
          exact decide_eq_true (by omega)
      refine w_exit0 ?_
      refine w_seq ?_
      refine w_seq ?_
      refine w_reg ?_
      refine wl_f (f_move rfl) ?_
      refine wl_f (f_eql rfl rfl) ?_
      refine wl_f (f_move rfl) ?_
      refine wl_or (j := 2) (c := decide ((hdC C' : Int) ≠ (c : Int))) 6 [(0, _), (1, _), (2, _), (3, _), (9, _)] ⟨rfl, rfl, rfl, rfl, rfl, trivial⟩ rfl rfl rfl rfl rfl (fun hg6_9 => ?_) (fun w6_9 => ?_)
      · skip
        refine wl_gf rfl rfl (f_move rfl) ?_
        refine wl_gf rfl rfl (f_move rfl) ?_
        obtain ⟨s, C2, rfl⟩ : ∃ s C2, C' = s :: C2 := by
          cases C' with
          | nil => simp [bks, nodes, hdE] at hg6_9
          | cons s t => exact ⟨s, t, rfl⟩
        refine wl_ge rfl rfl (e_call1 (bun (rkg b n _ B pV pl rB rs)) [] rfl Try.func40 (by kernel_rfl) (List.Perm.refl _) (fun w hh hs' => rkofg_spec b n _ A' s C2 B pV pl rB rs w (hS ▸ hrB) hs')) ?_
        rintro _ _ w5 ⟨_, rfl, rfl, rfl⟩
        refine wl_gf rfl rfl (f_field rfl Try.underlying89 rfl Try.underlying30 rfl rfl) ?_
        refine wl_gf rfl rfl (f_move rfl) ?_
        refine wl_gf rfl rfl (f_neq rfl rfl) ?_
        exact wl_pend rfl rfl ⟨rfl, rfl, rfl, rfl, rfl, trivial⟩ (List.Sublist.refl _)
      refine wl_end [(0, _), (1, _), (2, _), (3, _), (9, _), (54, _)] ⟨rfl, rfl, rfl, rfl, rfl, rfl, trivial⟩ ?_
      refine w_post (fun m H w' => ∃ (A1 : List Bk) (s1 : Bk) (C1 : List Bk) (rB1 : Res) (ra : List Res) (ri : Res) (rc : List Res),
        m = [(0, .pointer (some ⟨b, 0, .none⟩)), (1, .int .i64 x), (9, .int .i64 s1.1)] ∧ H = [bun (rkg b n (flat (A ++ C)).length B pV pl rB1 (ra ++ ri :: rc))] ∧
        ChR kBuc B n (bks (A1 ++ s1 :: C1)) rB1 ∧ IdsR n A1 ra ∧ ChR kInt s1.2.2.1 n s1.2.2.2 ri ∧ IdsR n C1 rc ∧ s1.2.2.2.length < n ∧
        (∀ y, Fresh (nodes s1.2.2.2) y → RInv n (A1 ++ bpush s1 y x :: C1) (pl.set x (some (s1.1, y))) ∧ flat (A1 ++ bpush s1 y x :: C1) = ins (flat (A ++ C)) x c)) ?_ ?_
      · skip
        refine w_ifb rfl (fun hc3 => ?_) (fun hc3 => ?_)
        · skip
          obtain ⟨ra, rc, hrac, hra, hrc⟩ := IdsR.split (hS ▸ hrs : IdsR n (A' ++ C') rs)
          subst hrac
          have hI' : RInv n (A' ++ C') pl := hS ▸ hI
          have hid' : (x : Int) ∉ ids (flat (A' ++ C')) := hS ▸ hid
          have hlt := range_lt hI'.nid hI'.rng (id := (x : Int)) (by omega) hid'
          have hfl := flat_len hI'.ne
          simp only [ids, List.length_map] at hlt
          have hlb := bks_len (A' ++ C')
          have hrB' : ChR kBuc B n (bks (A' ++ C')) rB := hS ▸ hrB
          have hCgt : ∀ s ∈ C', c < s.2.1 := by
            cases C' with
            | nil => exact fun s hs => absurd hs (List.not_mem_nil)
            | cons s C2 =>
              have h1 : c ≤ s.2.1 := by
                rcases hC0 with h | h
                · cases h
                · exact h
              have h2 : s.2.1 ≠ c := by
                rw [Bool.or_eq_true] at hc3
                rcases hc3 with h | h
                · have h' := of_decide_eq_true h
                  simp only [bks_cons, List.map_cons, hdE] at h'
                  omega
                · have h' := of_decide_eq_true h
                  have h'' : (s.2.1 : Int) ≠ c := h'
                  omega
              intro t ht
              rcases List.mem_cons.1 ht with rfl | ht
              · omega
              · have := (asc_split hI'.asc).2 t ht; omega
          refine w_seq ?_
          refine w_reg ?_
          refine wl_f (f_move rfl) ?_
          refine wl_f (f_nilCheck rfl) ?_
          refine wl_f (f_fieldAddr 0 rfl Try.underlying92 rfl rfl (by kernel_rfl)) ?_
          refine wl_f (f_loadB 0 0 rfl rfl rfl Try.underlying3 rfl rfl) ?_
          refine wl_e (e_call0 rfl Try.func59 (by kernel_rfl) (fun w hh => inew_spec n w)) ?_
          rintro _ _ w7 ⟨_, rfl, ⟨_, rfl, rfl⟩ | ⟨k', k0, rN, hk', _, _, rfl, rfl, hrN⟩⟩
          · omega
          obtain rfl : n = k' := by omega
          refine wl_f (f_move rfl) ?_
          refine wl_f (f_extract rfl rfl) ?_
          refine wl_f (f_extract rfl rfl) ?_
          refine wl_f (f_assign rfl) ?_
          refine wl_f (f_assign rfl) ?_
          refine wl_end [(0, _), (1, _), (2, _), (3, _), (10, _), (11, _)] ⟨rfl, rfl, rfl, rfl, rfl, rfl, trivial⟩ ?_
          refine w_seq ?_
          refine w_seq ?_
          refine w_reg ?_
          refine wl_f (f_move rfl) ?_
          refine wl_f (f_neq rfl rfl) ?_
          refine wl_end [(0, _), (1, _), (2, _), (3, _), (10, _), (11, _), (64, _)] ⟨rfl, rfl, rfl, rfl, rfl, rfl, rfl, trivial⟩ ?_
          refine w_ifb rfl (fun h => absurd h (by simp)) (fun _ => ?_)
          refine w_skip ?_
          refine w_seq ?_
          refine w_reg ?_
          refine wl_f (f_move rfl) ?_
          refine wl_f (f_move rfl) ?_
          refine wl_f (f_build rfl (fun w => build_bucket _ _ w)) ?_
          refine wl_e (e_allocs [.int .u64 0, .pointer .none] (by kernel_rfl)) ?_
          rintro _ _ w10_3 ⟨b10_3, rfl, rfl⟩
          (first | refine wl_e0 (e_store0 (us := [_, _]) rfl rfl rfl (by kernel_rfl) (by simp [Value.oneCell']) rfl rfl) ?_ | refine wl_e0 (e_store1 (us := [_, _]) rfl rfl rfl (by kernel_rfl) (by simp [Value.oneCell']) rfl rfl) ?_ | refine wl_e0 (e_store2 (us := [_, _]) rfl rfl rfl (by kernel_rfl) (by simp [Value.oneCell']) rfl rfl) ?_ | refine wl_e0 (e_store3 (us := [_, _]) rfl rfl rfl (by kernel_rfl) (by simp [Value.oneCell']) rfl rfl) ?_)
          rintro _ _ w10_4 rfl
          refine wl_end [(0, _), (1, _), (3, _), (12, _)] ⟨rfl, rfl, rfl, rfl, trivial⟩ ?_
          refine w_seq ?_
          refine w_seq ?_
          refine w_reg ?_
          refine wl_f (f_move rfl) ?_
          refine wl_f (f_eql rfl rfl) ?_
          refine wl_pick [2, 0, 0] rfl ?_
          refine wl_unb (rkg b n _ B pV pl rB (ra ++ rc)) ?_
          refine wl_pick [0, 0, 1, 2, 1, 0] rfl ?_
          refine wl_end [(0, _), (1, _), (3, _), (12, _), (70, _)] ⟨rfl, rfl, rfl, rfl, rfl, trivial⟩ ?_
          refine w_post (fun m H w' => ∃ (y : Nat) (r' : Res), m = [(0, .pointer (some ⟨b, 0, .none⟩)), (1, .int .i64 x), (9, .int .i64 y), (11, .int .i64 0)] ∧
            H = [blk b [.int .i64 (n : Int), .int .i64 ((flat (A ++ C)).length : Int), .pointer (some ⟨B, 0, .none⟩), pV] 92, row pV 102 3 n (pcells pl), bun (ra ++ rc), rN, r'] ∧
            ChR kBuc B n (bks (A' ++ (y, c, k0, []) :: C')) r' ∧ y ∉ (A' ++ C').map (·.1)) ?_ ?_
          · skip
            refine w_ifd rfl (fun hc5 => ?_) (fun hc5 => ?_)
            · skip
              obtain rfl : A' = [] := last_bks_nil (by simpa using hc5)
              refine w_draw [(0, true), (1, true), (2, true), (3, true), (4, true), (5, false), (6, true), (7, true), (8, true), (9, true), (10, true)] ([_, _, _, _, _]) ([_]) mixed (by kernel_rfl) (by kernel_rfl) rfl (List.Perm.refl _) (fun w12_ => ?_)
              refine wd_f rfl (f_move rfl) ?_
              refine wd_f rfl (f_nilCheck rfl) ?_
              refine wd_f rfl (f_fieldAddr 2 rfl Try.underlying92 rfl rfl (by kernel_rfl)) ?_
              (first | refine wd_f rfl (f_loadb 0 rfl Try.underlying84 rfl rfl rfl) ?_ | refine wd_f rfl (f_loadb 1 rfl Try.underlying84 rfl rfl rfl) ?_ | refine wd_f rfl (f_loadb 2 rfl Try.underlying84 rfl rfl rfl) ?_ | refine wd_f rfl (f_loadb 3 rfl Try.underlying84 rfl rfl rfl) ?_ | refine wd_f rfl (f_loadb 4 rfl Try.underlying84 rfl rfl rfl) ?_ | refine wd_f rfl (f_loadb 5 rfl Try.underlying84 rfl rfl rfl) ?_ | refine wd_f rfl (f_loadb 6 rfl Try.underlying84 rfl rfl rfl) ?_)
              (first | refine wd_f rfl (f_loadsb (cs := [_, _]) 0 rfl Try.underlying89 rfl (by kernel_rfl) rfl rfl) ?_ | refine wd_f rfl (f_loadsb (cs := [_, _]) 1 rfl Try.underlying89 rfl (by kernel_rfl) rfl rfl) ?_ | refine wd_f rfl (f_loadsb (cs := [_, _]) 2 rfl Try.underlying89 rfl (by kernel_rfl) rfl rfl) ?_ | refine wd_f rfl (f_loadsb (cs := [_, _]) 3 rfl Try.underlying89 rfl (by kernel_rfl) rfl rfl) ?_ | refine wd_f rfl (f_loadsb (cs := [_, _]) 4 rfl Try.underlying89 rfl (by kernel_rfl) rfl rfl) ?_ | refine wd_f rfl (f_loadsb (cs := [_, _]) 5 rfl Try.underlying89 rfl (by kernel_rfl) rfl rfl) ?_ | refine wd_f rfl (f_loadsb (cs := [_, _]) 6 rfl Try.underlying89 rfl (by kernel_rfl) rfl rfl) ?_)
              refine wd_e rfl (e_call1 rB [_, _, _, _, _] rfl Try.func60 (by kernel_rfl) (pk1 5 rfl) (fun w hh hs' => bPushFront_spec B n _ (c, some k0) rB w hn2 hrB' hs')) ?_
              rintro _ _ w12 ⟨_, rfl, ⟨h, _⟩ | ⟨_, y, r2, hy, rfl, rfl, hr2⟩⟩
              · exfalso
                rw [List.nil_append, List.nil_append] at h
                rw [List.nil_append] at hfl hlt hlb
                omega
              refine ⟨_, List.perm_append_comm, ?_⟩
              refine wd_f rfl (f_move rfl) ?_
              refine wd_f rfl (f_extract rfl rfl) ?_
              refine wd_f rfl (f_extract rfl rfl) ?_
              refine wd_f rfl (f_assign rfl) ?_
              refine wd_f rfl (f_assign rfl) ?_
              refine wd_endp [(0, _), (1, _), (9, _), (11, _)] [0, 0, 0, 0, 1] ⟨rfl, rfl, rfl, rfl, trivial⟩ rfl ?_
              exact ⟨y, r2, rfl, rfl, hr2, by rw [← nodes_bks]; exact hy.1⟩
            · skip
              obtain ⟨A0, s0, rfl⟩ := last_bks_some (by simpa using hc5)
              rw [last_bks]
              refine w_draw [(0, true), (1, true), (2, true), (3, true), (4, true), (5, true), (6, false), (7, true), (8, true), (9, true), (10, true), (11, true)] ([_, _, _, _, _]) ([_]) mixed (by kernel_rfl) (by kernel_rfl) rfl (List.Perm.refl _) (fun w13_ => ?_)
              refine wd_f rfl (f_move rfl) ?_
              refine wd_f rfl (f_nilCheck rfl) ?_
              refine wd_f rfl (f_fieldAddr 2 rfl Try.underlying92 rfl rfl (by kernel_rfl)) ?_
              (first | refine wd_f rfl (f_loadb 0 rfl Try.underlying84 rfl rfl rfl) ?_ | refine wd_f rfl (f_loadb 1 rfl Try.underlying84 rfl rfl rfl) ?_ | refine wd_f rfl (f_loadb 2 rfl Try.underlying84 rfl rfl rfl) ?_ | refine wd_f rfl (f_loadb 3 rfl Try.underlying84 rfl rfl rfl) ?_ | refine wd_f rfl (f_loadb 4 rfl Try.underlying84 rfl rfl rfl) ?_ | refine wd_f rfl (f_loadb 5 rfl Try.underlying84 rfl rfl rfl) ?_ | refine wd_f rfl (f_loadb 6 rfl Try.underlying84 rfl rfl rfl) ?_)
              refine wd_f rfl (f_move rfl) ?_
              (first | refine wd_f rfl (f_loadsb (cs := [_, _]) 0 rfl Try.underlying89 rfl (by kernel_rfl) rfl rfl) ?_ | refine wd_f rfl (f_loadsb (cs := [_, _]) 1 rfl Try.underlying89 rfl (by kernel_rfl) rfl rfl) ?_ | refine wd_f rfl (f_loadsb (cs := [_, _]) 2 rfl Try.underlying89 rfl (by kernel_rfl) rfl rfl) ?_ | refine wd_f rfl (f_loadsb (cs := [_, _]) 3 rfl Try.underlying89 rfl (by kernel_rfl) rfl rfl) ?_ | refine wd_f rfl (f_loadsb (cs := [_, _]) 4 rfl Try.underlying89 rfl (by kernel_rfl) rfl rfl) ?_ | refine wd_f rfl (f_loadsb (cs := [_, _]) 5 rfl Try.underlying89 rfl (by kernel_rfl) rfl rfl) ?_ | refine wd_f rfl (f_loadsb (cs := [_, _]) 6 rfl Try.underlying89 rfl (by kernel_rfl) rfl rfl) ?_)
              refine wd_e rfl (e_call1 rB [_, _, _, _, _] rfl Try.func61 (by kernel_rfl) (pk1 5 rfl) (fun w hh hs' => bInsertAfter_spec B n _ s0.1 (c, some k0) rB w hn2 hrB' hs')) ?_
              rintro _ _ w13 ⟨_, rfl, hG⟩
              rw [bks_app, bks_app, List.append_assoc] at hG
              have hnd := hrB'.nd
              rw [bks_app, bks_app, List.append_assoc] at hnd
              replace hG := BehindG.ok (A := bks A0) (y := s0.1) (a := (s0.2.1, some s0.2.2.1)) (B := bks C') hG hnd
              obtain ⟨h, _⟩ | ⟨_, y, r2, hy, rfl, rfl, hr2⟩ := hG
              · exfalso
                rw [bks_app, bks_app] at hlb
                have : (bks A0 ++ [(s0.1, s0.2.1, some s0.2.2.1)] ++ bks C').length = n := h
                have h3 : (bks A0 ++ bks [s0] ++ bks C').length = n := this
                omega
              refine ⟨_, List.perm_append_comm, ?_⟩
              refine wd_f rfl (f_move rfl) ?_
              refine wd_f rfl (f_extract rfl rfl) ?_
              refine wd_f rfl (f_extract rfl rfl) ?_
              refine wd_f rfl (f_assign rfl) ?_
              refine wd_f rfl (f_assign rfl) ?_
              refine wd_endp [(0, _), (1, _), (9, _), (11, _)] [0, 0, 0, 0, 1] ⟨rfl, rfl, rfl, rfl, trivial⟩ rfl ?_
              refine ⟨y, r2, rfl, rfl, ?_, ?_⟩
              · rw [bks_app, bks_app, bks_cons]; exact hr2
              · rw [← nodes_bks, bks_app, bks_app]; exact hy.1
          · rintro _ _ w14 ⟨y, r', rfl, rfl, hrB2, hyn⟩
            refine w_seq ?_
            refine w_reg ?_
            refine wl_f (f_move rfl) ?_
            refine wl_f (f_neq rfl rfl) ?_
            refine wl_end [(0, _), (1, _), (9, _), (11, _), (91, _)] ⟨rfl, rfl, rfl, rfl, rfl, trivial⟩ ?_
            refine w_ifb rfl (fun h => absurd h (by simp)) (fun _ => ?_)
            refine w_pick [3, 2, 0, 0, 0] rfl ?_
            refine w_amid ?_
            refine w_pick [1, 1, 1, 0] rfl ?_
            refine w_bun (H := []) [_, _, _, _] ?_
            refine w_sub [(0, _), (1, _), (9, _)] ⟨rfl, rfl, rfl, trivial⟩ (w_skip ?_)
            exact ⟨A', (y, c, k0, []), C', r', ra, rN, rc, rfl, rfl, hrB2, hra, hrN, hrc, by show 0 < n; omega, fun z hz => ⟨hI'.bucket hx hid' hyn hA' hCgt hc, by rw [hS]; exact (ins_bucket hA' hCgt).symm⟩⟩
        · skip
          obtain ⟨s, C2, rfl⟩ : ∃ s C2, C' = s :: C2 := by
            cases C' with
            | nil => exact absurd rfl hc3
            | cons s t => exact ⟨s, t, rfl⟩
          have hsc : s.2.1 = c := by
            refine Classical.byContradiction fun h => hc3 ?_
            rw [Bool.or_eq_true]
            exact .inr (decide_eq_true (by show (s.2.1 : Int) ≠ c; omega))
          refine w_sub [(0, _), (1, _), (9, _)] ⟨rfl, rfl, rfl, trivial⟩ (w_skip ?_)
          obtain ⟨ra, rb, rfl, h1, h2⟩ := IdsR.split (hS ▸ hrs : IdsR n (A' ++ s :: C2) rs)
          obtain ⟨ri, rc, rfl, h3, h4⟩ := h2.cons_inv
          have hI' : RInv n (A' ++ s :: C2) pl := hS ▸ hI
          have hlt := range_lt hI'.nid hI'.rng (id := (x : Int)) (by omega) (hS ▸ hid)
          refine ⟨A', s, C2, rB, ra, ri, rc, rfl, rfl, hS ▸ hrB, h1, h3, h4, ?_, fun y hy => ⟨hI'.push hx (hS ▸ hid) hy.1, ?_⟩⟩
          · rw [flat_mid] at hlt
            simp only [ids, List.length_map, List.length_append, bfl] at hlt
            omega
          · rw [hS, ← hsc, ins_push hI'.asc]
      · rintro _ _ w15 ⟨A1, s1, C1, rB1, ra, ri, rc, rfl, rfl, hrB1, hra, hri, hrc, hl1, hfin⟩
        refine w_seq ?_
        refine w_reg ?_
        refine wl_f (f_move rfl) ?_
        refine wl_f (f_move rfl) ?_
        refine wl_e (e_call1 (bun (rkg b n _ B pV pl rB1 (ra ++ ri :: rc))) [] rfl Try.func40 (by kernel_rfl) (List.Perm.refl _) (fun w hh hs' => rkofg_spec b n _ A1 s1 C1 B pV pl rB1 _ w hrB1 hs')) ?_
        rintro _ _ w16 ⟨_, rfl, rfl, rfl⟩
        rw [List.append_nil]
        refine wl_unb (rkg b n _ B pV pl rB1 (ra ++ ri :: rc)) ?_
        refine wl_pick [3, 0, 0, 0] rfl ?_
        refine wl_mid ?_
        refine wl_f (f_field rfl Try.underlying89 rfl Try.underlying87 rfl rfl) ?_
        refine wl_f (f_move rfl) ?_
        refine wl_e (e_call1 ri [_, _, _, _] rfl Try.func62 (by kernel_rfl) (pk1 0 rfl) (fun w hh hs' => ipushBack_spec s1.2.2.1 n s1.2.2.2 (x : Int) ri w hn2 hri hs')) ?_
        rintro _ _ w17 ⟨_, rfl, ⟨h, _⟩ | ⟨_, y, r2, hy, rfl, rfl, hr2⟩⟩
        · exfalso
          rw [List.append_nil] at h
          omega
        rw [List.append_nil] at hy
        obtain ⟨hI2, hfl2⟩ := hfin y hy
        have hpl := hI.len
        have hlt2 := range_lt hI.nid hI.rng (id := (x : Int)) (by omega) hid
        simp only [ids, List.length_map] at hlt2
        refine wl_f (f_move rfl) ?_
        refine wl_f (f_extract rfl rfl) ?_
        refine wl_f (f_extract rfl rfl) ?_
        refine wl_f (f_assign rfl) ?_
        refine wl_f (f_assign rfl) ?_
        refine wl_end [(0, _), (1, _), (9, _), (13, _), (14, _)] ⟨rfl, rfl, rfl, rfl, rfl, trivial⟩ ?_
        refine w_seq ?_
        refine w_seq ?_
        refine w_reg ?_
        refine wl_f (f_move rfl) ?_
        refine wl_f (f_neq rfl rfl) ?_
        refine wl_end [(0, _), (1, _), (9, _), (13, _), (14, _), (103, _)] ⟨rfl, rfl, rfl, rfl, rfl, rfl, trivial⟩ ?_
        refine w_ifb rfl (fun h => absurd h (by simp)) (fun _ => ?_)
        refine w_skip ?_
        refine w_seq ?_
        refine w_with fun hh => ?_
        obtain ⟨g, cp, rfl⟩ := row_form hh (i := 3) rfl (by omega)
        clear hh
        refine w_reg ?_
        refine wl_f (f_move rfl) ?_
        refine wl_f (f_nilCheck rfl) ?_
        refine wl_f (f_fieldAddr 3 rfl Try.underlying92 rfl rfl (by kernel_rfl)) ?_
        (first | refine wl_f (f_loadb 0 rfl Try.underlying90 rfl rfl rfl) ?_ | refine wl_f (f_loadb 1 rfl Try.underlying90 rfl rfl rfl) ?_ | refine wl_f (f_loadb 2 rfl Try.underlying90 rfl rfl rfl) ?_ | refine wl_f (f_loadb 3 rfl Try.underlying90 rfl rfl rfl) ?_ | refine wl_f (f_loadb 4 rfl Try.underlying90 rfl rfl rfl) ?_ | refine wl_f (f_loadb 5 rfl Try.underlying90 rfl rfl rfl) ?_ | refine wl_f (f_loadb 6 rfl Try.underlying90 rfl rfl rfl) ?_)
        refine wl_f (f_move rfl) ?_
        refine wl_f (f_move rfl) ?_
        refine wl_f (f_move rfl) ?_
        refine wl_f (f_build rfl (fun w => build_place _ _ w)) ?_
        refine wl_f (f_indexAddr 3 (i := x) rfl rfl Try.underlying90 (by kernel_rfl) rfl hx) ?_
        refine wl_e0 (e_storerN 3 (us := pcell (some (s1.1, y))) (xs' := pcells (pl.set x (some (s1.1, y)))) rfl rfl rfl rfl (by kernel_rfl) (by simp [pcell, Value.oneCell']) (by rw [pcells_len]; show 0 + x * 3 + 3 ≤ _; omega) (pcells_set _ (by omega))) ?_
        rintro _ _ w19_9 rfl
        refine wl_end [(0, _)] ⟨rfl, trivial⟩ ?_
        refine w_seq ?_
        refine w_reg ?_
        refine wl_f (f_move rfl) ?_
        refine wl_f (f_nilCheck rfl) ?_
        refine wl_f (f_fieldAddr 1 rfl Try.underlying92 rfl rfl (by kernel_rfl)) ?_
        (first | refine wl_f (f_loadb 0 rfl Try.underlying3 rfl rfl rfl) ?_ | refine wl_f (f_loadb 1 rfl Try.underlying3 rfl rfl rfl) ?_ | refine wl_f (f_loadb 2 rfl Try.underlying3 rfl rfl rfl) ?_ | refine wl_f (f_loadb 3 rfl Try.underlying3 rfl rfl rfl) ?_ | refine wl_f (f_loadb 4 rfl Try.underlying3 rfl rfl rfl) ?_ | refine wl_f (f_loadb 5 rfl Try.underlying3 rfl rfl rfl) ?_ | refine wl_f (f_loadb 6 rfl Try.underlying3 rfl rfl rfl) ?_)
        refine wl_f (f_add rfl rfl (by omega)) ?_
        refine wl_f (f_nilCheck rfl) ?_
        refine wl_f (f_fieldAddr 1 rfl Try.underlying92 rfl rfl (by kernel_rfl)) ?_
        (first | refine wl_e0 (e_store0 (us := [_]) rfl rfl rfl (by kernel_rfl) (by simp [Value.oneCell']) rfl rfl) ?_ | refine wl_e0 (e_store1 (us := [_]) rfl rfl rfl (by kernel_rfl) (by simp [Value.oneCell']) rfl rfl) ?_ | refine wl_e0 (e_store2 (us := [_]) rfl rfl rfl (by kernel_rfl) (by simp [Value.oneCell']) rfl rfl) ?_ | refine wl_e0 (e_store3 (us := [_]) rfl rfl rfl (by kernel_rfl) (by simp [Value.oneCell']) rfl rfl) ?_)
        rintro _ _ w20_7 rfl
        refine wl_end [] trivial ?_
        refine w_seq ?_
        refine w_reg ?_
        refine wl_f (f_assign rfl) ?_
        refine wl_end [(8, _)] ⟨rfl, trivial⟩ ?_
        refine w_amid ?_
        refine w_pick [1, 1, 1, 0] rfl ?_
        refine w_bun (H := []) [_, _, _, _] ?_
        refine w_ret ?_
        refine ⟨_, _, fun a ha hh => results_tmps Try.results42 rfl a ha _, List.Sublist.refl _, ?_⟩
        refine ⟨rfl, _, rfl, A1 ++ bpush s1 y x :: C1, hfl2.symm, hn1, hn2, B, .slice (some ⟨g, 0, .none⟩) n cp, _, rB1, ra ++ r2 :: rc, ?_, ?_, hra.join ⟨hr2, hrc⟩, hI2⟩
        · rw [rks, hfl2, ins_len, rkg]
          rfl
        · rw [bks_app, bks_cons] at hrB1
          rw [bks_app, bks_cons]
          exact hrB1
end Go.Proofs.Ytbcfdgnpdaaleaa
