/- The law ChainSteps: the call returns true. -/
import Derived.Test.YtkabdnijhjccoaaCE3
import Derived.Test.YtkabdnijhjccoaaCR
namespace Go.Proofs.Ytkabdnijhjccoaa
open Go.RowKit

section
variable {R R1 R2 : List (Nat × Int) → Res → Prop} {K : VK Int} {n : Nat} {A B l : List (Nat × Int)} {v : Int} {r r1 r2 rr : Res} {u u2 : Value} {H H2 : List Res} {node x e x2 e2 : Int}
theorem NewG.form (h : NewG R n A B v r u H) : ∃ (x e : Int) (r' : Res), u = .tuple [.int .i64 x, .int .i64 e].toArray ∧ H = [r'] := by
  rcases h with ⟨_, rfl, rfl⟩ | ⟨_, x, r', _, rfl, rfl, h⟩ <;> exact ⟨_, _, _, rfl, rfl⟩
theorem BehindG.form (h : BehindG R n l node v r u H) : ∃ (x e : Int) (r' : Res), u = .tuple [.int .i64 x, .int .i64 e].toArray ∧ H = [r'] := by
  rcases h with ⟨_, rfl, rfl⟩ | ⟨A, y, a, B, rfl, _, h⟩
  · exact ⟨_, _, _, rfl, rfl⟩
  · exact h.form
theorem RemG.form (h : RemG kInt R l node r u H) : ∃ (x e : Int) (r' : Res), u = .tuple [.int .i64 x, .int .i64 e].toArray ∧ H = [r'] := by
  rcases h with ⟨_, rfl, rfl⟩ | ⟨A, y, a, B, r', _, _, rfl, rfl, h⟩ <;> exact ⟨_, _, _, rfl, rfl⟩
theorem ValAt.form (h : ValAt kInt l node u) : ∃ x e : Int, u = .tuple [.int .i64 x, .int .i64 e].toArray := by
  rcases h with ⟨_, rfl⟩ | ⟨A, y, a, B, _, _, rfl⟩ <;> exact ⟨_, _, rfl⟩
theorem NewG.agree (h1 : NewG R1 n A B v r (.tuple [.int .i64 x, .int .i64 e].toArray) [r1]) (h2 : NewG R2 n A B v rr (.tuple [.int .i64 x2, .int .i64 e2].toArray) [r2]) (hr : R1 (A ++ B) r) (hr2 : R2 (A ++ B) rr) :
    ∃ l', x2 = x ∧ e2 = e ∧ R1 l' r1 ∧ R2 l' r2 := by
  rcases h1 with ⟨hn, hu, hH⟩ | ⟨hn, y, r', hy, hu, hH, h⟩
  · rcases h2 with ⟨_, hu2, hH2⟩ | ⟨hn2, _⟩
    · simp at hu hu2 hH hH2
      exact ⟨A ++ B, by omega, by omega, hH ▸ hr, hH2 ▸ hr2⟩
    · exact absurd hn hn2
  · rcases h2 with ⟨hn2, _⟩ | ⟨_, y2, r2', hy2, hu2, hH2, h2⟩
    · exact absurd hn2 hn
    · obtain rfl := hy.uniq hy2
      simp at hu hu2 hH hH2
      exact ⟨_, by omega, by omega, hH ▸ h, hH2 ▸ h2⟩
theorem BehindG.agree (hnd : (nodes l).Nodup) (h1 : BehindG R1 n l node v r (.tuple [.int .i64 x, .int .i64 e].toArray) [r1]) (h2 : BehindG R2 n l node v rr (.tuple [.int .i64 x2, .int .i64 e2].toArray) [r2]) (hr : R1 l r) (hr2 : R2 l rr) :
    ∃ l', x2 = x ∧ e2 = e ∧ R1 l' r1 ∧ R2 l' r2 := by
  rcases h1 with ⟨hn, hu, hH⟩ | ⟨A, y, a, B, rfl, rfl, h1⟩
  · rcases h2 with ⟨_, hu2, hH2⟩ | ⟨A, y, a, B, rfl, rfl, _⟩
    · simp at hu hu2 hH hH2
      exact ⟨l, by omega, by omega, hH ▸ hr, hH2 ▸ hr2⟩
    · rw [isAt_split] at hn; cases hn
  · rcases h2 with ⟨hn, _⟩ | ⟨A', y', a', B', he, hy, h2⟩
    · rw [isAt_split] at hn; cases hn
    · obtain rfl : y = y' := by omega
      obtain ⟨rfl, rfl, rfl⟩ := node_uniq hnd he
      exact h1.agree h2 (by simpa using hr) (by simpa using hr2)
theorem RemG.agree (hnd : (nodes l).Nodup) (h1 : RemG kInt R1 l node r (.tuple [.int .i64 x, .int .i64 e].toArray) [r1]) (h2 : RemG kInt R2 l node rr (.tuple [.int .i64 x2, .int .i64 e2].toArray) [r2]) (hr : R1 l r) (hr2 : R2 l rr) :
    ∃ l', x2 = x ∧ e2 = e ∧ R1 l' r1 ∧ R2 l' r2 := by
  rcases h1 with ⟨hn, hu, hH⟩ | ⟨A, y, a, B, r', rfl, rfl, hu, hH, h1⟩
  · rcases h2 with ⟨_, hu2, hH2⟩ | ⟨A, y, a, B, r', rfl, rfl, _⟩
    · simp [kInt] at hu hu2 hH hH2
      exact ⟨l, by omega, by omega, hH ▸ hr, hH2 ▸ hr2⟩
    · rw [isAt_split] at hn; cases hn
  · rcases h2 with ⟨hn, _⟩ | ⟨A', y', a', B', r2', he, hy, hu2, hH2, h2⟩
    · rw [isAt_split] at hn; cases hn
    · obtain rfl : y = y' := by omega
      obtain ⟨rfl, rfl, rfl⟩ := node_uniq hnd he
      simp [kInt] at hu hu2 hH hH2
      exact ⟨_, by omega, by omega, hH ▸ h1, hH2 ▸ h2⟩
theorem ValAt.agree (hnd : (nodes l).Nodup) (h1 : ValAt kInt l node (.tuple [.int .i64 x, .int .i64 e].toArray)) (h2 : ValAt kInt l node (.tuple [.int .i64 x2, .int .i64 e2].toArray)) : x2 = x ∧ e2 = e := by
  rcases h1 with ⟨hn, hu⟩ | ⟨A, y, a, B, rfl, rfl, hu⟩
  · rcases h2 with ⟨_, hu2⟩ | ⟨A, y, a, B, rfl, rfl, _⟩
    · simp [kInt] at hu hu2; omega
    · rw [isAt_split] at hn; cases hn
  · rcases h2 with ⟨hn, _⟩ | ⟨A', y', a', B', he, hy, hu2⟩
    · rw [isAt_split] at hn; cases hn
    · obtain rfl : y = y' := by omega
      obtain ⟨rfl, rfl, rfl⟩ := node_uniq hnd he
      simp [kInt] at hu hu2; omega
/-- What both say of the neighbours. -/
theorem near_agree {f : List (Nat × Int) → List (Nat × Int) → Int} {y y2 : Int} (h1 : isAt node (nodes l) = false → y = -1) (h1' : ∀ A x v B, l = A ++ (x, v) :: B → node = (x : Nat) → y = f A B)
    (h2 : isAt node (nodes l) = false → y2 = -1) (h2' : ∀ A x v B, l = A ++ (x, v) :: B → node = (x : Nat) → y2 = f A B) : y = y2 := by
  cases h : isAt node (nodes l) with
  | false => rw [h1 h, h2 h]
  | true =>
    obtain ⟨x, rfl, hx⟩ := isAt_some h
    obtain ⟨A, v, B, rfl⟩ := split_node hx
    rw [h1' A x v B rfl rfl, h2' A x v B rfl rfl]
end
theorem rnew_ok (k : Nat) (h : 1 ≤ k ∧ k ≤ 8192) {r : Value} {H : List Res} (hs : ((((k : Nat) : Int) < 1 ∨ 8192 < ((k : Nat) : Int)) ∧ r = .tuple #[.pointer .none, .int .i64 1] ∧ H = []) ∨
    ∃ (k' b : Nat) (r' : Res), ((k : Nat) : Int) = k' ∧ 1 ≤ k' ∧ k' ≤ 8192 ∧ r = .tuple #[.pointer (some ⟨b, 0, .none⟩), .int .i64 0] ∧ H = [r'] ∧ RefR b k' [] r') :
    ∃ (b : Nat) (r' : Res), r = .tuple #[.pointer (some ⟨b, 0, .none⟩), .int .i64 0] ∧ H = [r'] ∧ RefR b k [] r' := by
  rcases hs with ⟨h', _⟩ | ⟨k', b, r', e, _, _, h1, h2, h3⟩
  · omega
  · obtain rfl : k = k' := by omega
    exact ⟨b, r', h1, h2, h3⟩

set_option maxHeartbeats 8000000 in
theorem chainSteps_spec (z : Nat) (A : Option Addr) (c : Nat) (L : List Int) (raw : Int) (w : World) (hz : z < 256) (hx : Rd w Nil 1 (.slice A L.length c) L.length (iv L)) (hl : L.length ≤ 140737488355328) :
    Spec Try.prog 5 [.int .u8 z, .slice A L.length c, .int .i64 raw] w Nil fun r _ => r = .bool true := by
  obtain ⟨A', c', e, hxl, hxc, hxA⟩ := id hx
  injection e with e1 _ e3
  subst e1; subst e3
  refine enter (n := 239) Try.func5 rfl rfl [(0, _), (1, _), (2, _)] rfl ⟨rfl, rfl, rfl, trivial⟩ (Holds.start _ _) ?_
  refine w_seq ?_
  refine w_reg ?_
  refine wl_f (f_assign rfl) ?_
  refine wl_end [(0, _), (1, _), (2, _)] ⟨rfl, rfl, rfl, trivial⟩ ?_
  refine w_seq ?_
  refine w_reg ?_
  refine wl_f (f_move rfl) ?_
  refine wl_f (f_convi rfl Try.underlying5 Try.underlying3 (by omega)) ?_
  refine wl_f (f_rem rfl rfl (by omega)) ?_
  refine wl_f (f_eqv (v' := .int .i64 ((1 + z % 12 : Nat) : Int)) (f_add rfl rfl (by omega)) (by congr 1)) ?_
  refine wl_e (e_call0 rfl Try.func17 (by kernel_rfl) (fun w hh => inew_spec ((1 + z % 12 : Nat) : Int) w)) ?_
  rintro u _ w1 ⟨H1, rfl, hH⟩
  obtain ⟨b, r0, rfl, rfl, hr0⟩ := inew_ok (1 + z % 12) (by omega) hH
  clear hH
  refine wl_f (f_move rfl) ?_
  refine wl_f (f_extract rfl rfl) ?_
  refine wl_f (f_extract rfl rfl) ?_
  refine wl_f (f_assign rfl) ?_
  refine wl_f (f_assign rfl) ?_
  refine wl_end [(0, _), (1, _), (2, _), (7, _), (8, _)] ⟨rfl, rfl, rfl, rfl, rfl, trivial⟩ ?_
  refine w_seq ?_
  refine w_reg ?_
  refine wl_f (f_move rfl) ?_
  refine wl_f (f_convi rfl Try.underlying5 Try.underlying3 (by omega)) ?_
  refine wl_f (f_rem rfl rfl (by omega)) ?_
  refine wl_f (f_eqv (v' := .int .i64 ((1 + z % 12 : Nat) : Int)) (f_add rfl rfl (by omega)) (by congr 1)) ?_
  refine wl_e (e_call0 rfl Try.func18 (by kernel_rfl) (fun w hh => rnew_spec ((1 + z % 12 : Nat) : Int) w)) ?_
  rintro u _ w1 ⟨H1, rfl, hH⟩
  obtain ⟨q, rr0, rfl, rfl, hrr0⟩ := rnew_ok (1 + z % 12) (by omega) hH
  clear hH
  have hn : 1 + z % 12 ≤ 8192 := by omega
  generalize 1 + z % 12 = n at hr0 hrr0 hn
  refine wl_f (f_move rfl) ?_
  refine wl_f (f_extract rfl rfl) ?_
  refine wl_f (f_extract rfl rfl) ?_
  refine wl_f (f_assign rfl) ?_
  refine wl_f (f_assign rfl) ?_
  refine wl_pick [1, 0] rfl ?_
  refine wl_end [(1, _), (2, _), (7, _), (8, _), (9, _), (10, _)] ⟨rfl, rfl, rfl, rfl, rfl, rfl, trivial⟩ ?_
  refine w_seq ?_
  refine w_seq ?_
  refine w_reg ?_
  refine wl_f (f_move rfl) ?_
  refine wl_f (f_neq rfl rfl) ?_
  refine wl_f (f_move rfl) ?_
  refine wl_or (j := 2) (c := false) 2 [(1, _), (2, _), (7, _), (9, _)] ⟨rfl, rfl, rfl, rfl, trivial⟩ rfl rfl rfl rfl rfl (fun hg3_5 => ?_) (fun w3_5 => ?_)
  · skip
    refine wl_gf rfl rfl (f_move rfl) ?_
    refine wl_gf rfl rfl (f_neq rfl rfl) ?_
    exact wl_pend rfl rfl ⟨rfl, rfl, rfl, rfl, trivial⟩ (List.Sublist.refl _)
  refine wl_f (f_move rfl) ?_
  refine wl_or (j := 6) (c := false) 2 [(1, _), (2, _), (7, _), (9, _)] ⟨rfl, rfl, rfl, rfl, trivial⟩ rfl rfl rfl rfl rfl (fun hg3_9 => ?_) (fun w3_9 => ?_)
  · skip
    refine wl_gf rfl rfl (f_move rfl) ?_
    refine wl_gf rfl rfl (f_eqlnil rfl rfl Try.underlying34) ?_
    exact wl_pend rfl rfl ⟨rfl, rfl, rfl, rfl, trivial⟩ (List.Sublist.refl _)
  refine wl_end [(1, _), (2, _), (7, _), (9, _), (44, _)] ⟨rfl, rfl, rfl, rfl, rfl, trivial⟩ ?_
  refine w_iff rfl ?_
  refine w_skip ?_
  refine w_seq ?_
  refine w_seq ?_
  refine w_reg ?_
  refine wl_f (f_assign rfl) ?_
  refine wl_end [(1, _), (2, _), (7, _), (9, _), (11, _)] ⟨rfl, rfl, rfl, rfl, rfl, trivial⟩ ?_
  refine w_block ?_
  refine w_loop (fun k m H w' => ∃ (i : Nat) (l : List (Nat × Int)) (r rr : Res), m = [(1, .slice A L.length c), (2, .int .i64 raw), (7, .pointer (some ⟨b, 0, .none⟩)), (9, .pointer (some ⟨q, 0, .none⟩)), (11, .int .i64 i)] ∧ H = [r, rr] ∧ ChR kInt b n l r ∧ RefR q n l rr ∧ k + i = 60 ∧ i ≤ L.length) 60
    ⟨0, [], r0, rr0, rfl, rfl, hr0, hrr0, rfl, Nat.zero_le _⟩ ?_
  rintro k _ _ w2 ⟨i, l, r, rr, rfl, rfl, hr, hrr, hk, hiL⟩
  refine w_seq ?_
  refine w_seq ?_
  refine w_reg ?_
  refine wl_f (f_move rfl) ?_
  refine wl_f (f_move rfl) ?_
  refine wl_f (f_len rfl Try.underlying33) ?_
  refine wl_f (f_lss rfl rfl) ?_
  refine wl_f (f_move rfl) ?_
  refine wl_and (j := 4) (c := decide ((i : Int) < 60)) 2 [(1, _), (2, _), (7, _), (9, _), (11, _)] ⟨rfl, rfl, rfl, rfl, rfl, trivial⟩ rfl rfl rfl rfl rfl (fun hg6_7 => ?_) (fun w6_7 => ?_)
  · skip
    refine wl_gf rfl rfl (f_move rfl) ?_
    refine wl_gf rfl rfl (f_lss rfl rfl) ?_
    exact wl_pend rfl rfl ⟨rfl, rfl, rfl, rfl, rfl, trivial⟩ (List.Sublist.refl _)
  refine wl_end [(1, _), (2, _), (7, _), (9, _), (11, _), (52, _)] ⟨rfl, rfl, rfl, rfl, rfl, rfl, trivial⟩ ?_
  refine w_ifb rfl (fun hc2 => ?_) (fun hc2 => ?_)
  · skip
    simp only [Bool.and_eq_true, decide_eq_true_eq] at hc2
    have hi : i < L.length := by omega
    obtain ⟨s, hsi⟩ : ∃ s, L[i]? = some s := ⟨_, List.getElem?_eq_getElem hi⟩
    obtain ⟨b2, off, rfl, _, _, hcell⟩ := hxA.resolve_left (by omega)
    have hnd := hr.nd
    have hll := hr.len
    obtain ⟨NV, VV, rfl⟩ := id hrr
    refine w_with fun hh => ?_
    obtain ⟨N, cn, rfl⟩ := rowB_slice hh (i := 1) (j := 1) rfl rfl
    obtain ⟨V, cv, rfl⟩ := rowB_slice hh (i := 1) (j := 2) rfl rfl
    clear hh
    refine w_skip ?_
    refine w_seq ?_
    refine w_block ?_
    refine w_seq ?_
    refine w_reg ?_
    refine wl_f (f_move rfl) ?_
    refine wl_f (f_move rfl) ?_
    refine wl_f (f_indexAddr 1 (i := i) rfl rfl Try.underlying33 (by kernel_rfl) rfl hi) ?_
    refine wl_f (f_loado (v := .int .i64 s) rfl Try.underlying3 rfl (hcell _ _ (by simp [iv, hsi])) id) ?_
    refine wl_f (f_assign rfl) ?_
    refine wl_end [(1, _), (2, _), (7, _), (9, _), (11, _), (12, _)] ⟨rfl, rfl, rfl, rfl, rfl, rfl, trivial⟩ ?_
    refine w_seq ?_
    refine w_reg ?_
    refine wl_f (f_move rfl) ?_
    refine wl_f (f_shr rfl rfl (by omega) rfl) ?_
    refine wl_f (f_and rfl rfl rfl) ?_
    refine wl_f (f_assign rfl) ?_
    refine wl_end [(1, _), (2, _), (7, _), (9, _), (11, _), (12, _), (13, _)] ⟨rfl, rfl, rfl, rfl, rfl, rfl, rfl, trivial⟩ ?_
    refine w_seq ?_
    refine w_seq ?_
    refine w_reg ?_
    refine wl_f (f_move rfl) ?_
    refine wl_f (f_shr rfl rfl (by omega) rfl) ?_
    refine wl_f (f_and rfl rfl rfl) ?_
    refine wl_f (f_eql rfl rfl) ?_
    refine wl_end [(1, _), (2, _), (7, _), (9, _), (11, _), (12, _), (13, _), (65, _)] ⟨rfl, rfl, rfl, rfl, rfl, rfl, rfl, rfl, trivial⟩ ?_
    refine w_post (fun m H w' => ∃ node : Int, m = [(1, .slice (some ⟨b2, off, .none⟩) L.length c), (2, .int .i64 raw), (7, .pointer (some ⟨b, 0, .none⟩)), (9, .pointer (some ⟨q, 0, .none⟩)), (11, .int .i64 i), (12, .int .i64 s), (13, .int .i64 node)] ∧ H = [r, bun (rls q n l (.slice N l.length cn) (.slice V l.length cv))]) ?_ ?_
    · skip
      refine w_ifd rfl (fun hc3 => ?_) (fun hc3 => ?_)
      · skip
        refine w_reg ?_
        refine wl_f (f_move rfl) ?_
        refine wl_f (f_assign rfl) ?_
        refine wl_end [(1, _), (2, _), (7, _), (9, _), (11, _), (12, _), (13, _)] ⟨rfl, rfl, rfl, rfl, rfl, rfl, rfl, trivial⟩ ?_
        exact ⟨_, rfl, rfl⟩
      · skip
        refine w_sub [(1, _), (2, _), (7, _), (9, _), (11, _), (12, _), (13, _)] ⟨rfl, rfl, rfl, rfl, rfl, rfl, rfl, trivial⟩ (w_skip ?_)
        exact ⟨_, rfl, rfl⟩
    · rintro _ _ w5 ⟨node, rfl, rfl⟩
      refine w_seq ?_
      refine w_reg ?_
      refine wl_f (f_assign rfl) ?_
      refine wl_f (f_assign rfl) ?_
      refine wl_end [(1, _), (2, _), (7, _), (9, _), (11, _), (12, _), (13, _)] ⟨rfl, rfl, rfl, rfl, rfl, rfl, rfl, trivial⟩ ?_
      refine w_seq ?_
      refine w_reg ?_
      refine wl_f (f_assign rfl) ?_
      refine wl_f (f_assign rfl) ?_
      refine wl_end [(1, _), (2, _), (7, _), (9, _), (11, _), (12, _), (13, _)] ⟨rfl, rfl, rfl, rfl, rfl, rfl, rfl, trivial⟩ ?_
      refine w_seq ?_
      refine w_seq ?_
      refine w_reg ?_
      refine wl_f (f_move rfl) ?_
      refine wl_f (f_and rfl rfl rfl) ?_
      generalize bits .and .i64 s 7 = s7
      refine wl_end [(1, _), (2, _), (7, _), (9, _), (11, _), (12, _), (13, _), (68, _)] ⟨rfl, rfl, rfl, rfl, rfl, rfl, rfl, rfl, trivial⟩ ?_
      refine w_post (fun m H w' => ∃ (l' : List (Nat × Int)) (r1 r2 : Res) (x e : Int), m = [(1, .slice (some ⟨b2, off, .none⟩) L.length c), (2, .int .i64 raw), (7, .pointer (some ⟨b, 0, .none⟩)), (9, .pointer (some ⟨q, 0, .none⟩)), (11, .int .i64 i), (13, .int .i64 node), (14, .int .i64 x), (15, .int .i64 x), (16, .int .i64 e), (17, .int .i64 e)] ∧ H = [r1, r2] ∧ ChR kInt b n l' r1 ∧ RefR q n l' r2) ?_ ?_
      · skip
        refine w_block ?_
        refine w_seq ?_
        refine w_seq ?_
        refine w_reg ?_
        refine wl_f (f_eql rfl rfl) ?_
        refine wl_f (f_assign rfl) ?_
        refine wl_end [(1, _), (2, _), (7, _), (9, _), (11, _), (12, _), (13, _), (68, _), (81, _)] ⟨rfl, rfl, rfl, rfl, rfl, rfl, rfl, rfl, rfl, trivial⟩ ?_
        refine w_post (fun m H w' => ∃ bb : Bool, m = [(1, .slice (some ⟨b2, off, .none⟩) L.length c), (2, .int .i64 raw), (7, .pointer (some ⟨b, 0, .none⟩)), (9, .pointer (some ⟨q, 0, .none⟩)), (11, .int .i64 i), (12, .int .i64 s), (13, .int .i64 node), (68, .int .i64 s7), (81, .bool bb)] ∧ H = [r, bun (rls q n l (.slice N l.length cn) (.slice V l.length cv))]) ?_ ?_
        · skip
          refine w_ifd rfl (fun hc4 => ?_) (fun hc4 => ?_)
          · skip
            refine w_sub [(1, _), (2, _), (7, _), (9, _), (11, _), (12, _), (13, _), (68, _), (81, _)] ⟨rfl, rfl, rfl, rfl, rfl, rfl, rfl, rfl, rfl, trivial⟩ (w_skip ?_)
            exact ⟨_, rfl, rfl⟩
          · skip
            refine w_reg ?_
            refine wl_f (f_eql rfl rfl) ?_
            refine wl_f (f_assign rfl) ?_
            refine wl_end [(1, _), (2, _), (7, _), (9, _), (11, _), (12, _), (13, _), (68, _), (81, _)] ⟨rfl, rfl, rfl, rfl, rfl, rfl, rfl, rfl, rfl, trivial⟩ ?_
            exact ⟨_, rfl, rfl⟩
        · rintro _ _ w6 ⟨bb, rfl, rfl⟩
          refine w_ifb rfl (fun hc5 => ?_) (fun hc5 => ?_)
          · skip
            refine w_seq ?_
            refine w_reg ?_
            refine wl_f (f_move rfl) ?_
            refine wl_f (f_move rfl) ?_
            refine wl_e (e_call1 r [_] rfl Try.func28 (by kernel_rfl) (List.Perm.refl _) (fun w hh hs => ipushBack_spec b n l s r w hn hr hs)) ?_
            rintro u _ w3 ⟨H1, rfl, hH⟩
            obtain ⟨x, e, r1, rfl, rfl⟩ := hH.form
            refine wl_f (f_move rfl) ?_
            refine wl_f (f_extract rfl rfl) ?_
            refine wl_f (f_extract rfl rfl) ?_
            refine wl_f (f_assign rfl) ?_
            refine wl_f (f_assign rfl) ?_
            refine wl_end [(1, _), (2, _), (7, _), (9, _), (11, _), (12, _), (13, _), (14, _), (16, _)] ⟨rfl, rfl, rfl, rfl, rfl, rfl, rfl, rfl, rfl, trivial⟩ ?_
            refine w_reg ?_
            refine wl_f (f_move rfl) ?_
            refine wl_f (f_move rfl) ?_
            refine wl_f (f_nilCheck rfl) ?_
            refine wl_f (f_fieldAddr 1 rfl Try.underlying50 rfl rfl (by kernel_rfl)) ?_
            refine wl_f (f_loadB 1 0 rfl rfl rfl Try.underlying33 rfl rfl) ?_
            refine wl_f (f_len rfl Try.underlying33) ?_
            refine wl_f (f_move rfl) ?_
            refine wl_e (e_call1 (bun (rls q n l (.slice N l.length cn) (.slice V l.length cv))) [r1] rfl Try.func29 (by kernel_rfl) (List.Perm.swap ..) (fun w hh hs => rinsert_spec q n l [] s _ w hn (by simpa using hll) (by simpa using hnd) (by simpa using hrr) hs)) ?_
            rintro u _ w4 ⟨H2, rfl, hH2⟩
            obtain ⟨x2, e2, r2, rfl, rfl⟩ := hH2.form
            obtain ⟨l', rfl, rfl, h1, h2⟩ := hH.agree hH2 (by simpa using hr) (by simpa using hrr)
            refine wl_f (f_move rfl) ?_
            refine wl_f (f_extract rfl rfl) ?_
            refine wl_f (f_extract rfl rfl) ?_
            refine wl_f (f_assign rfl) ?_
            refine wl_f (f_assign rfl) ?_
            refine wl_pick [1, 0] rfl ?_
            refine wl_end [(1, _), (2, _), (7, _), (9, _), (11, _), (13, _), (14, _), (15, _), (16, _), (17, _)] ⟨rfl, rfl, rfl, rfl, rfl, rfl, rfl, rfl, rfl, rfl, trivial⟩ ?_
            exact ⟨_, _, _, _, _, rfl, rfl, h1, h2⟩
          · skip
            refine w_seq ?_
            refine w_reg ?_
            refine wl_f (f_eql rfl rfl) ?_
            refine wl_f (f_assign rfl) ?_
            refine wl_end [(1, _), (2, _), (7, _), (9, _), (11, _), (12, _), (13, _), (68, _), (101, _)] ⟨rfl, rfl, rfl, rfl, rfl, rfl, rfl, rfl, rfl, trivial⟩ ?_
            refine w_ifd rfl (fun hc6 => ?_) (fun hc6 => ?_)
            · skip
              refine w_seq ?_
              refine w_reg ?_
              refine wl_f (f_move rfl) ?_
              refine wl_f (f_move rfl) ?_
              refine wl_e (e_call1 r [_] rfl Try.func30 (by kernel_rfl) (List.Perm.refl _) (fun w hh hs => ipushFront_spec b n l s r w hn hr hs)) ?_
              rintro u _ w3 ⟨H1, rfl, hH⟩
              obtain ⟨x, e, r1, rfl, rfl⟩ := hH.form
              refine wl_f (f_move rfl) ?_
              refine wl_f (f_extract rfl rfl) ?_
              refine wl_f (f_extract rfl rfl) ?_
              refine wl_f (f_assign rfl) ?_
              refine wl_f (f_assign rfl) ?_
              refine wl_end [(1, _), (2, _), (7, _), (9, _), (11, _), (12, _), (13, _), (14, _), (16, _)] ⟨rfl, rfl, rfl, rfl, rfl, rfl, rfl, rfl, rfl, trivial⟩ ?_
              refine w_reg ?_
              refine wl_f (f_move rfl) ?_
              refine wl_f (f_move rfl) ?_
              refine wl_e (e_call1 (bun (rls q n l (.slice N l.length cn) (.slice V l.length cv))) [r1] rfl Try.func29 (by kernel_rfl) (List.Perm.swap ..) (fun w hh hs => rinsert_spec q n [] l s _ w hn hll hnd hrr hs)) ?_
              rintro u _ w4 ⟨H2, rfl, hH2⟩
              obtain ⟨x2, e2, r2, rfl, rfl⟩ := hH2.form
              obtain ⟨l', rfl, rfl, h1, h2⟩ := hH.agree hH2 hr hrr
              refine wl_f (f_move rfl) ?_
              refine wl_f (f_extract rfl rfl) ?_
              refine wl_f (f_extract rfl rfl) ?_
              refine wl_f (f_assign rfl) ?_
              refine wl_f (f_assign rfl) ?_
              refine wl_pick [1, 0] rfl ?_
              refine wl_end [(1, _), (2, _), (7, _), (9, _), (11, _), (13, _), (14, _), (15, _), (16, _), (17, _)] ⟨rfl, rfl, rfl, rfl, rfl, rfl, rfl, rfl, rfl, rfl, trivial⟩ ?_
              exact ⟨_, _, _, _, _, rfl, rfl, h1, h2⟩
            · skip
              refine w_seq ?_
              refine w_seq ?_
              refine w_reg ?_
              refine wl_f (f_eql rfl rfl) ?_
              refine wl_f (f_assign rfl) ?_
              refine wl_end [(1, _), (2, _), (7, _), (9, _), (11, _), (12, _), (13, _), (68, _), (115, _)] ⟨rfl, rfl, rfl, rfl, rfl, rfl, rfl, rfl, rfl, trivial⟩ ?_
              refine w_post (fun m H w' => ∃ bb : Bool, m = [(1, .slice (some ⟨b2, off, .none⟩) L.length c), (2, .int .i64 raw), (7, .pointer (some ⟨b, 0, .none⟩)), (9, .pointer (some ⟨q, 0, .none⟩)), (11, .int .i64 i), (12, .int .i64 s), (13, .int .i64 node), (68, .int .i64 s7), (115, .bool bb)] ∧ H = [r, bun (rls q n l (.slice N l.length cn) (.slice V l.length cv))]) ?_ ?_
              · skip
                refine w_ifd rfl (fun hc7 => ?_) (fun hc7 => ?_)
                · skip
                  refine w_sub [(1, _), (2, _), (7, _), (9, _), (11, _), (12, _), (13, _), (68, _), (115, _)] ⟨rfl, rfl, rfl, rfl, rfl, rfl, rfl, rfl, rfl, trivial⟩ (w_skip ?_)
                  exact ⟨_, rfl, rfl⟩
                · skip
                  refine w_reg ?_
                  refine wl_f (f_eql rfl rfl) ?_
                  refine wl_f (f_assign rfl) ?_
                  refine wl_end [(1, _), (2, _), (7, _), (9, _), (11, _), (12, _), (13, _), (68, _), (115, _)] ⟨rfl, rfl, rfl, rfl, rfl, rfl, rfl, rfl, rfl, trivial⟩ ?_
                  exact ⟨_, rfl, rfl⟩
              · rintro _ _ w7 ⟨bb2, rfl, rfl⟩
                refine w_ifb rfl (fun hc8 => ?_) (fun hc8 => ?_)
                · skip
                  refine w_seq ?_
                  refine w_reg ?_
                  refine wl_f (f_move rfl) ?_
                  refine wl_f (f_move rfl) ?_
                  refine wl_f (f_move rfl) ?_
                  refine wl_e (e_call1 r [_] rfl Try.func31 (by kernel_rfl) (List.Perm.refl _) (fun w hh hs => iInsertAfter_spec b n l node s r w hn hr hs)) ?_
                  rintro u _ w3 ⟨H1, rfl, hH⟩
                  obtain ⟨x, e, r1, rfl, rfl⟩ := hH.form
                  refine wl_f (f_move rfl) ?_
                  refine wl_f (f_extract rfl rfl) ?_
                  refine wl_f (f_extract rfl rfl) ?_
                  refine wl_f (f_assign rfl) ?_
                  refine wl_f (f_assign rfl) ?_
                  refine wl_end [(1, _), (2, _), (7, _), (9, _), (11, _), (12, _), (13, _), (14, _), (16, _)] ⟨rfl, rfl, rfl, rfl, rfl, rfl, rfl, rfl, rfl, trivial⟩ ?_
                  refine w_reg ?_
                  refine wl_f (f_move rfl) ?_
                  refine wl_f (f_move rfl) ?_
                  refine wl_f (f_move rfl) ?_
                  refine wl_e (e_call1 (bun (rls q n l (.slice N l.length cn) (.slice V l.length cv))) [r1] rfl Try.func32 (by kernel_rfl) (List.Perm.swap ..) (fun w hh hs => rinsertAfter_spec q n l node s _ w hn hll hnd hrr hs)) ?_
                  rintro u _ w4 ⟨H2, rfl, hH2⟩
                  obtain ⟨x2, e2, r2, rfl, rfl⟩ := hH2.form
                  obtain ⟨l', rfl, rfl, h1, h2⟩ := hH.agree hnd hH2 hr hrr
                  refine wl_f (f_move rfl) ?_
                  refine wl_f (f_extract rfl rfl) ?_
                  refine wl_f (f_extract rfl rfl) ?_
                  refine wl_f (f_assign rfl) ?_
                  refine wl_f (f_assign rfl) ?_
                  refine wl_pick [1, 0] rfl ?_
                  refine wl_end [(1, _), (2, _), (7, _), (9, _), (11, _), (13, _), (14, _), (15, _), (16, _), (17, _)] ⟨rfl, rfl, rfl, rfl, rfl, rfl, rfl, rfl, rfl, rfl, trivial⟩ ?_
                  exact ⟨_, _, _, _, _, rfl, rfl, h1, h2⟩
                · skip
                  refine w_seq ?_
                  refine w_seq ?_
                  refine w_reg ?_
                  refine wl_f (f_eql rfl rfl) ?_
                  refine wl_f (f_assign rfl) ?_
                  refine wl_end [(1, _), (2, _), (7, _), (9, _), (11, _), (13, _), (68, _), (132, _)] ⟨rfl, rfl, rfl, rfl, rfl, rfl, rfl, rfl, trivial⟩ ?_
                  refine w_post (fun m H w' => ∃ bb : Bool, m = [(1, .slice (some ⟨b2, off, .none⟩) L.length c), (2, .int .i64 raw), (7, .pointer (some ⟨b, 0, .none⟩)), (9, .pointer (some ⟨q, 0, .none⟩)), (11, .int .i64 i), (13, .int .i64 node), (132, .bool bb)] ∧ H = [r, bun (rls q n l (.slice N l.length cn) (.slice V l.length cv))]) ?_ ?_
                  · skip
                    refine w_ifd rfl (fun hc9 => ?_) (fun hc9 => ?_)
                    · skip
                      refine w_sub [(1, _), (2, _), (7, _), (9, _), (11, _), (13, _), (132, _)] ⟨rfl, rfl, rfl, rfl, rfl, rfl, rfl, trivial⟩ (w_skip ?_)
                      exact ⟨_, rfl, rfl⟩
                    · skip
                      refine w_reg ?_
                      refine wl_f (f_eql rfl rfl) ?_
                      refine wl_f (f_assign rfl) ?_
                      refine wl_end [(1, _), (2, _), (7, _), (9, _), (11, _), (13, _), (132, _)] ⟨rfl, rfl, rfl, rfl, rfl, rfl, rfl, trivial⟩ ?_
                      exact ⟨_, rfl, rfl⟩
                  · rintro _ _ w8 ⟨bb3, rfl, rfl⟩
                    refine w_ifb rfl (fun hc10 => ?_) (fun hc10 => ?_)
                    · skip
                      refine w_seq ?_
                      refine w_reg ?_
                      refine wl_f (f_move rfl) ?_
                      refine wl_f (f_move rfl) ?_
                      refine wl_e (e_call1 r [_] rfl Try.func33 (by kernel_rfl) (List.Perm.refl _) (fun w hh hs => iRemove_spec b n l node r w hn hr hs)) ?_
                      rintro u _ w3 ⟨H1, rfl, hH⟩
                      obtain ⟨x, e, r1, rfl, rfl⟩ := hH.form
                      refine wl_f (f_move rfl) ?_
                      refine wl_f (f_extract rfl rfl) ?_
                      refine wl_f (f_extract rfl rfl) ?_
                      refine wl_f (f_assign rfl) ?_
                      refine wl_f (f_assign rfl) ?_
                      refine wl_end [(1, _), (2, _), (7, _), (9, _), (11, _), (13, _), (14, _), (16, _)] ⟨rfl, rfl, rfl, rfl, rfl, rfl, rfl, rfl, trivial⟩ ?_
                      refine w_reg ?_
                      refine wl_f (f_move rfl) ?_
                      refine wl_f (f_move rfl) ?_
                      refine wl_e (e_call1 (bun (rls q n l (.slice N l.length cn) (.slice V l.length cv))) [r1] rfl Try.func34 (by kernel_rfl) (List.Perm.swap ..) (fun w hh hs => rremove_spec q n l node _ w hn hll hrr hs)) ?_
                      rintro u _ w4 ⟨H2, rfl, hH2⟩
                      obtain ⟨x2, e2, r2, rfl, rfl⟩ := hH2.form
                      obtain ⟨l', rfl, rfl, h1, h2⟩ := hH.agree hnd hH2 hr hrr
                      refine wl_f (f_move rfl) ?_
                      refine wl_f (f_extract rfl rfl) ?_
                      refine wl_f (f_extract rfl rfl) ?_
                      refine wl_f (f_assign rfl) ?_
                      refine wl_f (f_assign rfl) ?_
                      refine wl_pick [1, 0] rfl ?_
                      refine wl_end [(1, _), (2, _), (7, _), (9, _), (11, _), (13, _), (14, _), (15, _), (16, _), (17, _)] ⟨rfl, rfl, rfl, rfl, rfl, rfl, rfl, rfl, rfl, rfl, trivial⟩ ?_
                      exact ⟨_, _, _, _, _, rfl, rfl, h1, h2⟩
                    · skip
                      refine w_seq ?_
                      refine w_reg ?_
                      refine wl_f (f_move rfl) ?_
                      refine wl_f (f_move rfl) ?_
                      refine wl_e (e_call1 r [_] rfl Try.func35 (by kernel_rfl) (List.Perm.refl _) (fun w hh hs => iValue_spec b n l node r w hr hs)) ?_
                      rintro u _ w3 ⟨_, rfl, rfl, hV1⟩
                      obtain ⟨x, e, rfl⟩ := hV1.form
                      refine wl_f (f_move rfl) ?_
                      refine wl_f (f_extract rfl rfl) ?_
                      refine wl_f (f_extract rfl rfl) ?_
                      refine wl_f (f_assign rfl) ?_
                      refine wl_f (f_assign rfl) ?_
                      refine wl_end [(1, _), (2, _), (7, _), (9, _), (11, _), (13, _), (14, _), (16, _)] ⟨rfl, rfl, rfl, rfl, rfl, rfl, rfl, rfl, trivial⟩ ?_
                      refine w_reg ?_
                      refine wl_f (f_move rfl) ?_
                      refine wl_f (f_move rfl) ?_
                      refine wl_e (e_call1 (bun (rls q n l (.slice N l.length cn) (.slice V l.length cv))) [r] rfl Try.func36 (by kernel_rfl) (List.Perm.swap ..) (fun w hh hs => rvalue_spec q n l node _ w hn hll hrr hs)) ?_
                      rintro u _ w4 ⟨_, rfl, rfl, hV2⟩
                      obtain ⟨x2, e2, rfl⟩ := hV2.form
                      obtain ⟨rfl, rfl⟩ := ValAt.agree hnd hV1 hV2
                      have h1 := hr
                      have h2 := hrr
                      refine wl_f (f_move rfl) ?_
                      refine wl_f (f_extract rfl rfl) ?_
                      refine wl_f (f_extract rfl rfl) ?_
                      refine wl_f (f_assign rfl) ?_
                      refine wl_f (f_assign rfl) ?_
                      refine wl_pick [1, 0] rfl ?_
                      refine wl_end [(1, _), (2, _), (7, _), (9, _), (11, _), (13, _), (14, _), (15, _), (16, _), (17, _)] ⟨rfl, rfl, rfl, rfl, rfl, rfl, rfl, rfl, rfl, rfl, trivial⟩ ?_
                      exact ⟨_, _, _, _, _, rfl, rfl, h1, h2⟩
      · rintro _ _ w9 ⟨l', r1, r2, x, e, rfl, rfl, hr1, hr2⟩
        clear hrr hr hnd hll
        have hnd := hr1.nd
        have hll := hr1.len
        obtain ⟨NV, VV, rfl⟩ := id hr2
        refine w_with fun hh => ?_
        obtain ⟨N', cn', rfl⟩ := rowB_slice hh (i := 1) (j := 1) rfl rfl
        obtain ⟨V', cv', rfl⟩ := rowB_slice hh (i := 1) (j := 2) rfl rfl
        clear hh
        refine w_seq ?_
        refine w_seq ?_
        refine w_draw [(0, true), (1, true), (2, true), (3, true), (4, true), (5, true), (6, true), (7, true), (8, true), (9, true), (11, true), (12, true), (13, true), (14, true), (10, false), (15, false), (16, true), (17, true), (18, true), (19, true), (21, true), (22, true), (23, true), (24, true), (25, true), (20, false), (26, true), (27, true), (28, true), (29, true), (30, true), (32, true), (33, true), (31, false), (34, false), (35, true), (36, true), (37, true), (38, true), (39, true), (41, true), (42, true), (40, false), (43, false), (44, true), (45, true)] ([_]) ([_]) mixed (by kernel_rfl) (by kernel_rfl) rfl (List.Perm.swap ..) (fun w32_ => ?_)
        refine wd_f rfl (f_move rfl) ?_
        refine wd_f rfl (f_move rfl) ?_
        refine wd_f rfl (f_eqv (v' := .bool false) (f_neq rfl rfl) (congrArg Value.bool (decide_eq_false (by simp)))) ?_
        refine wd_f rfl (f_move rfl) ?_
        refine wd_gf rfl rfl rfl (f_move rfl) ?_
        refine wd_gf rfl rfl rfl (f_move rfl) ?_
        refine wd_gf rfl rfl rfl (f_eqv (v' := .bool false) (f_neq rfl rfl) (congrArg Value.bool (decide_eq_false (by simp)))) ?_
        refine wd_f rfl (f_pick0 rfl rfl) ?_
        refine wd_f rfl (f_move rfl) ?_
        refine wd_gf rfl rfl rfl (f_move rfl) ?_
        refine wd_gf rfl rfl rfl (f_move rfl) ?_
        refine wd_gf rfl rfl rfl (f_nilCheck rfl) ?_
        refine wd_gf rfl rfl rfl (f_fieldAddr 2 rfl Try.underlying50 rfl rfl (by kernel_rfl)) ?_
        refine wd_gf rfl rfl rfl (f_loadB 0 0 rfl rfl rfl Try.underlying33 rfl rfl) ?_
        refine wd_ge rfl rfl rfl (e_call1 r1 [_] rfl Try.func38 (by kernel_rfl) (List.Perm.swap ..) (fun w hh hs => ivalues_spec b n l' r1 w hn hr1 hs)) ?_
        rintro V1 _ w10 ⟨H1, rfl, rfl⟩
        rw [vcells_int]
        refine ⟨_, pk1 2 rfl, ?_⟩
        refine wd_ge rfl rfl rfl (e_call0 rfl Try.func37 (by kernel_rfl) (fun w hh => sameInts_spec _ _ (l'.map Prod.snd) (l'.map Prod.snd) w (by have h := Rd.held0 hh (i := 1) rfl; rwa [List.length_map]) (by have h := Rd.heldB hh (i := 0) (j := 2) rfl rfl; rwa [List.length_map]) (by rw [List.length_map]; omega) (by rw [List.length_map]; omega))) ?_
        rintro _ _ w11 ⟨_, rfl, rfl, rfl⟩
        refine ⟨_, List.Perm.refl _, ?_⟩
        refine wd_gf rfl rfl rfl (f_eqv (v' := .bool false) (f_not rfl rfl) (by simp)) ?_
        refine wd_f rfl (f_pick0 rfl rfl) ?_
        refine wd_f rfl (f_move rfl) ?_
        refine wd_gf rfl rfl rfl (f_move rfl) ?_
        refine wd_gf rfl rfl rfl (f_move rfl) ?_
        refine wd_gf rfl rfl rfl (f_nilCheck rfl) ?_
        refine wd_gf rfl rfl rfl (f_fieldAddr 2 rfl Try.underlying50 rfl rfl (by kernel_rfl)) ?_
        refine wd_gf rfl rfl rfl (f_loadB 0 0 rfl rfl rfl Try.underlying33 rfl rfl) ?_
        refine wd_gf rfl rfl rfl (f_len rfl Try.underlying33) ?_
        refine wd_ge rfl rfl rfl (e_call1 r1 [_, _] rfl Try.func39 (by kernel_rfl) (pk1 2 rfl) (fun w hh hs => ilen_spec b n l' r1 w hr1 hs)) ?_
        rintro _ _ w12 ⟨_, rfl, rfl, rfl⟩
        refine ⟨_, pk1 1 rfl, ?_⟩
        refine wd_gf rfl rfl rfl (f_eqv (v' := .bool false) (f_neq rfl rfl) (congrArg Value.bool (decide_eq_false (by simp)))) ?_
        refine wd_f rfl (f_pick0 rfl rfl) ?_
        refine wd_f rfl (f_move rfl) ?_
        refine wd_gf rfl rfl rfl (f_move rfl) ?_
        refine wd_gf rfl rfl rfl (f_move rfl) ?_
        refine wd_gf rfl rfl rfl (f_move rfl) ?_
        refine wd_gf rfl rfl rfl (f_move rfl) ?_
        refine wd_ge rfl rfl rfl (e_call1 r1 [_, _] rfl Try.func40 (by kernel_rfl) (pk1 1 rfl) (fun w hh hs => inext_spec b n l' r1 node w hr1 hs)) ?_
        rintro _ _ w13 ⟨_, rfl, rfl, y1, rfl, hy1, hy1'⟩
        refine ⟨_, pk1 1 rfl, ?_⟩
        refine wd_ge rfl rfl rfl (e_call1 (bun (rls q n l' (.slice N' l'.length cn') (.slice V' l'.length cv'))) [_, _] rfl Try.func41 (by kernel_rfl) (List.Perm.refl _) (fun w hh hs => rby_spec q n l' node 1 _ w hn hll hnd (.inl rfl) hr2 hs)) ?_
        rintro _ _ w14 ⟨_, rfl, rfl, y2, rfl, hy2, hy2'⟩
        obtain rfl := near_agree (f := fun A B => hdE (-1) (nodes B)) hy1 hy1' hy2 hy2'
        refine ⟨_, List.Perm.refl _, ?_⟩
        refine wd_gf rfl rfl rfl (f_eqv (v' := .bool false) (f_neq rfl rfl) (congrArg Value.bool (decide_eq_false (by simp)))) ?_
        refine wd_f rfl (f_pick0 rfl rfl) ?_
        refine wd_f rfl (f_move rfl) ?_
        refine wd_gf rfl rfl rfl (f_move rfl) ?_
        refine wd_gf rfl rfl rfl (f_move rfl) ?_
        refine wd_gf rfl rfl rfl (f_move rfl) ?_
        refine wd_gf rfl rfl rfl (f_move rfl) ?_
        refine wd_ge rfl rfl rfl (e_call1 r1 [_, _] rfl Try.func42 (by kernel_rfl) (pk1 1 rfl) (fun w hh hs => iprev_spec b n l' r1 node w hr1 hs)) ?_
        rintro _ _ w15 ⟨_, rfl, rfl, y3, rfl, hy3, hy3'⟩
        refine ⟨_, pk1 1 rfl, ?_⟩
        refine wd_ge rfl rfl rfl (e_call1 (bun (rls q n l' (.slice N' l'.length cn') (.slice V' l'.length cv'))) [_, _] rfl Try.func41 (by kernel_rfl) (List.Perm.refl _) (fun w hh hs => rby_spec q n l' node (-1) _ w hn hll hnd (.inr rfl) hr2 hs)) ?_
        rintro _ _ w16 ⟨_, rfl, rfl, y4, rfl, hy4, hy4'⟩
        obtain rfl := near_agree (f := fun A B => hdE (-1) (nodes A).reverse) hy3 hy3' hy4 hy4'
        refine ⟨_, List.Perm.refl _, ?_⟩
        refine wd_gf rfl rfl rfl (f_eqv (v' := .bool false) (f_neq rfl rfl) (congrArg Value.bool (decide_eq_false (by simp)))) ?_
        refine wd_f rfl (f_pick0 rfl rfl) ?_
        refine wd_endp [(1, _), (2, _), (7, _), (9, _), (11, _), (192, _)] [1, 0] ⟨rfl, rfl, rfl, rfl, rfl, rfl, trivial⟩ rfl ?_
        refine w_iff rfl ?_
        refine w_skip ?_
        refine w_seq ?_
        refine w_reg ?_
        refine wl_f (f_move rfl) ?_
        refine wl_f (f_nilCheck rfl) ?_
        refine wl_f (f_fieldAddr 1 rfl Try.underlying50 rfl rfl (by kernel_rfl)) ?_
        refine wl_f (f_loadB 1 0 rfl rfl rfl Try.underlying33 rfl rfl) ?_
        refine wl_f (f_len rfl Try.underlying33) ?_
        refine wl_f (f_assign rfl) ?_
        refine wl_end [(1, _), (2, _), (7, _), (9, _), (11, _), (18, _)] ⟨rfl, rfl, rfl, rfl, rfl, rfl, trivial⟩ ?_
        refine w_seq ?_
        refine w_post (fun m H w' => m = [(1, .slice (some ⟨b2, off, .none⟩) L.length c), (2, .int .i64 raw), (7, .pointer (some ⟨b, 0, .none⟩)), (9, .pointer (some ⟨q, 0, .none⟩)), (11, .int .i64 i), (237, .bool false)] ∧ H = [r1, bun (rls q n l' (.slice N' l'.length cn') (.slice V' l'.length cv'))]) ?_ ?_
        · by_cases hG35 : ((l'.length : Nat) : Int) = 0
          · skip
            have hl0 : l' = [] := List.eq_nil_of_length_eq_zero (by omega)
            subst hl0
            refine w_draw [(0, true), (1, true), (2, true), (3, true), (4, false), (5, true), (6, true), (7, true), (8, false), (9, true), (10, true), (11, true), (12, true), (13, true), (14, true), (15, true), (16, true), (18, true), (19, true), (20, true), (21, true), (22, true), (23, true), (17, false), (24, true), (25, true), (26, true), (28, true), (29, true), (30, true), (31, true), (32, true), (33, true), (34, true), (35, true), (27, false), (36, true), (37, true), (38, true), (39, true)] ([_]) ([_]) mixed (by kernel_rfl) (by kernel_rfl) rfl (List.Perm.swap ..) (fun w35_ => ?_)
            refine wd_f rfl (f_move rfl) ?_
            refine wd_f rfl (f_eqv (v' := .bool true) (f_eql rfl rfl) rfl) ?_
            refine wd_f rfl (f_move rfl) ?_
            refine wd_gf rfl rfl rfl (f_move rfl) ?_
            refine wd_ge rfl rfl rfl (e_call1 r1 [_] rfl Try.func43 (by kernel_rfl) (List.Perm.swap ..) (fun w hh hs => ifirst_spec b n [] r1 w hr1 hs)) ?_
            rintro _ _ w17 ⟨_, rfl, rfl, rfl⟩
            refine ⟨_, List.Perm.swap .., ?_⟩
            refine wd_gf rfl rfl rfl (f_eqv (v' := .bool false) (f_neq rfl rfl) rfl) ?_
            refine wd_gf rfl rfl rfl (f_move rfl) ?_
            refine wd_gf rfl rfl rfl (f_move rfl) ?_
            refine wd_ge rfl rfl rfl (e_call1 r1 [_] rfl Try.func44 (by kernel_rfl) (List.Perm.swap ..) (fun w hh hs => ilast_spec b n [] r1 w hr1 hs)) ?_
            rintro _ _ w18 ⟨_, rfl, rfl, rfl⟩
            refine ⟨_, List.Perm.swap .., ?_⟩
            refine wd_gf rfl rfl rfl (f_eqv (v' := .bool false) (f_neq rfl rfl) rfl) ?_
            refine wd_gf rfl rfl rfl (f_pick0 rfl rfl) ?_
            refine wd_f rfl (f_pick1 rfl rfl) ?_
            refine wd_f rfl (f_move rfl) ?_
            refine wd_gf rfl rfl rfl (f_move rfl) ?_
            refine wd_gf rfl rfl rfl (f_eqv (v' := .bool false) (f_gtr rfl rfl) rfl) ?_
            refine wd_gf rfl rfl rfl (f_move rfl) ?_
            refine wd_gs rfl rfl rfl ?_
            refine wd_gs rfl rfl rfl ?_
            refine wd_gs rfl rfl rfl ?_
            refine wd_gs rfl rfl rfl ?_
            refine wd_gs rfl rfl rfl ?_
            refine wd_gs rfl rfl rfl ?_
            refine wd_gs rfl rfl rfl ?_
            refine wd_ges rfl rfl rfl ?_
            refine wd_gs rfl rfl rfl ?_
            refine wd_gs rfl rfl rfl ?_
            refine wd_gu rfl rfl rfl ?_
            refine wd_gu rfl rfl rfl ?_
            refine wd_gu rfl rfl rfl ?_
            refine wd_gu rfl rfl rfl ?_
            refine wd_gu rfl rfl rfl ?_
            refine wd_gu rfl rfl rfl ?_
            refine wd_gu rfl rfl rfl ?_
            refine wd_gu rfl rfl rfl ?_
            refine wd_gu rfl rfl rfl ?_
            refine wd_geu rfl rfl rfl ?_
            refine wd_gu rfl rfl rfl ?_
            refine wd_gs rfl rfl rfl ?_
            refine wd_gf rfl rfl rfl (f_pick0 rfl rfl) ?_
            refine wd_f rfl (f_pick0 rfl rfl) ?_
            refine wd_endp [(1, _), (2, _), (7, _), (9, _), (11, _), (237, _)] [1, 0] ⟨rfl, rfl, rfl, rfl, rfl, rfl, trivial⟩ rfl ?_
            exact ⟨rfl, rfl⟩
          · skip
            have hpos : 0 < l'.length := by omega
            refine w_with fun hh => ?_
            obtain ⟨g, cap, e⟩ := rowB_form hh (i := 1) (j := 1) rfl rfl (by omega)
            injection e with e1 _ e3
            subst e1; subst e3
            clear hh
            obtain ⟨f0, hf0, hf0'⟩ : ∃ f0 : Int, (l'.map fun p => (p.1 : Int))[0]? = some f0 ∧ f0 = hdE (-1) (nodes l') := by
              cases l' with
              | nil => simp at hpos
              | cons p t => exact ⟨p.1, rfl, rfl⟩
            obtain ⟨g0, hg0, hg0'⟩ : ∃ g0 : Int, (l'.map fun p => (p.1 : Int))[l'.length - 1]? = some g0 ∧ g0 = hdE (-1) (nodes l').reverse := by
              rcases List.eq_nil_or_concat l' with rfl | ⟨t, p, rfl⟩
              · simp at hpos
              · exact ⟨p.1, by simp, by simp [nodes, hdE]⟩
            refine w_draw [(0, true), (1, true), (2, true), (3, true), (4, false), (5, true), (6, true), (7, true), (8, false), (9, true), (10, true), (11, true), (12, true), (13, true), (14, true), (15, true), (16, true), (18, true), (19, true), (20, true), (21, true), (22, true), (23, true), (17, false), (24, true), (25, true), (26, true), (28, true), (29, true), (30, true), (31, true), (32, true), (33, true), (34, true), (35, true), (27, false), (36, true), (37, true), (38, true), (39, true)] ([_]) ([_]) mixed (by kernel_rfl) (by kernel_rfl) rfl (List.Perm.swap ..) (fun w35_ => ?_)
            refine wd_f rfl (f_move rfl) ?_
            refine wd_f rfl (f_eqv (v' := .bool false) (f_eql rfl rfl) (congrArg Value.bool (decide_eq_false hG35))) ?_
            refine wd_f rfl (f_move rfl) ?_
            refine wd_gs rfl rfl rfl ?_
            refine wd_ges rfl rfl rfl ?_
            refine wd_gs rfl rfl rfl ?_
            refine wd_gs rfl rfl rfl ?_
            refine wd_gu rfl rfl rfl ?_
            refine wd_geu rfl rfl rfl ?_
            refine wd_gu rfl rfl rfl ?_
            refine wd_gs rfl rfl rfl ?_
            refine wd_f rfl (f_pick0 rfl rfl) ?_
            refine wd_f rfl (f_move rfl) ?_
            refine wd_gf rfl rfl rfl (f_move rfl) ?_
            refine wd_gf rfl rfl rfl (f_eqv (v' := .bool true) (f_gtr rfl rfl) (congrArg Value.bool (decide_eq_true (by omega)))) ?_
            refine wd_gf rfl rfl rfl (f_move rfl) ?_
            refine wd_gf rfl rfl rfl (f_move rfl) ?_
            refine wd_gf rfl rfl rfl (f_move rfl) ?_
            refine wd_gf rfl rfl rfl (f_nilCheck rfl) ?_
            refine wd_gf rfl rfl rfl (f_fieldAddr 1 rfl Try.underlying50 rfl rfl (by kernel_rfl)) ?_
            refine wd_gf rfl rfl rfl (f_loadB 0 0 rfl rfl rfl Try.underlying33 rfl rfl) ?_
            refine wd_gf rfl rfl rfl (f_indexAddr 1 (i := 0) rfl rfl Try.underlying33 (by kernel_rfl) rfl hpos) ?_
            refine wd_gf rfl rfl rfl (f_loadBr (v := .int .i64 f0) 0 1 rfl rfl rfl Try.underlying3 rfl (map_get (Value.int .i64) hf0)) ?_
            refine wd_ge rfl rfl rfl (e_call1 r1 [_] rfl Try.func43 (by kernel_rfl) (List.Perm.swap ..) (fun w hh hs => ifirst_spec b n l' r1 w hr1 hs)) ?_
            rintro _ _ w17 ⟨_, rfl, rfl, rfl⟩
            refine ⟨_, List.Perm.swap .., ?_⟩
            refine wd_gf rfl rfl rfl (f_eqv (v' := .bool false) (f_neq rfl rfl) (congrArg Value.bool (decide_eq_false (by simp [hf0'])))) ?_
            refine wd_gf rfl rfl rfl (f_move rfl) ?_
            refine wd_gf rfl rfl rfl (f_move rfl) ?_
            refine wd_gf rfl rfl rfl (f_move rfl) ?_
            refine wd_gf rfl rfl rfl (f_nilCheck rfl) ?_
            refine wd_gf rfl rfl rfl (f_fieldAddr 1 rfl Try.underlying50 rfl rfl (by kernel_rfl)) ?_
            refine wd_gf rfl rfl rfl (f_loadB 0 0 rfl rfl rfl Try.underlying33 rfl rfl) ?_
            refine wd_gf rfl rfl rfl (f_move rfl) ?_
            refine wd_gf rfl rfl rfl (f_eqv (v' := .int .i64 ((l'.length - 1 : Nat) : Int)) (f_sub rfl rfl (by omega)) (by congr 1; omega)) ?_
            refine wd_gf rfl rfl rfl (f_indexAddr 1 (i := l'.length - 1) rfl rfl Try.underlying33 (by kernel_rfl) rfl (by omega)) ?_
            refine wd_gf rfl rfl rfl (f_loadBr (v := .int .i64 g0) 0 1 rfl rfl rfl Try.underlying3 rfl (map_get (Value.int .i64) hg0)) ?_
            refine wd_ge rfl rfl rfl (e_call1 r1 [_] rfl Try.func44 (by kernel_rfl) (List.Perm.swap ..) (fun w hh hs => ilast_spec b n l' r1 w hr1 hs)) ?_
            rintro _ _ w18 ⟨_, rfl, rfl, rfl⟩
            refine ⟨_, List.Perm.swap .., ?_⟩
            refine wd_gf rfl rfl rfl (f_eqv (v' := .bool false) (f_neq rfl rfl) (congrArg Value.bool (decide_eq_false (by simp [hg0'])))) ?_
            refine wd_gf rfl rfl rfl (f_pick0 rfl rfl) ?_
            refine wd_gf rfl rfl rfl (f_pick1 rfl rfl) ?_
            refine wd_f rfl (f_pick0 rfl rfl) ?_
            refine wd_endp [(1, _), (2, _), (7, _), (9, _), (11, _), (237, _)] [1, 0] ⟨rfl, rfl, rfl, rfl, rfl, rfl, trivial⟩ rfl ?_
            exact ⟨rfl, rfl⟩
        rintro _ _ w35_ ⟨rfl, rfl⟩
        refine w_iff rfl ?_
        refine w_skip ?_
        refine w_reg ?_
        refine wl_f (f_move rfl) ?_
        refine wl_f (f_add rfl rfl (by omega)) ?_
        refine wl_f (f_assign rfl) ?_
        refine wl_end [(1, _), (2, _), (7, _), (9, _), (11, _)] ⟨rfl, rfl, rfl, rfl, rfl, trivial⟩ ?_
        exact ⟨k - 1, by omega, i + 1, l', _, _, rfl, rfl, hr1, hr2, by omega, by omega⟩
  · skip
    refine w_exit0 ?_
    refine w_seq ?_
    refine w_reg ?_
    refine wl_e (e_call0 rfl Try.func16 (by kernel_rfl) (fun w hh => awake11_spec w)) ?_
    rintro _ _ w19 ⟨_, rfl, rfl⟩
    refine wl_drop _ (List.sublist_append_right _ _) ?_
    refine wl_f (f_assign rfl) ?_
    refine wl_end [(6, _)] ⟨rfl, trivial⟩ ?_
    refine w_ret ?_
    refine ⟨_, _, fun a ha hh => results_tmps Try.results5 rfl a ha _, List.Sublist.refl _, ?_⟩
    rfl
end Go.Proofs.Ytkabdnijhjccoaa
