/- The law FrameSpoilt: the call returns true. -/
import Derived.Test.YthbjjfpikfmmnaaF10
namespace Go.Proofs.Ythbjjfpikfmmnaa
open Go.RowKit

theorem cut_at {I : List In} {p n i : Nat} (hI : I.length = n) (hp : p < n) (hi : i < n) : ∃ y, (I.take p ++ List.replicate (n - p) badIn)[i]? = some y ∧ (i < p → I[i]? = some y) ∧ (p ≤ i → y.2 = 1) := by
  by_cases h : i < p
  · refine ⟨I[i]'(by omega), ?_, fun _ => List.getElem?_eq_getElem (by omega), fun h' => by omega⟩
    rw [List.getElem?_append_left (by rw [List.length_take]; omega), List.getElem?_take, if_pos h, List.getElem?_eq_getElem (by omega)]
  · refine ⟨badIn, ?_, fun h' => absurd h' h, fun _ => rfl⟩
    rw [List.getElem?_append_right (by rw [List.length_take]; omega), List.length_take, List.getElem?_replicate, if_pos (by omega)]

set_option maxHeartbeats 4000000 in
theorem frameSpoilt_spec (D : Option Addr) (dc : Nat) (L : List Int) (k : Nat) (w : World) (hd : Rd w Nil 1 (.slice D L.length dc) L.length (iv L)) (hL : L.length ≤ 140737488355328) (hk : k < 65536) :
    Spec Try.prog 5 [.slice D L.length dc, .int .u16 k] w Nil fun r _ => r = .bool true := by
  refine enter (n := 91) Try.func5 rfl rfl [(0, _), (1, _)] rfl ⟨rfl, rfl, trivial⟩ (Holds.start _ _) ?_
  refine w_seq ?_
  refine w_reg ?_
  refine wl_f (f_assign rfl) ?_
  refine wl_end [(0, _), (1, _)] ⟨rfl, rfl, trivial⟩ ?_
  refine w_seq ?_
  refine w_reg ?_
  refine wl_f (f_move rfl) ?_
  refine wl_e (e_call0 rfl Try.func10 (by kernel_rfl) (fun w hh => new_spec D _ dc w)) ?_
  rintro _ _ w1 ⟨_, rfl, b1, rfl, rfl⟩
  refine wl_e (e_call1 (deck b1 (.slice D L.length dc) 0) [] rfl Try.func11 (by kernel_rfl) (List.Perm.refl _) (fun w hh hs' => events_spec b1 _ L 0 50 10 w (by omega) (by omega) ⟨hd.old1 hh (Hr := []) (List.Perm.refl _), hL, Nat.zero_le _⟩ hs')) ?_
  rintro V _ w2 ⟨_, rfl, E, p1, hE1, hE2, hE, rfl, hp1⟩
  refine wl_with fun hh => ?_
  obtain ⟨g1, k1, rfl⟩ := row_form hh (i := 0) rfl (by omega)
  clear hh
  refine wl_f (f_assign rfl) ?_
  refine wl_pick [0, 0] rfl ?_
  refine wl_end [(1, _), (5, _)] ⟨rfl, rfl, trivial⟩ ?_
  refine w_seq ?_
  refine w_reg ?_
  refine wl_f (f_move rfl) ?_
  refine wl_e (e_call0 rfl Try.func9 (by kernel_rfl) (fun w hh => rbody_spec _ E w (held_rdE hh (i := 0) (j := 1) rfl rfl hE) (by omega))) ?_
  rintro _ _ w3 ⟨_, rfl, V2, rfl, rfl⟩
  have hbo := bodyOut_deck hE1 (by omega) hE
  have hle := bodyOut_le E
  have hlt := bodyOut_lt E (by omega) fun x hx => (hE x hx).2.2.2.2
  have hrd := readF_deck 255 hE1 (by omega) hE
  have hcut := fun a => readF_cut 255 (a := a) hE1 (by omega) hE
  have hBl : 2 ≤ (venc E.length ++ evsB E).length := by
    have h1 := evsB_pos hE1 hE
    have h2 := venc_len E.length
    rw [List.length_append]; omega
  rw [show venc E.length ++ evsB E = (bodyOut E).1 by rw [hbo]] at hrd hcut hBl
  have hb0 : (bodyOut E).2 = 0 := by rw [hbo]
  generalize bodyOut E = B at hle hlt hb0 hrd hcut hBl ⊢
  obtain ⟨B, e⟩ := B
  dsimp only at hle hlt hb0 hrd hcut hBl ⊢
  subst hb0
  have hil : (E.map (inpE 255)).length = E.length := List.length_map ..
  generalize E.map (inpE 255) = I at hil hrd hcut
  refine wl_with fun hh => ?_
  obtain ⟨A2, c2, rfl⟩ := row_slice hh (i := 0) rfl
  have hc2 : B.length ≤ c2 := by
    obtain ⟨_, _, e, _, h, _⟩ := Rd.held0 hh (i := 0) rfl
    injection e with _ _ e
    subst e
    exact h
  clear hh
  refine wl_f (f_move rfl) ?_
  refine wl_f (f_extract rfl rfl) ?_
  refine wl_f (f_extract rfl rfl) ?_
  refine wl_f (f_assign rfl) ?_
  refine wl_f (f_assign rfl) ?_
  refine wl_pick [0] rfl ?_
  refine wl_end [(1, _), (5, _), (6, _), (7, _)] ⟨rfl, rfl, rfl, rfl, trivial⟩ ?_
  refine w_seq ?_
  refine w_seq ?_
  refine w_reg ?_
  refine wl_f (f_move rfl) ?_
  refine wl_f (f_neq rfl rfl) ?_
  refine wl_f (f_move rfl) ?_
  refine wl_or (j := 2) (c := decide ((B.length : Int) < 2)) 3 [(1, _), (5, _), (6, _)] ⟨rfl, rfl, rfl, trivial⟩ rfl rfl rfl rfl rfl (fun hg3_6 => ?_) (fun w3_6 => ?_)
  · skip
    refine wl_gf rfl rfl (f_move rfl) ?_
    refine wl_gf rfl rfl (f_len rfl Try.underlying22) ?_
    refine wl_gf rfl rfl (f_lss rfl rfl) ?_
    exact wl_pend rfl rfl ⟨rfl, rfl, rfl, trivial⟩ (List.Sublist.refl _)
  refine wl_end [(1, _), (5, _), (6, _), (27, _)] ⟨rfl, rfl, rfl, rfl, trivial⟩ ?_
  refine w_ifb rfl (fun h => absurd h (by simp; omega)) (fun _ => ?_)
  refine w_skip ?_
  refine w_seq ?_
  refine w_reg ?_
  refine wl_f (f_move rfl) ?_
  refine wl_f (f_convi rfl Try.underlying49 Try.underlying3 (by omega)) ?_
  refine wl_f (f_move rfl) ?_
  refine wl_f (f_len rfl Try.underlying22) ?_
  refine wl_f (f_eqv (v' := .int .i64 ((B.length - 1 : Nat) : Int)) (f_sub rfl rfl (by omega)) (by congr 1; omega)) ?_
  refine wl_f (f_rem rfl rfl (by omega)) ?_
  have hmod := Nat.mod_lt k (show 0 < B.length - 1 by omega)
  refine wl_f (f_eqv (v' := .int .i64 ((1 + k % (B.length - 1) : Nat) : Int)) (f_add rfl rfl (by omega)) (by congr 1)) ?_
  have ha1 : 1 ≤ 1 + k % (B.length - 1) := by omega
  have ha2 : 1 + k % (B.length - 1) < B.length := by have := Nat.mod_lt k (show 0 < B.length - 1 by omega); omega
  generalize 1 + k % (B.length - 1) = a at ha1 ha2
  obtain ⟨p, hp, hcr⟩ := hcut a ha1 ha2
  refine wl_f (f_assign rfl) ?_
  refine wl_end [(5, _), (6, _), (8, _)] ⟨rfl, rfl, rfl, trivial⟩ ?_
  refine w_seq ?_
  refine w_draw [(0, true), (2, true), (3, true), (4, true), (1, false), (5, false), (6, true), (7, true)] ([_]) ([]) mixed (by kernel_rfl) (by kernel_rfl) rfl (perm_all _) (fun w6_ => ?_)
  refine wd_f rfl (f_move rfl) ?_
  refine wd_f rfl (f_move rfl) ?_
  refine wd_f rfl (f_move rfl) ?_
  refine wd_f rfl (f_eqv (v' := .slice A2 a c2) (f_sliceA 1 (l := 0) (u := a) rfl Try.underlying22 (by kernel_rfl) rfl ⟨_, rfl⟩ (by omega) (by omega)) (by cases A2 <;> simp [Addr.add])) ?_
  refine wd_e rfl (e_call0 rfl Try.func13 (by kernel_rfl) (fun w hh => readIn_spec A2 c2 B 255 w (Rd.held0 hh (i := 0) rfl) (by omega) hlt)) ?_
  rintro V4 _ w4 ⟨_, rfl, rfl⟩
  rw [hrd]
  refine ⟨_, List.Perm.swap .., ?_⟩
  refine wd_e rfl (e_call0 rfl Try.func13 (by kernel_rfl) (fun w hh => by
    have h := rd_prefix (Rd.held0 hh (i := 0) rfl) rfl (show a ≤ B.length by omega)
    have e : (if c2 = 0 then A2 else A2.map (·.add (0 * 1))) = A2 := by cases A2 <;> simp [Addr.add]
    rw [e, Nat.sub_zero, Nat.sub_zero] at h
    have e2 : (B.take a).length = a := by rw [List.length_take]; omega
    have h3 := readIn_spec A2 c2 (B.take a) 255 w (by rw [e2] at h ⊢; exact h) (by omega) (fun b hb => hlt b (List.mem_of_mem_take hb))
    rw [e2] at h3
    exact h3)) ?_
  rintro V5 _ w5 ⟨_, rfl, rfl⟩
  rw [hcr]
  refine ⟨_, List.Perm.swap .., ?_⟩
  refine wd_f rfl (f_assign rfl) ?_
  refine wd_f rfl (f_assign rfl) ?_
  refine wd_endp [(5, _), (9, _), (10, _)] [1, 1] ⟨rfl, rfl, rfl, trivial⟩ rfl ?_
  refine w_seq ?_
  refine w_seq ?_
  have hca := fun i (hi : i < E.length) => cut_at hil hp hi
  have hcl : (I.take p ++ List.replicate (E.length - p) badIn).length = E.length := by rw [List.length_append, List.length_take, List.length_replicate]; omega
  generalize I.take p ++ List.replicate (E.length - p) badIn = C at hca hcl ⊢
  refine w_with fun hh => ?_
  obtain ⟨g4, k4, rfl⟩ := row_form hh (i := 1) rfl (by omega)
  obtain ⟨g5, k5, rfl⟩ := row_form hh (i := 0) rfl (by omega)
  clear hh
  refine w_reg ?_
  refine wl_f (f_move rfl) ?_
  refine wl_f (f_len rfl Try.underlying34) ?_
  refine wl_f (f_move rfl) ?_
  refine wl_f (f_len rfl Try.underlying28) ?_
  refine wl_f (f_neq rfl rfl) ?_
  refine wl_f (f_move rfl) ?_
  refine wl_or (j := 5) (c := decide ((C.length : Int) ≠ (E.length : Int))) 5 [(9, _), (10, _)] ⟨rfl, rfl, trivial⟩ rfl rfl rfl rfl rfl (fun hg7_11 => ?_) (fun w7_11 => ?_)
  · skip
    refine wl_gf rfl rfl (f_move rfl) ?_
    refine wl_gf rfl rfl (f_len rfl Try.underlying34) ?_
    refine wl_gf rfl rfl (f_move rfl) ?_
    refine wl_gf rfl rfl (f_len rfl Try.underlying28) ?_
    refine wl_gf rfl rfl (f_neq rfl rfl) ?_
    exact wl_pend rfl rfl ⟨rfl, rfl, trivial⟩ (List.Sublist.refl _)
  refine wl_end [(9, _), (10, _), (52, _)] ⟨rfl, rfl, rfl, trivial⟩ ?_
  refine w_ifb rfl (fun h => absurd h (by simp; omega)) (fun _ => ?_)
  refine w_skip ?_
  refine w_seq ?_
  refine w_reg ?_
  refine wl_f (f_assign rfl) ?_
  refine wl_end [(9, _), (10, _), (11, _)] ⟨rfl, rfl, rfl, trivial⟩ ?_
  refine w_seq ?_
  refine w_seq ?_
  refine w_reg ?_
  refine wl_f (f_move rfl) ?_
  refine wl_f (f_len rfl Try.underlying34) ?_
  refine wl_f (f_move rfl) ?_
  refine wl_end [(9, _), (10, _), (11, _), (54, _), (55, _)] ⟨rfl, rfl, rfl, rfl, rfl, trivial⟩ ?_
  refine w_block ?_
  refine w_loop (fun q m H w' => ∃ i z : Nat, m = [(9, .slice (some ⟨g4, 0, .none⟩) I.length k4), (10, .slice (some ⟨g5, 0, .none⟩) C.length k5), (11, .bool (decide (0 < z))), (54, .int .i64 C.length), (55, .int .i64 i)] ∧
    H = [row (.slice (some ⟨g5, 0, .none⟩) C.length k5) 46 4 C.length (incells C), row (.slice (some ⟨g4, 0, .none⟩) I.length k4) 46 4 I.length (incells I)] ∧ q + i = C.length ∧ (0 < z → p ≤ i)) C.length ⟨0, 0, rfl, rfl, rfl, fun h => absurd h (by omega)⟩ ?_
  rintro q _ _ w6 ⟨i, z, rfl, rfl, hq, hz⟩
  refine w_seq ?_
  refine w_reg ?_
  refine wl_f (f_lss rfl rfl) ?_
  refine wl_end [(9, _), (10, _), (11, _), (54, _), (55, _), (56, _)] ⟨rfl, rfl, rfl, rfl, rfl, rfl, trivial⟩ ?_
  refine w_seq ?_
  refine w_ifd rfl (fun hc3 => ?_) (fun hc3 => ?_)
  · skip
    have hi : i < E.length := by omega
    obtain ⟨⟨⟨yk, yt, yw⟩, yv⟩, hyi, hy1, hy2⟩ := hca i hi
    obtain ⟨⟨⟨xk, xt, xw⟩, xv⟩, hxi⟩ : ∃ x, I[i]? = some x := ⟨_, List.getElem?_eq_getElem (by omega)⟩
    refine w_skip ?_
    refine w_seq ?_
    refine w_block ?_
    refine w_seq ?_
    refine w_reg ?_
    refine wl_f (f_move rfl) ?_
    refine wl_f (f_assign rfl) ?_
    refine wl_end [(9, _), (10, _), (11, _), (12, _), (54, _), (55, _)] ⟨rfl, rfl, rfl, rfl, rfl, rfl, trivial⟩ ?_
    refine w_seq ?_
    refine w_post (fun m H w' => ∃ z' : Nat, m = [(9, .slice (some ⟨g4, 0, .none⟩) I.length k4), (10, .slice (some ⟨g5, 0, .none⟩) C.length k5), (11, .bool (decide (0 < z'))), (12, .int .i64 i), (54, .int .i64 C.length), (55, .int .i64 i)] ∧
      H = [row (.slice (some ⟨g5, 0, .none⟩) C.length k5) 46 4 C.length (incells C), row (.slice (some ⟨g4, 0, .none⟩) I.length k4) 46 4 I.length (incells I)] ∧ (0 < z' → p ≤ i)) ?_ ?_
    · by_cases hG13 : 0 < z
      · skip
        refine w_draw [(0, true), (1, true), (2, true), (3, true), (4, true), (5, true), (6, true), (7, true), (8, true), (9, true), (10, true), (11, true), (12, true)] (_) ([]) mixed (by kernel_rfl) (by kernel_rfl) rfl (perm_all _) (fun w13_ => ?_)
        refine wd_f rfl (f_move rfl) ?_
        refine wd_f rfl (f_eqv (f_move rfl) (congrArg Value.bool (decide_eq_true hG13))) ?_
        refine wd_gs rfl rfl rfl ?_
        refine wd_gs rfl rfl rfl ?_
        refine wd_gs rfl rfl rfl ?_
        refine wd_gs rfl rfl rfl ?_
        refine wd_gs rfl rfl rfl ?_
        refine wd_gs rfl rfl rfl ?_
        refine wd_gs rfl rfl rfl ?_
        refine wd_gs rfl rfl rfl ?_
        refine wd_gs rfl rfl rfl ?_
        refine wd_f rfl (f_pick rfl rfl rfl) ?_
        refine wd_f rfl (f_assign rfl) ?_
        refine wd_end [(9, _), (10, _), (11, _), (12, _), (54, _), (55, _)] ⟨rfl, rfl, rfl, rfl, rfl, rfl, trivial⟩ ?_
        exact ⟨1, rfl, rfl, fun _ => hz hG13⟩
      · skip
        refine w_draw [(0, true), (1, true), (2, true), (3, true), (4, true), (5, true), (6, true), (7, true), (8, true), (9, true), (10, true), (11, true), (12, true)] (_) ([]) mixed (by kernel_rfl) (by kernel_rfl) rfl (perm_all _) (fun w13_ => ?_)
        refine wd_f rfl (f_move rfl) ?_
        refine wd_f rfl (f_eqv (f_move rfl) (congrArg Value.bool (decide_eq_false hG13))) ?_
        refine wd_gf rfl rfl rfl (f_move rfl) ?_
        refine wd_gf rfl rfl rfl (f_move rfl) ?_
        refine wd_gf rfl rfl rfl (f_indexAddr 4 (i := i) rfl rfl Try.underlying34 (by kernel_rfl) rfl (by omega)) ?_
        refine wd_gf rfl rfl rfl (f_loadsr (cs := [.string (str yk), .int .i64 yt, .int .u64 (yw : Int), .int .i64 yv]) 0 rfl Try.underlying46 rfl (by kernel_rfl) rfl (incells_get hyi)) ?_
        refine wd_gf rfl rfl rfl (f_move rfl) ?_
        refine wd_gf rfl rfl rfl (f_move rfl) ?_
        refine wd_gf rfl rfl rfl (f_indexAddr 4 (i := i) rfl rfl Try.underlying34 (by kernel_rfl) rfl (by omega)) ?_
        refine wd_gf rfl rfl rfl (f_loadsr (cs := [.string (str xk), .int .i64 xt, .int .u64 (xw : Int), .int .i64 xv]) 1 rfl Try.underlying46 rfl (by kernel_rfl) rfl (incells_get hxi)) ?_
        refine wd_gf rfl rfl rfl (f_bin rfl rfl (fun w => run_eqGuard_agg w _ _ _ _ _ _ (by kernel_rfl)) (fun w => neqIn _ _ _ _ _ _ _ _ w)) ?_
        refine wd_f rfl (f_pick rfl rfl rfl) ?_
        refine wd_f rfl (f_assign rfl) ?_
        refine wd_end [(9, _), (10, _), (11, _), (12, _), (54, _), (55, _)] ⟨rfl, rfl, rfl, rfl, rfl, rfl, trivial⟩ ?_
        by_cases hlt2 : i < p
        · have h := hy1 hlt2
          rw [hxi] at h
          injection h with h
          simp only [Prod.mk.injEq] at h
          obtain ⟨⟨rfl, rfl, rfl⟩, rfl⟩ := h
          exact ⟨0, by simp, rfl, fun h => absurd h (by omega)⟩
        · by_cases hs : str yk = str xk ∧ yt = xt ∧ (yw : Int) = xw ∧ yv = xv
          · exact ⟨0, by simp [hs], rfl, fun h => absurd h (by omega)⟩
          · exact ⟨1, by simp only [hs]; rfl, rfl, fun _ => by omega⟩
    rintro _ _ w7 ⟨z', rfl, rfl, hz'⟩
    refine w_seq ?_
    refine w_reg ?_
    refine wl_f (f_move rfl) ?_
    refine wl_f (f_move rfl) ?_
    refine wl_and (j := 1) (c := decide (yv ≠ 1)) 6 [(9, _), (10, _), (11, _), (54, _), (55, _)] ⟨rfl, rfl, rfl, rfl, rfl, trivial⟩ rfl rfl rfl rfl rfl (fun hg14_8 => ?_) (fun w14_8 => ?_)
    · skip
      refine wl_gf rfl rfl (f_move rfl) ?_
      refine wl_gf rfl rfl (f_move rfl) ?_
      refine wl_gf rfl rfl (f_indexAddr 4 (i := i) rfl rfl Try.underlying34 (by kernel_rfl) rfl (by omega)) ?_
      refine wl_gf rfl rfl (f_fieldAddr 3 rfl Try.underlying46 rfl rfl (by kernel_rfl)) ?_
      refine wl_gf rfl rfl (f_loadr (v := .int .i64 yv) 0 rfl Try.underlying3 rfl rfl (incells_verd hyi)) ?_
      refine wl_gf rfl rfl (f_neq rfl rfl) ?_
      exact wl_pend rfl rfl ⟨rfl, rfl, rfl, rfl, rfl, trivial⟩ (List.Sublist.refl _)
    refine wl_end [(9, _), (10, _), (11, _), (54, _), (55, _), (78, _)] ⟨rfl, rfl, rfl, rfl, rfl, rfl, trivial⟩ ?_
    refine w_ifb rfl (fun h => absurd h (by
      simp only [Bool.and_eq_true, decide_eq_true_eq, not_and]
      intro h0 h1
      exact h1 (hy2 (hz' h0)))) (fun _ => ?_)
    refine w_skip ?_
    refine w_reg ?_
    refine wl_f (f_add rfl rfl (by omega)) ?_
    refine wl_f (f_move rfl) ?_
    refine wl_end [(9, _), (10, _), (11, _), (54, _), (55, _)] ⟨rfl, rfl, rfl, rfl, rfl, trivial⟩ ?_
    exact ⟨q - 1, by omega, i + 1, z', rfl, rfl, by omega, fun h => by have := hz' h; omega⟩
  · skip
    obtain ⟨⟨y1, yv⟩, hyi, _, hy2⟩ := hca (E.length - 1) (by omega)
    obtain rfl : yv = 1 := hy2 (by omega)
    refine w_exit0 ?_
    refine w_seq ?_
    refine w_reg ?_
    refine wl_f (f_move rfl) ?_
    refine wl_f (f_move rfl) ?_
    refine wl_f (f_len rfl Try.underlying34) ?_
    refine wl_f (f_eqv (v' := .int .i64 ((E.length - 1 : Nat) : Int)) (f_sub rfl rfl (by omega)) (by congr 1; omega)) ?_
    refine wl_f (f_indexAddr 4 (i := E.length - 1) rfl rfl Try.underlying34 (by kernel_rfl) rfl (by omega)) ?_
    refine wl_f (f_fieldAddr 3 rfl Try.underlying46 rfl rfl (by kernel_rfl)) ?_
    refine wl_f (f_loadr (v := .int .i64 1) 0 rfl Try.underlying3 rfl rfl (incells_verd hyi)) ?_
    refine wl_f (f_eql rfl rfl) ?_
    refine wl_f (f_move rfl) ?_
    refine wl_and (j := 8) (c := true) 1 [] trivial rfl rfl rfl rfl rfl (fun hg17_10 => ?_) (fun w17_10 => ?_)
    · skip
      refine wl_ge rfl rfl (e_call0 rfl Try.func8 (by kernel_rfl) (fun w hh => fawake_spec w)) ?_
      rintro _ _ w7 ⟨_, rfl, rfl, rfl⟩
      exact wl_pend rfl rfl trivial (List.Sublist.refl _)
    refine wl_f (f_assign rfl) ?_
    refine wl_end [(4, _)] ⟨rfl, trivial⟩ ?_
    refine w_ret ?_
    refine ⟨_, _, fun a ha hh => results_tmps Try.results5 rfl a ha _, List.Sublist.refl _, ?_⟩
    rfl
end Go.Proofs.Ythbjjfpikfmmnaa
