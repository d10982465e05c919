/- The bodies and the frames of events: both functions answer alike. -/
import Derived.Test.YthbjjfpikfmmnaaF1
namespace Go.Proofs.Ythbjjfpikfmmnaa
open Go.RowKit

def evE (x : Ev) : List Nat × Int := encEv x.2.1 x.2.2.1 x.2.2.2
def firstE : List Ev → Int
  | [] => 0
  | x :: E => if (evE x).2 ≠ 0 then (evE x).2 else firstE E
def evsB (E : List Ev) : List Nat := E.flatMap fun x => (evE x).1
def bodyOut (E : List Ev) : List Nat × Int :=
  if E.length = 0 ∨ 64 < E.length then ([], 1) else if firstE E ≠ 0 then ([], firstE E)
  else if 4096 < (venc E.length ++ evsB E).length then ([], 4) else (venc E.length ++ evsB E, 0)
def frameOut (E : List Ev) : List Nat × Int := if (bodyOut E).2 ≠ 0 then ([], (bodyOut E).2) else (venc (bodyOut E).1.length ++ (bodyOut E).1, 0)
theorem firstE_at : ∀ {E : List Ev} {i : Nat} {x : Ev}, (∀ y ∈ E.take i, (evE y).2 = 0) → E[i]? = some x → (evE x).2 ≠ 0 → firstE E = (evE x).2
  | [], _, _, _, h, _ => by simp at h
  | y :: E, 0, x, _, h, hx => by simp at h; subst h; rw [firstE, if_pos hx]
  | y :: E, i + 1, x, ha, h, hx => by
    have hy := ha y (by simp)
    rw [firstE, if_neg (by omega)]
    exact firstE_at (fun z hz => ha z (by rw [List.take_succ_cons]; exact List.mem_cons_of_mem _ hz)) (by simpa using h) hx
theorem firstE_all : ∀ {E : List Ev}, (∀ y ∈ E, (evE y).2 = 0) → firstE E = 0
  | [], _ => rfl
  | y :: E, h => by
    have hy := h y (List.mem_cons_self ..)
    rw [firstE, if_neg (by omega)]
    exact firstE_all fun z hz => h z (List.mem_cons_of_mem _ hz)
theorem evsB_snoc (E : List Ev) (x : Ev) : evsB (E ++ [x]) = evsB E ++ (evE x).1 := by simp [evsB]
theorem evsB_len (E : List Ev) : (evsB E).length ≤ E.length * 100000 := by
  induction E with
  | nil => simp [evsB]
  | cons x E ih =>
    have : (evE x).1.length ≤ 100000 := encEv_len
    simp only [evsB, List.flatMap_cons, List.length_append, List.length_cons] at ih ⊢
    omega
theorem bodyOut_le (E : List Ev) : (bodyOut E).1.length ≤ 4096 := by
  unfold bodyOut
  split
  · simp
  split
  · simp
  split
  · simp
  · show (venc E.length ++ evsB E).length ≤ 4096; omega

/-- Events that can be read. -/
def RdE (w : World) (v : Value) (E : List Ev) : Prop := Rd w Nil 3 v E.length (ecells E) ∧ ∀ x ∈ E, Rd w Nil 2 x.1 x.2.1.length (tcells x.2.1) ∧ x.2.1.length ≤ 1000000 ∧ (-9223372036854775808 ≤ x.2.2.1 ∧ x.2.2.1 ≤ 9223372036854775807) ∧ x.2.2.2 < 18446744073709551616
theorem RdE.old0 {w0 w : World} {H : List Res} {v : Value} {E : List Ev} (h : RdE w0 v E) (hh : Holds w0 Nil H w) : RdE w v E := ⟨h.1.old0 hh, fun x hx => ⟨(h.2 x hx).1.old0 hh, (h.2 x hx).2⟩⟩
def BodySpec (f : FuncId) : Prop := ∀ (v : Value) (E : List Ev) (w : World), RdE w v E → E.length ≤ 1000000 →
  Spec Try.prog f [v] w Nil fun r H => ∃ u, r = .tuple #[u, .int .i64 (bodyOut E).2] ∧ H = [row u 5 1 (bodyOut E).1.length (bv (bodyOut E).1)]
def FrameSpec (f : FuncId) : Prop := ∀ (v : Value) (E : List Ev) (w : World), RdE w v E → E.length ≤ 1000000 →
  Spec Try.prog f [v] w Nil fun r H => ∃ u, r = .tuple #[u, .int .i64 (frameOut E).2] ∧ H = [row u 5 1 (frameOut E).1.length (bv (frameOut E).1)]

set_option maxHeartbeats 1000000 in
theorem body_spec : BodySpec 15 := by
  intro v E w hx hn
  obtain ⟨A, c, rfl, hxl, hxc, hxA⟩ := id hx.1
  refine enter (n := 43) Try.func15 rfl rfl [(0, _)] rfl ⟨rfl, trivial⟩ (Holds.start _ _) ?_
  refine w_seq ?_
  refine w_reg ?_
  refine wl_f (f_assign rfl) ?_
  refine wl_f (f_assign rfl) ?_
  refine wl_end [(0, _)] ⟨rfl, trivial⟩ ?_
  refine w_seq ?_
  refine w_seq ?_
  refine w_reg ?_
  refine wl_f (f_move rfl) ?_
  refine wl_f (f_len rfl Try.underlying28) ?_
  refine wl_f (f_eql rfl rfl) ?_
  refine wl_f (f_move rfl) ?_
  refine wl_or (j := 3) (c := decide ((64 : Int) < (E.length : Int))) 3 [(0, _)] ⟨rfl, trivial⟩ rfl rfl rfl rfl rfl (fun hg1_7 => ?_) (fun w1_7 => ?_)
  · skip
    refine wl_gf rfl rfl (f_move rfl) ?_
    refine wl_gf rfl rfl (f_len rfl Try.underlying28) ?_
    refine wl_gf rfl rfl (f_gtr rfl rfl) ?_
    exact wl_pend rfl rfl ⟨rfl, trivial⟩ (List.Sublist.refl _)
  refine wl_end [(0, _), (16, _)] ⟨rfl, rfl, trivial⟩ ?_
  refine w_ifb rfl (fun hc1 => ?_) (fun hc1 => ?_)
  · skip
    simp only [Bool.or_eq_true, decide_eq_true_eq] at hc1
    refine w_nilrow 5 1 ?_
    refine w_seq ?_
    refine w_reg ?_
    refine wl_f (f_assign rfl) ?_
    refine wl_f (f_assign rfl) ?_
    refine wl_end [(2, _), (3, _)] ⟨rfl, rfl, trivial⟩ ?_
    refine w_ret ?_
    refine ⟨_, _, fun a ha hh => results_tmps Try.results15 rfl a ha _, List.Sublist.refl _, ?_⟩
    exact ⟨_, by rw [bodyOut, if_pos (by omega)]; rfl, by rw [bodyOut, if_pos (by omega)]; rfl⟩
  · skip
    simp only [Bool.or_eq_true, decide_eq_true_eq, not_or] at hc1
    have hbo : bodyOut E = if firstE E ≠ 0 then ([], firstE E) else if 4096 < (venc E.length ++ evsB E).length then ([], 4) else (venc E.length ++ evsB E, 0) := by rw [bodyOut, if_neg (by omega)]
    have hvl := venc_len E.length
    refine w_skip ?_
    refine w_seq ?_
    refine w_reg ?_
    refine wl_f (f_move rfl) ?_
    refine wl_f (f_len rfl Try.underlying28) ?_
    refine wl_f (f_convu rfl Try.underlying3 Try.underlying38 (by omega)) ?_
    refine wl_e (e_call0 rfl Try.func32 (by kernel_rfl) (fun w hh => append_spec (.slice .none 0 0) [] E.length w (Rd.nil _ _ _) (by simp) (by omega))) ?_
    rintro V _ w1 ⟨_, rfl, rfl⟩
    refine wl_f (f_assign rfl) ?_
    refine wl_end [(0, _), (4, _)] ⟨rfl, rfl, trivial⟩ ?_
    refine w_seq ?_
    refine w_seq ?_
    refine w_reg ?_
    refine wl_f (f_move rfl) ?_
    refine wl_f (f_len rfl Try.underlying28) ?_
    refine wl_f (f_move rfl) ?_
    refine wl_end [(4, _), (21, _), (22, _), (23, _)] ⟨rfl, rfl, rfl, rfl, trivial⟩ ?_
    refine w_block ?_
    refine w_loop (fun k m H w' => ∃ (i : Nat) (V : Value), m = [(4, V), (21, .slice A E.length c), (22, .int .i64 E.length), (23, .int .i64 i)] ∧ H = [row V 5 1 (venc E.length ++ evsB (E.take i)).length (bv (venc E.length ++ evsB (E.take i)))] ∧ k + i = E.length ∧ ∀ y ∈ E.take i, (evE y).2 = 0) E.length
      ⟨0, V, rfl, by simp [evsB], rfl, by simp⟩ ?_
    rintro k _ _ w2 ⟨i, V2, rfl, rfl, hk, hall⟩
    refine w_seq ?_
    refine w_reg ?_
    refine wl_f (f_lss rfl rfl) ?_
    refine wl_end [(4, _), (21, _), (22, _), (23, _), (24, _)] ⟨rfl, rfl, rfl, rfl, rfl, trivial⟩ ?_
    refine w_seq ?_
    refine w_ifd rfl (fun hc2 => ?_) (fun hc2 => ?_)
    · skip
      have hi : i < E.length := by omega
      obtain ⟨x, hxi⟩ : ∃ x, E[i]? = some x := ⟨_, List.getElem?_eq_getElem hi⟩
      obtain ⟨b2, off, rfl, _, _, hcell⟩ := hxA.resolve_left (by omega)
      obtain ⟨hx1, hx2, hx3, hx4⟩ := hx.2 x (List.mem_of_getElem? hxi)
      obtain ⟨S, cs, e, _⟩ := id hx1
      have hel := evsB_len (E.take i)
      rw [List.length_take] at hel
      have hxe : (evE x).1.length ≤ 100000 := encEv_len
      have hlen : (venc E.length ++ evsB (E.take i)).length ≤ 7000000 := by rw [List.length_append]; omega
      refine w_skip ?_
      refine w_seq ?_
      refine w_block ?_
      refine w_seq ?_
      refine w_reg ?_
      refine wl_f (f_indexAddr 3 (i := i) rfl rfl Try.underlying28 (by kernel_rfl) rfl hi) ?_
      refine wl_f (f_loadso (cs := [x.1, .int .i64 x.2.2.1, .int .u64 (x.2.2.2 : Int)]) rfl Try.underlying40 rfl (by kernel_rfl) (fun j u hu => by
        have h := ecells_get hxi
        rw [← h, List.getElem?_take] at hu
        split at hu
        · rw [List.getElem?_drop, Nat.zero_add] at hu
          have := hcell (i * 3 + j) u hu
          rwa [← Nat.add_assoc] at this
        · cases hu) id) ?_
      refine wl_e (e_allocs [.slice .none 0 0, .int .i64 0, .int .u64 0] (by kernel_rfl)) ?_
      rintro _ _ w6_2 ⟨b6_2, rfl, rfl⟩
      rw [e]
      (first | refine wl_e0 (e_store0 (us := [_, _, _]) rfl rfl rfl (by kernel_rfl) (by simp [Value.oneCell']) rfl rfl) ?_ | refine wl_e0 (e_store1 (us := [_, _, _]) rfl rfl rfl (by kernel_rfl) (by simp [Value.oneCell']) rfl rfl) ?_ | refine wl_e0 (e_store2 (us := [_, _, _]) rfl rfl rfl (by kernel_rfl) (by simp [Value.oneCell']) rfl rfl) ?_ | refine wl_e0 (e_store3 (us := [_, _, _]) rfl rfl rfl (by kernel_rfl) (by simp [Value.oneCell']) rfl rfl) ?_)
      rintro _ _ w6_3 rfl
      refine wl_end [(4, _), (6, _), (21, _), (22, _), (23, _)] ⟨rfl, rfl, rfl, rfl, rfl, trivial⟩ ?_
      refine w_seq ?_
      refine w_reg ?_
      refine wl_f (f_loadsb (cs := [_, _, _]) 0 rfl Try.underlying40 rfl (by kernel_rfl) rfl rfl) ?_
      refine wl_e (e_call0 rfl Try.func33 (by kernel_rfl) (fun w hh => by have h := encode_spec x.1 x.2.1 x.2.2.1 x.2.2.2 w (hx1.old0 hh) hx2 hx3 hx4; rw [e] at h; exact h)) ?_
      rintro _ _ w3 ⟨_, rfl, V3, rfl, rfl, _⟩
      refine wl_f (f_move rfl) ?_
      refine wl_f (f_extract rfl rfl) ?_
      refine wl_f (f_extract rfl rfl) ?_
      refine wl_f (f_assign rfl) ?_
      refine wl_f (f_assign rfl) ?_
      refine wl_end [(4, _), (7, _), (8, _), (21, _), (22, _), (23, _)] ⟨rfl, rfl, rfl, rfl, rfl, rfl, trivial⟩ ?_
      refine w_seq ?_
      refine w_seq ?_
      refine w_reg ?_
      refine wl_f (f_move rfl) ?_
      refine wl_f (f_neq rfl rfl) ?_
      refine wl_end [(4, _), (7, _), (8, _), (21, _), (22, _), (23, _), (33, _)] ⟨rfl, rfl, rfl, rfl, rfl, rfl, rfl, trivial⟩ ?_
      refine w_ifd rfl (fun hc3 => ?_) (fun hc3 => ?_)
      · skip
        refine w_drop [] (List.nil_sublist _) ?_
        refine w_nilrow 5 1 ?_
        refine w_seq ?_
        refine w_reg ?_
        refine wl_f (f_move rfl) ?_
        refine wl_f (f_assign rfl) ?_
        refine wl_f (f_assign rfl) ?_
        refine wl_end [(2, _), (3, _)] ⟨rfl, rfl, trivial⟩ ?_
        refine w_ret ?_
        refine ⟨_, _, fun a ha hh => results_tmps Try.results15 rfl a ha _, List.Sublist.refl _, ?_⟩
        have h1 := firstE_at hall hxi hc3
        have h2 : firstE E ≠ 0 := by rw [h1]; exact hc3
        exact ⟨_, by rw [hbo, if_pos h2, h1]; rfl, by rw [hbo, if_pos h2]; rfl⟩
      · skip
        refine w_skip ?_
        refine w_reg ?_
        refine wl_f (f_move rfl) ?_
        refine wl_f (f_move rfl) ?_
        refine wl_e (e_appN 2 t22 rfl rfl rfl (fun w hh => Rd.held0 hh (i := 0) rfl) (bv_one _) (by show (_ + (evE x).1.length) * 1 ≤ _; omega) (by show _ + (evE x).1.length ≤ _; omega)) ?_
        rintro _ _ w5 ⟨⟨U5, c5, rfl⟩, rfl⟩
        refine wl_f (f_assign rfl) ?_
        refine wl_pick [2] rfl ?_
        refine wl_end [(4, _), (21, _), (22, _), (23, _)] ⟨rfl, rfl, rfl, rfl, trivial⟩ ?_
        refine w_reg ?_
        refine wl_f (f_add rfl rfl (by omega)) ?_
        refine wl_f (f_move rfl) ?_
        refine wl_end [(4, _), (21, _), (22, _), (23, _)] ⟨rfl, rfl, rfl, rfl, trivial⟩ ?_
        have hs : E.take (i + 1) = E.take i ++ [x] := by rw [List.take_add_one, hxi]; rfl
        refine ⟨k - 1, by omega, i + 1, .slice U5 ((venc E.length ++ evsB (E.take i)).length + (evE x).1.length) c5, rfl, ?_, by omega, fun y hy => ?_⟩
        · rw [hs, evsB_snoc, ← List.append_assoc, show bv (venc E.length ++ evsB (E.take i) ++ (evE x).1) = bv (venc E.length ++ evsB (E.take i)) ++ bv (evE x).1 from bv_app _ _, List.length_append (bs := (evE x).1)]
          rfl
        · rw [hs] at hy
          rcases List.mem_append.1 hy with hy | hy
          · exact hall y hy
          · simp at hy; subst hy; exact Classical.not_not.1 hc3
    · skip
      obtain rfl : i = E.length := by omega
      rw [List.take_length] at hall ⊢
      have h1 := firstE_all hall
      have hel := evsB_len E
      refine w_with fun hh => ?_
      obtain ⟨U6, c6, rfl⟩ := row_slice hh (i := 0) rfl
      clear hh
      refine w_exit0 ?_
      refine w_seq ?_
      refine w_seq ?_
      refine w_reg ?_
      refine wl_f (f_move rfl) ?_
      refine wl_f (f_len rfl Try.underlying22) ?_
      refine wl_f (f_gtr rfl rfl) ?_
      refine wl_end [(4, _), (41, _)] ⟨rfl, rfl, trivial⟩ ?_
      refine w_ifd rfl (fun hc4 => ?_) (fun hc4 => ?_)
      · skip
        refine w_drop [] (List.nil_sublist _) ?_
        refine w_nilrow 5 1 ?_
        refine w_seq ?_
        refine w_reg ?_
        refine wl_f (f_assign rfl) ?_
        refine wl_f (f_assign rfl) ?_
        refine wl_end [(2, _), (3, _)] ⟨rfl, rfl, trivial⟩ ?_
        refine w_ret ?_
        refine ⟨_, _, fun a ha hh => results_tmps Try.results15 rfl a ha _, List.Sublist.refl _, ?_⟩
        exact ⟨_, by rw [hbo, if_neg (by omega), if_pos (by omega)]; rfl, by rw [hbo, if_neg (by omega), if_pos (by omega)]; rfl⟩
      · skip
        refine w_skip ?_
        refine w_seq ?_
        refine w_reg ?_
        refine wl_f (f_move rfl) ?_
        refine wl_f (f_assign rfl) ?_
        refine wl_f (f_assign rfl) ?_
        refine wl_end [(2, _), (3, _)] ⟨rfl, rfl, trivial⟩ ?_
        refine w_ret ?_
        refine ⟨_, _, fun a ha hh => results_tmps Try.results15 rfl a ha _, List.Sublist.refl _, ?_⟩
        exact ⟨_, by rw [hbo, if_neg (by omega), if_neg (by omega)]; rfl, by rw [hbo, if_neg (by omega), if_neg (by omega)]⟩
set_option maxHeartbeats 1000000 in
theorem rbody_spec : BodySpec 9 := by
  intro v E w hx hn
  obtain ⟨A, c, rfl, hxl, hxc, hxA⟩ := id hx.1
  refine enter (n := 43) Try.func9 rfl rfl [(0, _)] rfl ⟨rfl, trivial⟩ (Holds.start _ _) ?_
  refine w_seq ?_
  refine w_reg ?_
  refine wl_f (f_assign rfl) ?_
  refine wl_f (f_assign rfl) ?_
  refine wl_end [(0, _)] ⟨rfl, trivial⟩ ?_
  refine w_seq ?_
  refine w_seq ?_
  refine w_reg ?_
  refine wl_f (f_move rfl) ?_
  refine wl_f (f_len rfl Try.underlying28) ?_
  refine wl_f (f_eql rfl rfl) ?_
  refine wl_f (f_move rfl) ?_
  refine wl_or (j := 3) (c := decide ((64 : Int) < (E.length : Int))) 3 [(0, _)] ⟨rfl, trivial⟩ rfl rfl rfl rfl rfl (fun hg1_7 => ?_) (fun w1_7 => ?_)
  · skip
    refine wl_gf rfl rfl (f_move rfl) ?_
    refine wl_gf rfl rfl (f_len rfl Try.underlying28) ?_
    refine wl_gf rfl rfl (f_gtr rfl rfl) ?_
    exact wl_pend rfl rfl ⟨rfl, trivial⟩ (List.Sublist.refl _)
  refine wl_end [(0, _), (16, _)] ⟨rfl, rfl, trivial⟩ ?_
  refine w_ifb rfl (fun hc1 => ?_) (fun hc1 => ?_)
  · skip
    simp only [Bool.or_eq_true, decide_eq_true_eq] at hc1
    refine w_nilrow 5 1 ?_
    refine w_seq ?_
    refine w_reg ?_
    refine wl_f (f_assign rfl) ?_
    refine wl_f (f_assign rfl) ?_
    refine wl_end [(2, _), (3, _)] ⟨rfl, rfl, trivial⟩ ?_
    refine w_ret ?_
    refine ⟨_, _, fun a ha hh => results_tmps Try.results9 rfl a ha _, List.Sublist.refl _, ?_⟩
    exact ⟨_, by rw [bodyOut, if_pos (by omega)]; rfl, by rw [bodyOut, if_pos (by omega)]; rfl⟩
  · skip
    simp only [Bool.or_eq_true, decide_eq_true_eq, not_or] at hc1
    have hbo : bodyOut E = if firstE E ≠ 0 then ([], firstE E) else if 4096 < (venc E.length ++ evsB E).length then ([], 4) else (venc E.length ++ evsB E, 0) := by rw [bodyOut, if_neg (by omega)]
    have hvl := venc_len E.length
    refine w_skip ?_
    refine w_seq ?_
    refine w_reg ?_
    refine wl_f (f_move rfl) ?_
    refine wl_f (f_len rfl Try.underlying28) ?_
    refine wl_f (f_convu rfl Try.underlying3 Try.underlying38 (by omega)) ?_
    refine wl_e (e_call0 rfl Try.func22 (by kernel_rfl) (fun w hh => rappend_spec (.slice .none 0 0) [] E.length w (Rd.nil _ _ _) (by simp) (by omega))) ?_
    rintro V _ w1 ⟨_, rfl, rfl⟩
    refine wl_f (f_assign rfl) ?_
    refine wl_end [(0, _), (4, _)] ⟨rfl, rfl, trivial⟩ ?_
    refine w_seq ?_
    refine w_seq ?_
    refine w_reg ?_
    refine wl_f (f_move rfl) ?_
    refine wl_f (f_len rfl Try.underlying28) ?_
    refine wl_f (f_move rfl) ?_
    refine wl_end [(4, _), (21, _), (22, _), (23, _)] ⟨rfl, rfl, rfl, rfl, trivial⟩ ?_
    refine w_block ?_
    refine w_loop (fun k m H w' => ∃ (i : Nat) (V : Value), m = [(4, V), (21, .slice A E.length c), (22, .int .i64 E.length), (23, .int .i64 i)] ∧ H = [row V 5 1 (venc E.length ++ evsB (E.take i)).length (bv (venc E.length ++ evsB (E.take i)))] ∧ k + i = E.length ∧ ∀ y ∈ E.take i, (evE y).2 = 0) E.length
      ⟨0, V, rfl, by simp [evsB], rfl, by simp⟩ ?_
    rintro k _ _ w2 ⟨i, V2, rfl, rfl, hk, hall⟩
    refine w_seq ?_
    refine w_reg ?_
    refine wl_f (f_lss rfl rfl) ?_
    refine wl_end [(4, _), (21, _), (22, _), (23, _), (24, _)] ⟨rfl, rfl, rfl, rfl, rfl, trivial⟩ ?_
    refine w_seq ?_
    refine w_ifd rfl (fun hc2 => ?_) (fun hc2 => ?_)
    · skip
      have hi : i < E.length := by omega
      obtain ⟨x, hxi⟩ : ∃ x, E[i]? = some x := ⟨_, List.getElem?_eq_getElem hi⟩
      obtain ⟨b2, off, rfl, _, _, hcell⟩ := hxA.resolve_left (by omega)
      obtain ⟨hx1, hx2, hx3, hx4⟩ := hx.2 x (List.mem_of_getElem? hxi)
      obtain ⟨S, cs, e, _⟩ := id hx1
      have hel := evsB_len (E.take i)
      rw [List.length_take] at hel
      have hxe : (evE x).1.length ≤ 100000 := encEv_len
      have hlen : (venc E.length ++ evsB (E.take i)).length ≤ 7000000 := by rw [List.length_append]; omega
      refine w_skip ?_
      refine w_seq ?_
      refine w_block ?_
      refine w_seq ?_
      refine w_reg ?_
      refine wl_f (f_indexAddr 3 (i := i) rfl rfl Try.underlying28 (by kernel_rfl) rfl hi) ?_
      refine wl_f (f_loadso (cs := [x.1, .int .i64 x.2.2.1, .int .u64 (x.2.2.2 : Int)]) rfl Try.underlying40 rfl (by kernel_rfl) (fun j u hu => by
        have h := ecells_get hxi
        rw [← h, List.getElem?_take] at hu
        split at hu
        · rw [List.getElem?_drop, Nat.zero_add] at hu
          have := hcell (i * 3 + j) u hu
          rwa [← Nat.add_assoc] at this
        · cases hu) id) ?_
      refine wl_e (e_allocs [.slice .none 0 0, .int .i64 0, .int .u64 0] (by kernel_rfl)) ?_
      rintro _ _ w6_2 ⟨b6_2, rfl, rfl⟩
      rw [e]
      (first | refine wl_e0 (e_store0 (us := [_, _, _]) rfl rfl rfl (by kernel_rfl) (by simp [Value.oneCell']) rfl rfl) ?_ | refine wl_e0 (e_store1 (us := [_, _, _]) rfl rfl rfl (by kernel_rfl) (by simp [Value.oneCell']) rfl rfl) ?_ | refine wl_e0 (e_store2 (us := [_, _, _]) rfl rfl rfl (by kernel_rfl) (by simp [Value.oneCell']) rfl rfl) ?_ | refine wl_e0 (e_store3 (us := [_, _, _]) rfl rfl rfl (by kernel_rfl) (by simp [Value.oneCell']) rfl rfl) ?_)
      rintro _ _ w6_3 rfl
      refine wl_end [(4, _), (6, _), (21, _), (22, _), (23, _)] ⟨rfl, rfl, rfl, rfl, rfl, trivial⟩ ?_
      refine w_seq ?_
      refine w_reg ?_
      refine wl_f (f_loadsb (cs := [_, _, _]) 0 rfl Try.underlying40 rfl (by kernel_rfl) rfl rfl) ?_
      refine wl_e (e_call0 rfl Try.func23 (by kernel_rfl) (fun w hh => by have h := rencode_spec x.1 x.2.1 x.2.2.1 x.2.2.2 w (hx1.old0 hh) hx2 hx3 hx4; rw [e] at h; exact h)) ?_
      rintro _ _ w3 ⟨_, rfl, V3, rfl, rfl, _⟩
      refine wl_f (f_move rfl) ?_
      refine wl_f (f_extract rfl rfl) ?_
      refine wl_f (f_extract rfl rfl) ?_
      refine wl_f (f_assign rfl) ?_
      refine wl_f (f_assign rfl) ?_
      refine wl_end [(4, _), (7, _), (8, _), (21, _), (22, _), (23, _)] ⟨rfl, rfl, rfl, rfl, rfl, rfl, trivial⟩ ?_
      refine w_seq ?_
      refine w_seq ?_
      refine w_reg ?_
      refine wl_f (f_move rfl) ?_
      refine wl_f (f_neq rfl rfl) ?_
      refine wl_end [(4, _), (7, _), (8, _), (21, _), (22, _), (23, _), (33, _)] ⟨rfl, rfl, rfl, rfl, rfl, rfl, rfl, trivial⟩ ?_
      refine w_ifd rfl (fun hc3 => ?_) (fun hc3 => ?_)
      · skip
        refine w_drop [] (List.nil_sublist _) ?_
        refine w_nilrow 5 1 ?_
        refine w_seq ?_
        refine w_reg ?_
        refine wl_f (f_move rfl) ?_
        refine wl_f (f_assign rfl) ?_
        refine wl_f (f_assign rfl) ?_
        refine wl_end [(2, _), (3, _)] ⟨rfl, rfl, trivial⟩ ?_
        refine w_ret ?_
        refine ⟨_, _, fun a ha hh => results_tmps Try.results9 rfl a ha _, List.Sublist.refl _, ?_⟩
        have h1 := firstE_at hall hxi hc3
        have h2 : firstE E ≠ 0 := by rw [h1]; exact hc3
        exact ⟨_, by rw [hbo, if_pos h2, h1]; rfl, by rw [hbo, if_pos h2]; rfl⟩
      · skip
        refine w_skip ?_
        refine w_reg ?_
        refine wl_f (f_move rfl) ?_
        refine wl_f (f_move rfl) ?_
        refine wl_e (e_appN 2 t22 rfl rfl rfl (fun w hh => Rd.held0 hh (i := 0) rfl) (bv_one _) (by show (_ + (evE x).1.length) * 1 ≤ _; omega) (by show _ + (evE x).1.length ≤ _; omega)) ?_
        rintro _ _ w5 ⟨⟨U5, c5, rfl⟩, rfl⟩
        refine wl_f (f_assign rfl) ?_
        refine wl_pick [2] rfl ?_
        refine wl_end [(4, _), (21, _), (22, _), (23, _)] ⟨rfl, rfl, rfl, rfl, trivial⟩ ?_
        refine w_reg ?_
        refine wl_f (f_add rfl rfl (by omega)) ?_
        refine wl_f (f_move rfl) ?_
        refine wl_end [(4, _), (21, _), (22, _), (23, _)] ⟨rfl, rfl, rfl, rfl, trivial⟩ ?_
        have hs : E.take (i + 1) = E.take i ++ [x] := by rw [List.take_add_one, hxi]; rfl
        refine ⟨k - 1, by omega, i + 1, .slice U5 ((venc E.length ++ evsB (E.take i)).length + (evE x).1.length) c5, rfl, ?_, by omega, fun y hy => ?_⟩
        · rw [hs, evsB_snoc, ← List.append_assoc, show bv (venc E.length ++ evsB (E.take i) ++ (evE x).1) = bv (venc E.length ++ evsB (E.take i)) ++ bv (evE x).1 from bv_app _ _, List.length_append (bs := (evE x).1)]
          rfl
        · rw [hs] at hy
          rcases List.mem_append.1 hy with hy | hy
          · exact hall y hy
          · simp at hy; subst hy; exact Classical.not_not.1 hc3
    · skip
      obtain rfl : i = E.length := by omega
      rw [List.take_length] at hall ⊢
      have h1 := firstE_all hall
      have hel := evsB_len E
      refine w_with fun hh => ?_
      obtain ⟨U6, c6, rfl⟩ := row_slice hh (i := 0) rfl
      clear hh
      refine w_exit0 ?_
      refine w_seq ?_
      refine w_seq ?_
      refine w_reg ?_
      refine wl_f (f_move rfl) ?_
      refine wl_f (f_len rfl Try.underlying22) ?_
      refine wl_f (f_gtr rfl rfl) ?_
      refine wl_end [(4, _), (41, _)] ⟨rfl, rfl, trivial⟩ ?_
      refine w_ifd rfl (fun hc4 => ?_) (fun hc4 => ?_)
      · skip
        refine w_drop [] (List.nil_sublist _) ?_
        refine w_nilrow 5 1 ?_
        refine w_seq ?_
        refine w_reg ?_
        refine wl_f (f_assign rfl) ?_
        refine wl_f (f_assign rfl) ?_
        refine wl_end [(2, _), (3, _)] ⟨rfl, rfl, trivial⟩ ?_
        refine w_ret ?_
        refine ⟨_, _, fun a ha hh => results_tmps Try.results9 rfl a ha _, List.Sublist.refl _, ?_⟩
        exact ⟨_, by rw [hbo, if_neg (by omega), if_pos (by omega)]; rfl, by rw [hbo, if_neg (by omega), if_pos (by omega)]; rfl⟩
      · skip
        refine w_skip ?_
        refine w_seq ?_
        refine w_reg ?_
        refine wl_f (f_move rfl) ?_
        refine wl_f (f_assign rfl) ?_
        refine wl_f (f_assign rfl) ?_
        refine wl_end [(2, _), (3, _)] ⟨rfl, rfl, trivial⟩ ?_
        refine w_ret ?_
        refine ⟨_, _, fun a ha hh => results_tmps Try.results9 rfl a ha _, List.Sublist.refl _, ?_⟩
        exact ⟨_, by rw [hbo, if_neg (by omega), if_neg (by omega)]; rfl, by rw [hbo, if_neg (by omega), if_neg (by omega)]⟩

theorem frame_spec : FrameSpec 18 := by
  intro v E w hx hn
  have hle := bodyOut_le E
  refine enter (n := 20) Try.func18 rfl rfl [(0, _)] rfl ⟨rfl, trivial⟩ (Holds.start _ _) ?_
  refine w_seq ?_
  refine w_reg ?_
  refine wl_f (f_assign rfl) ?_
  refine wl_f (f_assign rfl) ?_
  refine wl_end [(0, _)] ⟨rfl, trivial⟩ ?_
  refine w_seq ?_
  refine w_reg ?_
  refine wl_f (f_move rfl) ?_
  refine wl_e (e_call0 rfl Try.func15 (by kernel_rfl) (fun w hh => body_spec v E w (hx.old0 hh) hn)) ?_
  rintro _ _ w1 ⟨_, rfl, V, rfl, rfl⟩
  refine wl_with fun hh => ?_
  obtain ⟨U, cu, rfl⟩ := row_slice hh (i := 0) rfl
  clear hh
  refine wl_f (f_move rfl) ?_
  refine wl_f (f_extract rfl rfl) ?_
  refine wl_f (f_extract rfl rfl) ?_
  refine wl_f (f_assign rfl) ?_
  refine wl_f (f_assign rfl) ?_
  refine wl_end [(4, _), (5, _)] ⟨rfl, rfl, trivial⟩ ?_
  refine w_seq ?_
  refine w_seq ?_
  refine w_reg ?_
  refine wl_f (f_move rfl) ?_
  refine wl_f (f_neq rfl rfl) ?_
  refine wl_end [(4, _), (5, _), (12, _)] ⟨rfl, rfl, rfl, trivial⟩ ?_
  refine w_ifd rfl (fun hc1 => ?_) (fun hc1 => ?_)
  · skip
    refine w_drop [] (List.nil_sublist _) ?_
    refine w_nilrow 5 1 ?_
    refine w_seq ?_
    refine w_reg ?_
    refine wl_f (f_move rfl) ?_
    refine wl_f (f_assign rfl) ?_
    refine wl_f (f_assign rfl) ?_
    refine wl_end [(2, _), (3, _)] ⟨rfl, rfl, trivial⟩ ?_
    refine w_ret ?_
    refine ⟨_, _, fun a ha hh => results_tmps Try.results18 rfl a ha _, List.Sublist.refl _, ?_⟩
    exact ⟨_, by rw [frameOut, if_pos hc1]; rfl, by rw [frameOut, if_pos hc1]; rfl⟩
  · skip
    refine w_skip ?_
    refine w_seq ?_
    refine w_reg ?_
    refine wl_f (f_move rfl) ?_
    refine wl_f (f_len rfl Try.underlying22) ?_
    refine wl_f (f_convu rfl Try.underlying3 Try.underlying38 (by omega)) ?_
    refine wl_e (e_call0 rfl Try.func32 (by kernel_rfl) (fun w hh => append_spec (.slice .none 0 0) [] (bodyOut E).1.length w (Rd.nil _ _ _) (by simp) (by omega))) ?_
    rintro V2 _ w2 ⟨_, rfl, rfl⟩
    have hvl := venc_len (bodyOut E).1.length
    refine wl_f (f_move rfl) ?_
    refine wl_e (e_app0 t22 rfl rfl (fun w hh => Rd.held0 hh (i := 1) rfl) (bv_one _) (by simp; omega) (by simp; omega)) ?_
    rintro v4_5 _ w4_5 rfl
    refine wl_f (f_assign rfl) ?_
    refine wl_f (f_assign rfl) ?_
    refine wl_end [(2, _), (3, _)] ⟨rfl, rfl, trivial⟩ ?_
    refine w_pick [0] rfl (w_ret ?_)
    refine ⟨_, _, fun a ha hh => results_tmps Try.results18 rfl a ha _, List.Sublist.refl _, ?_⟩
    exact ⟨_, by rw [frameOut, if_neg hc1]; rfl, by rw [frameOut, if_neg hc1]; simp [bv]⟩
theorem rframe_spec : FrameSpec 19 := by
  intro v E w hx hn
  have hle := bodyOut_le E
  refine enter (n := 20) Try.func19 rfl rfl [(0, _)] rfl ⟨rfl, trivial⟩ (Holds.start _ _) ?_
  refine w_seq ?_
  refine w_reg ?_
  refine wl_f (f_assign rfl) ?_
  refine wl_f (f_assign rfl) ?_
  refine wl_end [(0, _)] ⟨rfl, trivial⟩ ?_
  refine w_seq ?_
  refine w_reg ?_
  refine wl_f (f_move rfl) ?_
  refine wl_e (e_call0 rfl Try.func9 (by kernel_rfl) (fun w hh => rbody_spec v E w (hx.old0 hh) hn)) ?_
  rintro _ _ w1 ⟨_, rfl, V, rfl, rfl⟩
  refine wl_with fun hh => ?_
  obtain ⟨U, cu, rfl⟩ := row_slice hh (i := 0) rfl
  clear hh
  refine wl_f (f_move rfl) ?_
  refine wl_f (f_extract rfl rfl) ?_
  refine wl_f (f_extract rfl rfl) ?_
  refine wl_f (f_assign rfl) ?_
  refine wl_f (f_assign rfl) ?_
  refine wl_end [(4, _), (5, _)] ⟨rfl, rfl, trivial⟩ ?_
  refine w_seq ?_
  refine w_seq ?_
  refine w_reg ?_
  refine wl_f (f_move rfl) ?_
  refine wl_f (f_neq rfl rfl) ?_
  refine wl_end [(4, _), (5, _), (12, _)] ⟨rfl, rfl, rfl, trivial⟩ ?_
  refine w_ifd rfl (fun hc1 => ?_) (fun hc1 => ?_)
  · skip
    refine w_drop [] (List.nil_sublist _) ?_
    refine w_nilrow 5 1 ?_
    refine w_seq ?_
    refine w_reg ?_
    refine wl_f (f_move rfl) ?_
    refine wl_f (f_assign rfl) ?_
    refine wl_f (f_assign rfl) ?_
    refine wl_end [(2, _), (3, _)] ⟨rfl, rfl, trivial⟩ ?_
    refine w_ret ?_
    refine ⟨_, _, fun a ha hh => results_tmps Try.results19 rfl a ha _, List.Sublist.refl _, ?_⟩
    exact ⟨_, by rw [frameOut, if_pos hc1]; rfl, by rw [frameOut, if_pos hc1]; rfl⟩
  · skip
    refine w_skip ?_
    refine w_seq ?_
    refine w_reg ?_
    refine wl_f (f_move rfl) ?_
    refine wl_f (f_len rfl Try.underlying22) ?_
    refine wl_f (f_convu rfl Try.underlying3 Try.underlying38 (by omega)) ?_
    refine wl_e (e_call0 rfl Try.func22 (by kernel_rfl) (fun w hh => rappend_spec (.slice .none 0 0) [] (bodyOut E).1.length w (Rd.nil _ _ _) (by simp) (by omega))) ?_
    rintro V2 _ w2 ⟨_, rfl, rfl⟩
    have hvl := venc_len (bodyOut E).1.length
    refine wl_f (f_move rfl) ?_
    refine wl_e (e_app0 t22 rfl rfl (fun w hh => Rd.held0 hh (i := 1) rfl) (bv_one _) (by simp; omega) (by simp; omega)) ?_
    rintro v4_5 _ w4_5 rfl
    refine wl_f (f_assign rfl) ?_
    refine wl_f (f_assign rfl) ?_
    refine wl_end [(2, _), (3, _)] ⟨rfl, rfl, trivial⟩ ?_
    refine w_pick [0] rfl (w_ret ?_)
    refine ⟨_, _, fun a ha hh => results_tmps Try.results19 rfl a ha _, List.Sublist.refl _, ?_⟩
    exact ⟨_, by rw [frameOut, if_neg hc1]; rfl, by rw [frameOut, if_neg hc1]; simp [bv]⟩
end Go.Proofs.Ythbjjfpikfmmnaa
