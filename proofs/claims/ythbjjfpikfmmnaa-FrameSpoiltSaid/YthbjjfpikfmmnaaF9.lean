/- The law FrameEach: the call returns true. -/
import Derived.Test.YthbjjfpikfmmnaaF8
namespace Go.Proofs.Ythbjjfpikfmmnaa
open Go.RowKit

def inpE (most : Int) (x : Ev) : In := inpF most x.2.1 x.2.2.1 x.2.2.2
theorem evE_dec {x : Ev} (h : deckEv 50 x) (after : List Nat) : decF ((evE x).1 ++ after) = ((x.2.1, x.2.2.1.toNat, x.2.2.2, (evE x).1.length), 0) := by
  have h1 := evE_deck h
  exact (decF_enc (bl := (evE x).1) after (by show encEv _ _ _ = _; rw [← evE_ok h]; rfl) h.2.2.2.2).1
theorem inpsF_evs (most : Int) : ∀ (E : List Ev) (rest : List Nat), (∀ x ∈ E, deckEv 50 x) → inpsF most E.length (evsB E ++ rest) = (E.map (inpE most), rest, true)
  | [], rest, _ => by simp [inpsF, evsB]
  | x :: E, rest, h => by
    have hx := h x (List.mem_cons_self ..)
    have h1 := evE_dec hx (evsB E ++ rest)
    have h2 := inpsF_evs most E rest fun y hy => h y (List.mem_cons_of_mem _ hy)
    have h3 : evsB (x :: E) ++ rest = (evE x).1 ++ (evsB E ++ rest) := by simp [evsB]
    have h4 : ((x.2.2.1.toNat : Nat) : Int) = x.2.2.1 := by have := hx.2.2.1; omega
    rw [h3, List.length_cons, inpsF, h1, if_neg (by simp)]
    dsimp only
    rw [List.drop_left, h2, h4]
    rfl
theorem readF_deck (most : Int) {E : List Ev} (h1 : 1 ≤ E.length) (h2 : E.length ≤ 12) (h : ∀ x ∈ E, deckEv 50 x) : readF (venc E.length ++ evsB E) most = E.map (inpE most) := by
  have h3 := inpsF_evs most E [] h
  rw [List.append_nil] at h3
  unfold readF
  rw [readL_venc _ _ (by omega)]
  dsimp only
  rw [if_neg (by omega), List.drop_left, h3]
  rfl
theorem keyOut_le (l : List Tg) : (keyOut l).1.length ≤ 255 := by
  unfold keyOut
  split
  · simp
  split
  · simp
  · show (keyB (isort l)).length ≤ 255; omega
theorem itemOut_cases (tg : List Tg) (t : Int) (wt : Nat) : (∃ e, e ≠ 0 ∧ itemOut tg t wt = (([], 0, 0), e)) ∨ itemOut tg t wt = (((keyOut tg).1, t, wt), 0) := by
  unfold itemOut
  split
  · exact .inl ⟨1, by decide, rfl⟩
  split
  · rename_i h; exact .inl ⟨_, h, rfl⟩
  · exact .inr rfl
theorem inpF_255 (tg : List Tg) (t : Int) (wt : Nat) : inpF 255 tg t wt = ((itemOut tg t wt).1, verd (itemOut tg t wt).2) := by
  have hk := keyOut_le tg
  unfold inpF
  rcases itemOut_cases tg t wt with ⟨e, he, h⟩ | h
  · rw [h, if_pos he]
  · rw [h, if_neg (by simp), if_neg (by dsimp only; omega)]
    rfl
theorem incells_item {l : List In} {i : Nat} {x : In} (h : l[i]? = some x) : ((incells l).drop (0 + i * 4)).take 3 = [.string (str x.1.1), .int .i64 x.1.2.1, .int .u64 (x.1.2.2 : Int)] := by
  have h1 := congrArg (List.take 3) (incells_get h)
  rw [List.take_take] at h1
  exact h1
theorem incells_verd {l : List In} {i : Nat} {x : In} (h : l[i]? = some x) : (incells l)[0 + i * 4 + 3]? = some (.int .i64 x.2) := by
  have h1 : (((incells l).drop (0 + i * 4)).take 4)[3]? = some (.int .i64 x.2) := by rw [incells_get h]; rfl
  rw [List.getElem?_take, if_pos (by omega), List.getElem?_drop] at h1
  exact h1
theorem neqItem_self (s : ByteArray) (t u : Int) (w : World) : (binOp .neq 42 (.agg [.string s, .int .i64 t, .int .u64 u].toArray) (.agg [.string s, .int .i64 t, .int .u64 u].toArray)).run Try.prog w = .ok (.bool false) w := by
  rw [neqItem]; simp

set_option maxHeartbeats 4000000 in
theorem frameEach_spec (D : Option Addr) (dc : Nat) (L : List Int) (w : World) (hd : Rd w Nil 1 (.slice D L.length dc) L.length (iv L)) (hL : L.length ≤ 140737488355328) :
    Spec Try.prog 4 [.slice D L.length dc] w Nil fun r _ => r = .bool true := by
  refine enter (n := 59) Try.func4 rfl rfl [(0, _)] rfl ⟨rfl, trivial⟩ (Holds.start _ _) ?_
  refine w_seq ?_
  refine w_reg ?_
  refine wl_f (f_assign rfl) ?_
  refine wl_end [(0, _)] ⟨rfl, trivial⟩ ?_
  refine w_seq ?_
  refine w_reg ?_
  refine wl_f (f_move rfl) ?_
  refine wl_e (e_call0 rfl Try.func10 (by kernel_rfl) (fun w hh => new_spec D _ dc w)) ?_
  rintro _ _ w1 ⟨_, rfl, b1, rfl, rfl⟩
  refine wl_e (e_call1 (deck b1 (.slice D L.length dc) 0) [] rfl Try.func11 (by kernel_rfl) (List.Perm.refl _) (fun w hh hs' => events_spec b1 _ L 0 50 10 w (by omega) (by omega) ⟨hd.old1 hh (Hr := []) (List.Perm.refl _), hL, Nat.zero_le _⟩ hs')) ?_
  rintro V _ w2 ⟨_, rfl, E, p1, hE1, hE2, hE, rfl, hp1⟩
  refine wl_with fun hh => ?_
  obtain ⟨g1, k1, rfl⟩ := row_form hh (i := 0) rfl (by omega)
  clear hh
  refine wl_f (f_assign rfl) ?_
  refine wl_pick [0, 0] rfl ?_
  refine wl_end [(3, _)] ⟨rfl, trivial⟩ ?_
  refine w_seq ?_
  refine w_reg ?_
  refine wl_f (f_move rfl) ?_
  refine wl_e (e_call0 rfl Try.func15 (by kernel_rfl) (fun w hh => body_spec _ E w (held_rdE hh (i := 0) (j := 1) rfl rfl hE) (by omega))) ?_
  rintro _ _ w3 ⟨_, rfl, V2, rfl, rfl⟩
  have hbo := bodyOut_deck hE1 (by omega) hE
  have hle := bodyOut_le E
  have hlt := bodyOut_lt E (by omega) fun x hx => (hE x hx).2.2.2.2
  have hrd := readF_deck 255 hE1 (by omega) hE
  rw [show venc E.length ++ evsB E = (bodyOut E).1 by rw [hbo]] at hrd
  have hb0 : (bodyOut E).2 = 0 := by rw [hbo]
  generalize bodyOut E = B at hle hlt hb0 hrd ⊢
  obtain ⟨B, e⟩ := B
  dsimp only at hle hlt hb0 hrd ⊢
  subst hb0
  refine wl_with fun hh => ?_
  obtain ⟨A2, c2, rfl⟩ := row_slice hh (i := 0) rfl
  clear hh
  refine wl_f (f_move rfl) ?_
  refine wl_f (f_extract rfl rfl) ?_
  refine wl_f (f_extract rfl rfl) ?_
  refine wl_f (f_assign rfl) ?_
  refine wl_f (f_assign rfl) ?_
  refine wl_end [(3, _), (4, _), (5, _)] ⟨rfl, rfl, rfl, trivial⟩ ?_
  refine w_seq ?_
  refine w_seq ?_
  refine w_reg ?_
  refine wl_f (f_move rfl) ?_
  refine wl_f (f_neq rfl rfl) ?_
  refine wl_end [(3, _), (4, _), (20, _)] ⟨rfl, rfl, rfl, trivial⟩ ?_
  refine w_ifb rfl (fun h => absurd h (by simp)) (fun _ => ?_)
  refine w_skip ?_
  refine w_seq ?_
  refine w_reg ?_
  refine wl_f (f_move rfl) ?_
  refine wl_e (e_call0 rfl Try.func13 (by kernel_rfl) (fun w hh => readIn_spec A2 c2 B 255 w (Rd.held0 hh (i := 0) rfl) (by omega) hlt)) ?_
  rintro V4 _ w4 ⟨_, rfl, rfl⟩
  rw [hrd]
  have hil : (E.map (inpE 255)).length = E.length := List.length_map ..
  have hie : ∀ {i x}, E[i]? = some x → (E.map (inpE 255))[i]? = some (inpE 255 x) := fun h => by rw [List.getElem?_map, h]; rfl
  generalize E.map (inpE 255) = I at hil hie ⊢
  refine wl_with fun hh => ?_
  obtain ⟨g4, k4, rfl⟩ := row_form hh (i := 0) rfl (by omega)
  clear hh
  refine wl_f (f_assign rfl) ?_
  refine wl_pick [0, 1, 1] rfl ?_
  refine wl_end [(3, _), (6, _)] ⟨rfl, rfl, trivial⟩ ?_
  refine w_seq ?_
  refine w_seq ?_
  refine w_reg ?_
  refine wl_f (f_move rfl) ?_
  refine wl_f (f_len rfl Try.underlying34) ?_
  refine wl_f (f_move rfl) ?_
  refine wl_f (f_len rfl Try.underlying28) ?_
  refine wl_f (f_neq rfl rfl) ?_
  refine wl_end [(3, _), (6, _), (27, _)] ⟨rfl, rfl, rfl, trivial⟩ ?_
  refine w_ifb rfl (fun h => absurd h (by simp; omega)) (fun _ => ?_)
  refine w_skip ?_
  refine w_seq ?_
  refine w_seq ?_
  refine w_reg ?_
  refine wl_f (f_move rfl) ?_
  refine wl_f (f_len rfl Try.underlying28) ?_
  refine wl_f (f_move rfl) ?_
  refine wl_end [(6, _), (28, _), (29, _), (30, _)] ⟨rfl, rfl, rfl, rfl, trivial⟩ ?_
  refine w_block ?_
  refine w_loop (fun k m H w' => ∃ i : Nat, m = [(6, .slice (some ⟨g4, 0, .none⟩) I.length k4), (28, .slice (some ⟨g1, 0, .none⟩) E.length k1), (29, .int .i64 E.length), (30, .int .i64 i)] ∧
    H = [row (.slice (some ⟨g4, 0, .none⟩) I.length k4) 46 4 I.length (incells I), row (.slice (some ⟨g1, 0, .none⟩) E.length k1) 40 3 E.length (ecells E), bun (E.map trow)] ∧ k + i = E.length) E.length ⟨0, rfl, rfl, rfl⟩ ?_
  rintro k _ _ w5 ⟨i, rfl, rfl, hk⟩
  refine w_seq ?_
  refine w_reg ?_
  refine wl_f (f_lss rfl rfl) ?_
  refine wl_end [(6, _), (28, _), (29, _), (30, _), (31, _)] ⟨rfl, rfl, rfl, rfl, rfl, trivial⟩ ?_
  refine w_seq ?_
  refine w_ifd rfl (fun hc3 => ?_) (fun hc3 => ?_)
  · skip
    have hi : i < E.length := by omega
    obtain ⟨⟨x1, tg, t, wt⟩, hxi⟩ : ∃ x, E[i]? = some x := ⟨_, List.getElem?_eq_getElem hi⟩
    have hxd := hE _ (List.mem_of_getElem? hxi)
    have hx1 : tg.length ≤ 3 := hxd.1.1
    have hx2 : ∀ y ∈ tg, y.1.size ≤ 20 ∧ y.2.size ≤ 70 := hxd.1.2
    have hbi : (E.map trow)[i]? = some (row x1 52 2 tg.length (tcells tg)) := by rw [List.getElem?_map, hxi]; rfl
    refine w_with fun hh => ?_
    obtain ⟨S, cs, rfl, _⟩ := Rd.heldB hh (i := 2) (j := i) rfl hbi
    clear hh
    have hIi : I[i]? = some ((itemOut tg t wt).1, verd (itemOut tg t wt).2) := by rw [hie hxi]; exact congrArg some (inpF_255 tg t wt)
    refine w_skip ?_
    refine w_seq ?_
    refine w_block ?_
    refine w_seq ?_
    refine w_reg ?_
    refine wl_f (f_move rfl) ?_
    refine wl_f (f_indexAddr 3 (i := i) rfl rfl Try.underlying28 (by kernel_rfl) rfl hi) ?_
    refine wl_f (f_loadsr (cs := [.slice S tg.length cs, .int .i64 t, .int .u64 (wt : Int)]) 1 rfl Try.underlying40 rfl (by kernel_rfl) rfl (ecells_get hxi)) ?_
    refine wl_e (e_allocs [.slice .none 0 0, .int .i64 0, .int .u64 0] (by kernel_rfl)) ?_
    rintro _ _ w10_3 ⟨b10_3, rfl, rfl⟩
    refine wl_f (f_assign rfl) ?_
    (first | refine wl_e0 (e_store0 (us := [_, _, _]) rfl rfl rfl (by kernel_rfl) (by simp [Value.oneCell']) rfl rfl) ?_ | refine wl_e0 (e_store1 (us := [_, _, _]) rfl rfl rfl (by kernel_rfl) (by simp [Value.oneCell']) rfl rfl) ?_ | refine wl_e0 (e_store2 (us := [_, _, _]) rfl rfl rfl (by kernel_rfl) (by simp [Value.oneCell']) rfl rfl) ?_ | refine wl_e0 (e_store3 (us := [_, _, _]) rfl rfl rfl (by kernel_rfl) (by simp [Value.oneCell']) rfl rfl) ?_)
    rintro _ _ w10_5 rfl
    refine wl_end [(6, _), (7, _), (8, _), (28, _), (29, _), (30, _)] ⟨rfl, rfl, rfl, rfl, rfl, rfl, trivial⟩ ?_
    refine w_seq ?_
    refine w_reg ?_
    (first | refine wl_f (f_loadsb (cs := [_, _, _]) 0 rfl Try.underlying40 rfl (by kernel_rfl) rfl rfl) ?_ | refine wl_f (f_loadsb (cs := [_, _, _]) 1 rfl Try.underlying40 rfl (by kernel_rfl) rfl rfl) ?_ | refine wl_f (f_loadsb (cs := [_, _, _]) 2 rfl Try.underlying40 rfl (by kernel_rfl) rfl rfl) ?_ | refine wl_f (f_loadsb (cs := [_, _, _]) 3 rfl Try.underlying40 rfl (by kernel_rfl) rfl rfl) ?_ | refine wl_f (f_loadsb (cs := [_, _, _]) 4 rfl Try.underlying40 rfl (by kernel_rfl) rfl rfl) ?_ | refine wl_f (f_loadsb (cs := [_, _, _]) 5 rfl Try.underlying40 rfl (by kernel_rfl) rfl rfl) ?_ | refine wl_f (f_loadsb (cs := [_, _, _]) 6 rfl Try.underlying40 rfl (by kernel_rfl) rfl rfl) ?_)
    refine wl_e (e_call0 rfl Try.func16 (by kernel_rfl) (fun w hh => item_spec _ tg t wt w (Rd.heldB hh (i := 3) (j := i) rfl hbi) (by omega) (fun y hy => by have := hx2 y hy; omega))) ?_
    rintro _ _ w6 ⟨_, rfl, rfl, rfl⟩
    generalize itemOut tg t wt = O at hIi ⊢
    obtain ⟨⟨key, it, iw⟩, ie⟩ := O
    dsimp only [itemV] at hIi ⊢
    refine wl_f (f_move rfl) ?_
    refine wl_f (f_extract rfl rfl) ?_
    refine wl_f (f_extract rfl rfl) ?_
    refine wl_e (e_allocs [.string ByteArray.empty, .int .i64 0, .int .u64 0] (by kernel_rfl)) ?_
    rintro _ _ w11_5 ⟨b11_5, rfl, rfl⟩
    (first | refine wl_e0 (e_store0 (us := [_, _, _]) rfl rfl rfl (by kernel_rfl) (by simp [Value.oneCell']) rfl rfl) ?_ | refine wl_e0 (e_store1 (us := [_, _, _]) rfl rfl rfl (by kernel_rfl) (by simp [Value.oneCell']) rfl rfl) ?_ | refine wl_e0 (e_store2 (us := [_, _, _]) rfl rfl rfl (by kernel_rfl) (by simp [Value.oneCell']) rfl rfl) ?_ | refine wl_e0 (e_store3 (us := [_, _, _]) rfl rfl rfl (by kernel_rfl) (by simp [Value.oneCell']) rfl rfl) ?_)
    rintro _ _ w11_6 rfl
    refine wl_f (f_assign rfl) ?_
    refine wl_end [(6, _), (7, _), (9, _), (10, _), (28, _), (29, _), (30, _)] ⟨rfl, rfl, rfl, rfl, rfl, rfl, rfl, trivial⟩ ?_
    refine w_seq ?_
    refine w_draw [(0, true), (1, true), (2, true), (3, true), (4, true), (5, true), (6, true), (7, true), (8, true), (9, true), (10, true), (11, true), (12, true), (13, true), (14, false), (15, true), (16, true)] (_) ([]) mixed (by kernel_rfl) (by kernel_rfl) rfl (perm_all _) (fun w12_ => ?_)
    refine wd_f rfl (f_move rfl) ?_
    refine wd_f rfl (f_move rfl) ?_
    refine wd_f rfl (f_indexAddr 4 (i := i) rfl rfl Try.underlying34 (by kernel_rfl) rfl (by omega)) ?_
    refine wd_f rfl (f_fieldAddr 0 rfl Try.underlying46 rfl rfl (by kernel_rfl)) ?_
    refine wd_f rfl (f_loadsr (cs := [.string (str key), .int .i64 it, .int .u64 (iw : Int)]) 2 rfl Try.underlying42 rfl (by kernel_rfl) rfl (incells_item hIi)) ?_
    (first | refine wd_f rfl (f_loadsb (cs := [_, _, _]) 0 rfl Try.underlying42 rfl (by kernel_rfl) rfl rfl) ?_ | refine wd_f rfl (f_loadsb (cs := [_, _, _]) 1 rfl Try.underlying42 rfl (by kernel_rfl) rfl rfl) ?_ | refine wd_f rfl (f_loadsb (cs := [_, _, _]) 2 rfl Try.underlying42 rfl (by kernel_rfl) rfl rfl) ?_ | refine wd_f rfl (f_loadsb (cs := [_, _, _]) 3 rfl Try.underlying42 rfl (by kernel_rfl) rfl rfl) ?_ | refine wd_f rfl (f_loadsb (cs := [_, _, _]) 4 rfl Try.underlying42 rfl (by kernel_rfl) rfl rfl) ?_ | refine wd_f rfl (f_loadsb (cs := [_, _, _]) 5 rfl Try.underlying42 rfl (by kernel_rfl) rfl rfl) ?_ | refine wd_f rfl (f_loadsb (cs := [_, _, _]) 6 rfl Try.underlying42 rfl (by kernel_rfl) rfl rfl) ?_)
    refine wd_f rfl (f_bin rfl rfl (fun w => run_eqGuard_agg w _ _ _ _ _ _ (by kernel_rfl)) (fun w => neqItem_self _ _ _ w)) ?_
    refine wd_f rfl (f_move rfl) ?_
    refine wd_gf rfl rfl rfl (f_move rfl) ?_
    refine wd_gf rfl rfl rfl (f_move rfl) ?_
    refine wd_gf rfl rfl rfl (f_indexAddr 4 (i := i) rfl rfl Try.underlying34 (by kernel_rfl) rfl (by omega)) ?_
    refine wd_gf rfl rfl rfl (f_fieldAddr 3 rfl Try.underlying46 rfl rfl (by kernel_rfl)) ?_
    refine wd_gf rfl rfl rfl (f_loadr (v := .int .i64 (verd ie)) 2 rfl Try.underlying3 rfl rfl (incells_verd hIi)) ?_
    refine wd_gf rfl rfl rfl (f_move rfl) ?_
    refine wd_ge rfl rfl rfl (e_call0 rfl Try.func17 (by kernel_rfl) (fun w hh => verdict_spec _ w)) ?_
    rintro _ _ w7 ⟨_, rfl, rfl, rfl⟩
    refine ⟨_, List.Perm.refl _, ?_⟩
    refine wd_gf rfl rfl rfl (f_neq rfl rfl) ?_
    refine wd_f rfl (f_pick rfl rfl rfl) ?_
    refine wd_end [(6, _), (28, _), (29, _), (30, _), (56, _)] ⟨rfl, rfl, rfl, rfl, rfl, trivial⟩ ?_
    refine w_ifb rfl (fun h => absurd h (by simp)) (fun _ => w_pick [2, 2, 2] rfl ?_)
    refine w_skip ?_
    refine w_reg ?_
    refine wl_f (f_add rfl rfl (by omega)) ?_
    refine wl_f (f_move rfl) ?_
    refine wl_end [(6, _), (28, _), (29, _), (30, _)] ⟨rfl, rfl, rfl, rfl, trivial⟩ ?_
    exact ⟨k - 1, by omega, i + 1, rfl, rfl, by omega⟩
  · skip
    refine w_exit0 ?_
    refine w_seq ?_
    refine w_reg ?_
    refine wl_e (e_call0 rfl Try.func8 (by kernel_rfl) (fun w hh => fawake_spec w)) ?_
    rintro _ _ w7 ⟨_, rfl, rfl, rfl⟩
    refine wl_f (f_assign rfl) ?_
    refine wl_end [(2, _)] ⟨rfl, trivial⟩ ?_
    refine w_ret ?_
    refine ⟨_, _, fun a ha hh => results_tmps Try.results4 rfl a ha _, List.Sublist.refl _, ?_⟩
    rfl
end Go.Proofs.Ythbjjfpikfmmnaa
