/- Lists of events: the deck's, their bodies and frames. -/
import Derived.Test.YthbjjfpikfmmnaaD22
import Derived.Test.YthbjjfpikfmmnaaD24
import Derived.Test.YthbjjfpikfmmnaaD17
import Derived.Test.YthbjjfpikfmmnaaD16
import Derived.Test.YthbjjfpikfmmnaaE2
import Derived.Test.YthbjjfpikfmmnaaK11
namespace Go.Proofs.Ythbjjfpikfmmnaa
open Go.RowKit

theorem t28 : SlT Try.prog 28 40 3 40 (.agg #[.slice .none 0 0, .int .i64 0, .int .u64 0]) := .mk' Try.underlying28 (by kernel_rfl) rfl (by decide)

/-- An event with the value of its tags. -/
abbrev Ev := Value × List Tg × Int × Nat
def ecells (E : List Ev) : List Value := E.flatMap fun x => [x.1, .int .i64 x.2.2.1, .int .u64 (x.2.2.2 : Int)]
def trow (x : Ev) : Res := row x.1 52 2 x.2.1.length (tcells x.2.1)
theorem ecells_len (E : List Ev) : (ecells E).length = E.length * 3 := by
  induction E with
  | nil => rfl
  | cons x E ih => simp only [ecells, List.flatMap_cons, List.length_append, List.length_cons, List.length_nil] at ih ⊢; omega
theorem ecells_app (A B : List Ev) : ecells (A ++ B) = ecells A ++ ecells B := by simp [ecells]
theorem ecells_get {E : List Ev} {i : Nat} {x : Ev} (h : E[i]? = some x) : ((ecells E).drop (0 + i * 3)).take 3 = [x.1, .int .i64 x.2.2.1, .int .u64 (x.2.2.2 : Int)] := by
  obtain ⟨hi, rfl⟩ := List.getElem?_eq_some_iff.1 h
  have e : E = E.take i ++ E[i] :: E.drop (i + 1) := by rw [← List.drop_eq_getElem_cons hi, List.take_append_drop]
  have hl : (ecells (E.take i)).length = i * 3 := by rw [ecells_len, List.length_take]; omega
  have e2 : ecells E = ecells (E.take i) ++ ([E[i].1, .int .i64 E[i].2.2.1, .int .u64 (E[i].2.2.2 : Int)] ++ ecells (E.drop (i + 1))) := by
    conv => lhs; rw [e]
    simp only [ecells, List.flatMap_append, List.flatMap_cons]
  rw [e2, Nat.zero_add, ← hl, List.drop_left]
  rfl
/-- An event of the deck. -/
def deckEv (time : Int) (x : Ev) : Prop := smallish x.2.1 ∧ uni x.2.1 ∧ 0 ≤ x.2.2.1 ∧ x.2.2.1 ≤ time + 60 ∧ x.2.2.2 < 18446744073709551616

set_option maxHeartbeats 2000000 in
theorem events_spec (b : Nat) (lv : Value) (L : List Int) (p : Nat) (time : Int) (k : Nat) (w : World) (ht : 0 ≤ time ∧ time ≤ 1000) (hk : k ≤ 20) (hd : DRd w b lv L p) (hs : Holds w (deck b lv p).foot [deck b lv p] w) :
    Spec Try.prog 11 [.pointer (some ⟨b, 0, .none⟩), .int .i64 time, .int .i64 k] w (deck b lv p).foot fun r H => ∃ (E : List Ev) (p' : Nat), 1 ≤ E.length ∧ E.length ≤ k + 1 ∧ (∀ x ∈ E, deckEv time x) ∧
      H = [row r 40 3 E.length (ecells E), bun (E.map trow), deck b lv p'] ∧ p' ≤ L.length := by
  refine enter (n := 29) Try.func11 rfl rfl [(0, _), (1, _), (2, _)] rfl ⟨rfl, rfl, rfl, trivial⟩ hs ?_
  refine w_seq ?_
  refine w_reg ?_
  refine wl_f (f_assign rfl) ?_
  refine wl_end [(0, _), (1, _), (2, _)] ⟨rfl, rfl, rfl, trivial⟩ ?_
  refine w_seq ?_
  refine w_reg ?_
  refine wl_f (f_assign rfl) ?_
  refine wl_end [(0, _), (1, _), (2, _), (7, _)] ⟨rfl, rfl, rfl, rfl, trivial⟩ ?_
  refine w_seq ?_
  refine w_seq ?_
  refine w_reg ?_
  refine wl_f (f_move rfl) ?_
  refine wl_f (f_move rfl) ?_
  refine wl_f (f_add rfl rfl (by omega)) ?_
  refine wl_e (e_call1 (deck b lv p) [] rfl Try.func24 (by kernel_rfl) (List.Perm.refl _) (fun w hh hs' => next_spec b lv L p (k + 1) w ⟨hd.1.old1 hh (Hr := []) (List.Perm.refl _), hd.2⟩ hs' (by omega))) ?_
  rintro _ _ w1 ⟨_, rfl, z, p1, rfl, hz, rfl, hp1⟩
  refine wl_f (f_assign rfl) ?_
  refine wl_end [(0, _), (1, _), (7, _), (8, _)] ⟨rfl, rfl, rfl, rfl, trivial⟩ ?_
  refine w_block ?_
  refine w_bun0 ?_
  refine w_nilrow 40 3 ?_
  refine w_loop (fun q m H w' => ∃ (V : Value) (E : List Ev) (p2 : Nat), m = [(0, .pointer (some ⟨b, 0, .none⟩)), (1, .int .i64 time), (7, V), (8, .int .i64 ((q : Int) - 1))] ∧ H = [row V 40 3 E.length (ecells E), bun (E.map trow), deck b lv p2] ∧
    E.length + q = z + 1 ∧ (∀ x ∈ E, deckEv time x) ∧ p2 ≤ L.length) (z + 1) ⟨_, [], p1, by rw [show ((z + 1 : Nat) : Int) - 1 = (z : Int) by omega], rfl, by simp, by simp, hp1⟩ ?_
  rintro q _ _ w2 ⟨V, E, p2, rfl, rfl, hq, hE, hp2⟩
  refine w_seq ?_
  refine w_seq ?_
  refine w_reg ?_
  refine wl_f (f_move rfl) ?_
  refine wl_f (f_geq rfl rfl) ?_
  refine wl_end [(0, _), (1, _), (7, _), (8, _), (14, _)] ⟨rfl, rfl, rfl, rfl, rfl, trivial⟩ ?_
  refine w_ifd rfl (fun hc1 => ?_) (fun hc1 => ?_)
  · skip
    refine w_with fun hh => ?_
    obtain ⟨U, cu, rfl⟩ := row_slice hh (i := 0) rfl
    clear hh
    refine w_skip ?_
    refine w_seq ?_
    refine w_block ?_
    refine w_reg ?_
    refine wl_f (f_move rfl) ?_
    refine wl_f (f_move rfl) ?_
    refine wl_f (f_move rfl) ?_
    refine wl_f (f_move rfl) ?_
    refine wl_e (e_call1 (deck b lv p2) [_, _] rfl Try.func24 (by kernel_rfl) (pk1 2 rfl) (fun w hh hs' => next_spec b lv L p2 60 w ⟨hd.1.old1 (r := deck b lv p2) hh (pk1 2 rfl), hd.2.1, hp2⟩ hs' (by omega))) ?_
    rintro _ _ w3 ⟨_, rfl, y, p3, rfl, hy, rfl, hp3⟩
    refine wl_f (f_add rfl rfl (by omega)) ?_
    refine wl_f (f_sub rfl rfl (by omega)) ?_
    refine wl_f (f_max (r := max (time + y - 20) 0) rfl rfl (by split <;> omega)) ?_
    refine wl_e (e_call1 (deck b lv p3) [_, _] rfl Try.func25 (by kernel_rfl) (List.Perm.refl _) (fun w hh hs' => event_spec' b lv L p3 (max (time + y - 20) 0) w ⟨hd.1.old1 (r := deck b lv p3) hh (List.Perm.refl _), hd.2.1, hp3⟩ hs')) ?_
    rintro _ _ w4 ⟨_, rfl, sl, tags, wt, p4, rfl, ⟨hsm, huni⟩, hwt, rfl, hp4⟩
    refine wl_with fun hh => ?_
    obtain ⟨U2, c2, rfl⟩ := row_slice hh (i := 0) rfl
    clear hh
    refine wl_e (e_lit1 (cs := [_, _, _]) t28 rfl rfl rfl (by omega)) ?_
    rintro _ _ w5_9 ⟨b5_9, rfl, rfl⟩
    refine wl_e (e_appN 3 t28 rfl rfl rfl (fun w hh => Rd.held0 hh (i := 0) rfl) (by simp [Value.oneCell']) (by omega) (by omega)) ?_
    rintro _ _ w5 ⟨⟨U3, c3, rfl⟩, rfl⟩
    refine wl_pick [4, 1, 2, 1] rfl ?_
    refine wl_snoc ?_
    refine wl_pick [1, 0, 0] rfl ?_
    refine wl_f (f_assign rfl) ?_
    refine wl_end [(0, _), (1, _), (7, _), (8, _)] ⟨rfl, rfl, rfl, rfl, trivial⟩ ?_
    refine w_reg ?_
    refine wl_f (f_move rfl) ?_
    refine wl_f (f_sub rfl rfl (by omega)) ?_
    refine wl_f (f_assign rfl) ?_
    refine wl_end [(0, _), (1, _), (7, _), (8, _)] ⟨rfl, rfl, rfl, rfl, trivial⟩ ?_
    refine ⟨q - 1, by omega, .slice U3 (E.length + 1) c3, E ++ [(.slice U2 tags.length c2, tags, max (time + y - 20) 0, wt)], p4, by rw [show (q : Int) - 1 - 1 = ((q - 1 : Nat) : Int) - 1 by omega], ?_, by simp; omega, ?_, hp4⟩
    · rw [List.length_append, List.map_append, ecells_app]; rfl
    · intro x hx
      rcases List.mem_append.1 hx with hx | hx
      · exact hE x hx
      · simp at hx; subst hx; exact ⟨hsm, huni, by show 0 ≤ max _ _; omega, by show max _ _ ≤ _; omega, hwt⟩
  · skip
    obtain rfl : q = 0 := by omega
    refine w_exit0 ?_
    refine w_seq ?_
    refine w_reg ?_
    refine wl_f (f_move rfl) ?_
    refine wl_f (f_assign rfl) ?_
    refine wl_end [(6, _)] ⟨rfl, trivial⟩ ?_
    refine w_ret ?_
    refine ⟨_, _, fun a ha hh => results_tmps Try.results11 rfl a ha _, List.Sublist.refl _, ?_⟩
    exact ⟨E, p2, by omega, by omega, hE, rfl, hp2⟩
end Go.Proofs.Ythbjjfpikfmmnaa
