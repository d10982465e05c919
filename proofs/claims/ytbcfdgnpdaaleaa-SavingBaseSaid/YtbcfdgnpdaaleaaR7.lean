/- Orders by count: sums of weights; inserting, raising, removing, counting. -/
import Derived.Test.YtbcfdgnpdaaleaaR6
namespace Go.Proofs.Ytbcfdgnpdaaleaa
open Go.RowKit

def addE : Array Value → Sem Value := fun args => do
  let (x, y, c) ← Extern.MathBitsCarry.three "Add64" args
  pure (Extern.MathBitsCarry.pair ((x + y + c) % Extern.MathBitsCarry.m64) ((x + y + c) / Extern.MathBitsCarry.m64))
theorem run_add64 {P : Program} (a b : Nat) (w : World) : (addE #[.int .u64 (a : Int), .int .u64 (b : Int), .int .u64 0]).run P w = .ok (.tuple #[.int .u64 (((a + b) % 18446744073709551616 : Nat) : Int), .int .u64 (((a + b) / 18446744073709551616 : Nat) : Int)]) w := by
  rfl
theorem satadd_spec (a b : Nat) (w : World) (ha : a < 18446744073709551616) (hb : b < 18446744073709551616) : Spec Try.prog 32 [.int .u64 (a : Int), .int .u64 (b : Int)] w Nil fun r H =>
    r = .tuple #[.int .u64 (if a + b < 18446744073709551616 then ((a + b : Nat) : Int) else 18446744073709551615), .bool (decide (a + b < 18446744073709551616))] ∧ H = [] := by
  refine enter (n := 17) Try.func32 rfl rfl [(0, _), (1, _)] rfl ⟨rfl, rfl, trivial⟩ (Holds.start _ _) ?_
  refine w_seq ?_
  refine w_reg ?_
  refine wl_f (f_assign rfl) ?_
  refine wl_f (f_assign rfl) ?_
  refine wl_end [(0, _), (1, _)] ⟨rfl, rfl, trivial⟩ ?_
  refine w_seq ?_
  refine w_reg ?_
  refine wl_f (f_move rfl) ?_
  refine wl_f (f_move rfl) ?_
  refine wl_f (f_extern (e := addE) rfl Try.func50 (by kernel_rfl) rfl (by kernel_rfl) (by kernel_rfl) (fun w => run_add64 a b w)) ?_
  skip
  refine wl_f (f_move rfl) ?_
  refine wl_f (f_extract rfl rfl) ?_
  refine wl_f (f_extract rfl rfl) ?_
  refine wl_f (f_assign rfl) ?_
  refine wl_f (f_assign rfl) ?_
  refine wl_end [(6, _), (7, _)] ⟨rfl, rfl, trivial⟩ ?_
  refine w_seq ?_
  refine w_seq ?_
  refine w_reg ?_
  refine wl_f (f_move rfl) ?_
  refine wl_f (f_neq rfl rfl) ?_
  refine wl_end [(6, _), (15, _)] ⟨rfl, rfl, trivial⟩ ?_
  refine w_ifd rfl (fun hc1 => ?_) (fun hc1 => ?_)
  · skip
    have hov : ¬ a + b < 18446744073709551616 := fun h => hc1 (by rw [Nat.div_eq_of_lt h]; rfl)
    refine w_seq ?_
    refine w_reg ?_
    refine wl_f (f_assign rfl) ?_
    refine wl_f (f_assign rfl) ?_
    refine wl_end [(4, _), (5, _)] ⟨rfl, rfl, trivial⟩ ?_
    refine w_ret ?_
    refine ⟨_, _, fun a ha hh => results_tmps Try.results32 rfl a ha _, List.Sublist.refl _, ?_⟩
    exact ⟨by rw [if_neg hov, decide_eq_false hov]; rfl, rfl⟩
  · skip
    have hov : a + b < 18446744073709551616 := by
      refine Classical.byContradiction fun h => hc1 fun e => ?_
      have h2 : (a + b) / 18446744073709551616 = 0 := by exact_mod_cast e
      omega
    refine w_skip ?_
    refine w_seq ?_
    refine w_reg ?_
    refine wl_f (f_move rfl) ?_
    refine wl_f (f_assign rfl) ?_
    refine wl_f (f_assign rfl) ?_
    refine wl_end [(4, _), (5, _)] ⟨rfl, rfl, trivial⟩ ?_
    refine w_ret ?_
    refine ⟨_, _, fun a ha hh => results_tmps Try.results32 rfl a ha _, List.Sublist.refl _, ?_⟩
    exact ⟨by rw [if_pos hov, decide_eq_true hov, Nat.mod_eq_of_lt hov]; rfl, rfl⟩
theorem satfits_spec (a b : Nat) (w : World) (ha : a < 18446744073709551616) (hb : b < 18446744073709551616) : Spec Try.prog 23 [.int .u64 (a : Int), .int .u64 (b : Int)] w Nil fun r H =>
    r = .bool (decide (a + b ≤ 9223372036854775808)) ∧ H = [] := by
  refine enter (n := 18) Try.func23 rfl rfl [(0, _), (1, _)] rfl ⟨rfl, rfl, trivial⟩ (Holds.start _ _) ?_
  refine w_seq ?_
  refine w_reg ?_
  refine wl_f (f_assign rfl) ?_
  refine wl_end [(0, _), (1, _)] ⟨rfl, rfl, trivial⟩ ?_
  refine w_seq ?_
  refine w_reg ?_
  refine wl_f (f_move rfl) ?_
  refine wl_f (f_move rfl) ?_
  refine wl_e (e_call0 rfl Try.func32 (by kernel_rfl) (fun w hh => satadd_spec a b w ha hb)) ?_
  rintro _ _ w1 ⟨_, rfl, rfl, rfl⟩
  refine wl_f (f_move rfl) ?_
  refine wl_f (f_extract rfl rfl) ?_
  refine wl_f (f_extract rfl rfl) ?_
  refine wl_f (f_assign rfl) ?_
  refine wl_f (f_assign rfl) ?_
  refine wl_end [(5, _), (6, _)] ⟨rfl, rfl, trivial⟩ ?_
  refine w_seq ?_
  refine w_reg ?_
  refine wl_f (f_move rfl) ?_
  refine wl_f (f_move rfl) ?_
  refine wl_and (j := 1) (c := decide ((if a + b < 18446744073709551616 then ((a + b : Nat) : Int) else 18446744073709551615) ≤ 9223372036854775808)) 2 [] trivial rfl rfl rfl rfl rfl (fun hg2_4 => ?_) (fun w2_4 => ?_)
  · skip
    refine wl_gf rfl rfl (f_move rfl) ?_
    refine wl_gf rfl rfl (f_leq rfl rfl) ?_
    exact wl_pend rfl rfl trivial (List.Sublist.refl _)
  refine wl_f (f_assign rfl) ?_
  refine wl_end [(4, _)] ⟨rfl, trivial⟩ ?_
  refine w_ret ?_
  refine ⟨_, _, fun a ha hh => results_tmps Try.results23 rfl a ha _, List.Sublist.refl _, ?_⟩
  refine ⟨?_, rfl⟩
  show Value.bool _ = _
  congr 1
  by_cases h : a + b < 18446744073709551616
  · rw [if_pos h, decide_eq_true h, Bool.true_and]
    by_cases h2 : a + b ≤ 9223372036854775808
    · rw [decide_eq_true h2]; exact decide_eq_true (by omega)
    · rw [decide_eq_false h2]; exact decide_eq_false (by omega)
  · rw [decide_eq_false h, Bool.false_and, decide_eq_false (by omega)]

/-! ### What is done -/
def oins (n : Nat) (l : Ord) (id : Int) (c : Nat) : Int × Ord := if id < 0 ∨ (n : Int) ≤ id then (1, l) else if id ∈ ids l then (10, l) else if 9223372036854775808 < c then (12, l) else (0, ins l id c)
def orai (l : Ord) (id : Int) (k : Nat) : Int × Ord := match look l id with
  | none => (8, l)
  | some c => if c + k ≤ 9223372036854775808 then if k = 0 then (0, l) else (0, ins (rem l id) id (c + k)) else (12, l)
def orem (l : Ord) (id : Int) : Nat × Int × Ord := match look l id with
  | none => (0, 8, l)
  | some c => (c, 0, rem l id)
theorem find_bk {S : List Bk} {id : Int} (h : id ∈ ids (flat S)) : ∃ A s C I y J, S = A ++ s :: C ∧ s.2.2.2 = I ++ (y, id) :: J := by
  obtain ⟨s, hs, y, hy⟩ := ids_flat.1 h
  obtain ⟨A, C, rfl⟩ := List.append_of_mem hs
  obtain ⟨I, J, e⟩ := List.append_of_mem hy
  exact ⟨A, s, C, I, y, J, rfl, e⟩
theorem ids_ins {l : Ord} {id : Int} {c : Nat} : ∀ {z : Int}, z ∈ ids (ins l id c) ↔ z = id ∨ z ∈ ids l := by
  induction l with
  | nil => simp [ins, ids]
  | cons p l ih =>
    intro z
    rw [ins]
    split
    · simp only [ids, List.map_cons, List.mem_cons] at ih ⊢
      rw [ih]
      constructor
      · rintro (h | h | h) <;> simp [h]
      · rintro (h | h | h) <;> simp [h]
    · simp [ids]
theorem rem_notin {l : Ord} {id : Int} (h : (ids l).Nodup) : id ∉ ids (rem l id) := by
  induction l with
  | nil => simp [rem, ids]
  | cons p l ih =>
    simp only [ids, List.map_cons, List.nodup_cons] at h
    rw [rem]
    split
    · rename_i hp; rw [← hp]; exact h.1
    · rename_i hp
      simp only [ids, List.map_cons, List.mem_cons, not_or]
      exact ⟨fun e => hp e.symm, ih h.2⟩
theorem pcells_bucket {pl : List (Option (Nat × Nat))} {i x y : Nat} (h : pl[i]? = some (some (x, y))) : (pcells pl)[0 + i * 3 + 1]? = some (.int .i64 x) := by
  have h1 : (((pcells pl).drop (0 + i * 3)).take 3)[1]? = some (.int .i64 x) := by rw [pcells_get h]; rfl
  rw [List.getElem?_take, if_pos (by omega), List.getElem?_drop] at h1
  exact h1

theorem rkhas_nil (id : Int) (w : World) : Spec Try.prog 39 [.pointer .none, .int .i64 id] w Nil fun r H => r = .bool false ∧ H = [] := by
  refine enter (n := 29) Try.func39 rfl rfl [(0, _), (1, _)] rfl ⟨rfl, rfl, trivial⟩ (Holds.start _ _) ?_
  refine w_seq ?_
  refine w_reg ?_
  refine wl_f (f_assign rfl) ?_
  refine wl_end [(0, _), (1, _)] ⟨rfl, rfl, trivial⟩ ?_
  refine w_seq ?_
  refine w_reg ?_
  refine wl_f (f_move rfl) ?_
  refine wl_f (f_neqnil rfl rfl Try.underlying56) ?_
  refine wl_f (f_move rfl) ?_
  refine wl_gs rfl rfl ?_
  refine wl_gs rfl rfl ?_
  refine wl_f (f_pick0 rfl rfl) ?_
  refine wl_f (f_move rfl) ?_
  refine wl_gs rfl rfl ?_
  refine wl_gs rfl rfl ?_
  refine wl_gs rfl rfl ?_
  refine wl_gs rfl rfl ?_
  refine wl_gs rfl rfl ?_
  refine wl_gs rfl rfl ?_
  refine wl_f (f_pick0 rfl rfl) ?_
  refine wl_f (f_move rfl) ?_
  refine wl_gs rfl rfl ?_
  refine wl_gs rfl rfl ?_
  refine wl_gs rfl rfl ?_
  refine wl_gs rfl rfl ?_
  refine wl_gs rfl rfl ?_
  refine wl_gs rfl rfl ?_
  refine wl_gs rfl rfl ?_
  refine wl_gs rfl rfl ?_
  refine wl_f (f_pick0 rfl rfl) ?_
  refine wl_f (f_assign rfl) ?_
  refine wl_end [(4, _)] ⟨rfl, trivial⟩ ?_
  refine w_ret ?_
  refine ⟨_, _, fun a ha hh => results_tmps Try.results39 rfl a ha _, List.Sublist.refl _, ?_⟩
  exact ⟨rfl, rfl⟩
theorem rkinsert_nil (id : Int) (c : Int) (w : World) : Spec Try.prog 44 [.pointer .none, .int .i64 id, .int .u64 c] w Nil fun r H => r = .int .i64 8 ∧ H = [] := by
  refine enter (n := 32) Try.func44 rfl rfl [(0, _), (1, _), (2, _)] rfl ⟨rfl, rfl, rfl, trivial⟩ (Holds.start _ _) ?_
  refine w_seq ?_
  refine w_reg ?_
  refine wl_f (f_assign rfl) ?_
  refine wl_end [(0, _), (1, _), (2, _)] ⟨rfl, rfl, rfl, trivial⟩ ?_
  refine w_seq ?_
  refine w_block ?_
  refine w_seq ?_
  refine w_reg ?_
  refine wl_f (f_move rfl) ?_
  refine wl_f (f_eqlnil rfl rfl Try.underlying56) ?_
  refine wl_f (f_assign rfl) ?_
  refine wl_end [(0, _), (1, _), (2, _), (7, _)] ⟨rfl, rfl, rfl, rfl, trivial⟩ ?_
  refine w_ift rfl ?_
  refine w_seq ?_
  refine w_reg ?_
  refine wl_f (f_assign rfl) ?_
  refine wl_end [(6, _)] ⟨rfl, trivial⟩ ?_
  refine w_ret ?_
  refine ⟨_, _, fun a ha hh => results_tmps Try.results44 rfl a ha _, List.Sublist.refl _, ?_⟩
  exact ⟨rfl, rfl⟩
theorem rkraise_nil (id : Int) (c : Int) (w : World) : Spec Try.prog 25 [.pointer .none, .int .i64 id, .int .u64 c] w Nil fun r H => r = .int .i64 8 ∧ H = [] := by
  refine enter (n := 44) Try.func25 rfl rfl [(0, _), (1, _), (2, _)] rfl ⟨rfl, rfl, rfl, trivial⟩ (Holds.start _ _) ?_
  refine w_seq ?_
  refine w_reg ?_
  refine wl_f (f_assign rfl) ?_
  refine wl_end [(0, _), (1, _), (2, _)] ⟨rfl, rfl, rfl, trivial⟩ ?_
  refine w_seq ?_
  refine w_seq ?_
  refine w_reg ?_
  refine wl_f (f_move rfl) ?_
  refine wl_f (f_move rfl) ?_
  refine wl_e (e_call0 rfl Try.func39 (by kernel_rfl) (fun w hh => rkhas_nil id w)) ?_
  rintro _ _ w1 ⟨_, rfl, rfl, rfl⟩
  refine wl_f (f_not rfl rfl) ?_
  refine wl_end [(0, _), (1, _), (2, _), (13, _)] ⟨rfl, rfl, rfl, rfl, trivial⟩ ?_
  refine w_ift rfl ?_
  refine w_seq ?_
  refine w_reg ?_
  refine wl_f (f_assign rfl) ?_
  refine wl_end [(6, _)] ⟨rfl, trivial⟩ ?_
  refine w_ret ?_
  refine ⟨_, _, fun a ha hh => results_tmps Try.results25 rfl a ha _, List.Sublist.refl _, ?_⟩
  exact ⟨rfl, rfl⟩
theorem rkremove_nil (id : Int) (w : World) : Spec Try.prog 48 [.pointer .none, .int .i64 id] w Nil fun r H => r = .tuple #[.int .u64 0, .int .i64 8] ∧ H = [] := by
  refine enter (n := 19) Try.func48 rfl rfl [(0, _), (1, _)] rfl ⟨rfl, rfl, trivial⟩ (Holds.start _ _) ?_
  refine w_seq ?_
  refine w_reg ?_
  refine wl_f (f_assign rfl) ?_
  refine wl_f (f_assign rfl) ?_
  refine wl_end [(0, _), (1, _)] ⟨rfl, rfl, trivial⟩ ?_
  refine w_seq ?_
  refine w_seq ?_
  refine w_reg ?_
  refine wl_f (f_move rfl) ?_
  refine wl_f (f_move rfl) ?_
  refine wl_e (e_call0 rfl Try.func39 (by kernel_rfl) (fun w hh => rkhas_nil id w)) ?_
  rintro _ _ w1 ⟨_, rfl, rfl, rfl⟩
  refine wl_f (f_not rfl rfl) ?_
  refine wl_end [(0, _), (1, _), (11, _)] ⟨rfl, rfl, rfl, trivial⟩ ?_
  refine w_ift rfl ?_
  refine w_seq ?_
  refine w_reg ?_
  refine wl_f (f_assign rfl) ?_
  refine wl_f (f_assign rfl) ?_
  refine wl_end [(4, _), (5, _)] ⟨rfl, rfl, trivial⟩ ?_
  refine w_ret ?_
  refine ⟨_, _, fun a ha hh => results_tmps Try.results48 rfl a ha _, List.Sublist.refl _, ?_⟩
  exact ⟨rfl, rfl⟩
theorem rkcount_nil (id : Int) (w : World) : Spec Try.prog 31 [.pointer .none, .int .i64 id] w Nil fun r H => r = .tuple #[.int .u64 0, .bool false] ∧ H = [] := by
  refine enter (n := 21) Try.func31 rfl rfl [(0, _), (1, _)] rfl ⟨rfl, rfl, trivial⟩ (Holds.start _ _) ?_
  refine w_seq ?_
  refine w_reg ?_
  refine wl_f (f_assign rfl) ?_
  refine wl_f (f_assign rfl) ?_
  refine wl_end [(0, _), (1, _)] ⟨rfl, rfl, trivial⟩ ?_
  refine w_seq ?_
  refine w_seq ?_
  refine w_reg ?_
  refine wl_f (f_move rfl) ?_
  refine wl_f (f_move rfl) ?_
  refine wl_e (e_call0 rfl Try.func39 (by kernel_rfl) (fun w hh => rkhas_nil id w)) ?_
  rintro _ _ w1 ⟨_, rfl, rfl, rfl⟩
  refine wl_f (f_not rfl rfl) ?_
  refine wl_end [(0, _), (1, _), (9, _)] ⟨rfl, rfl, rfl, trivial⟩ ?_
  refine w_ift rfl ?_
  refine w_seq ?_
  refine w_reg ?_
  refine wl_f (f_assign rfl) ?_
  refine wl_f (f_assign rfl) ?_
  refine wl_end [(4, _), (5, _)] ⟨rfl, rfl, trivial⟩ ?_
  refine w_ret ?_
  refine ⟨_, _, fun a ha hh => results_tmps Try.results31 rfl a ha _, List.Sublist.refl _, ?_⟩
  exact ⟨rfl, rfl⟩
theorem rkleast_nil (w : World) : Spec Try.prog 43 [.pointer .none] w Nil fun r H => r = .tuple #[.int .i64 0, .int .u64 0, .bool false] ∧ H = [] := by
  refine enter (n := 34) Try.func43 rfl rfl [(0, _)] rfl ⟨rfl, trivial⟩ (Holds.start _ _) ?_
  refine w_seq ?_
  refine w_reg ?_
  refine wl_f (f_assign rfl) ?_
  refine wl_f (f_assign rfl) ?_
  refine wl_f (f_assign rfl) ?_
  refine wl_end [(0, _)] ⟨rfl, trivial⟩ ?_
  refine w_seq ?_
  refine w_seq ?_
  refine w_reg ?_
  refine wl_f (f_move rfl) ?_
  refine wl_f (f_eqlnil rfl rfl Try.underlying56) ?_
  refine wl_f (f_move rfl) ?_
  refine wl_gs rfl rfl ?_
  refine wl_gs rfl rfl ?_
  refine wl_gs rfl rfl ?_
  refine wl_gs rfl rfl ?_
  refine wl_gs rfl rfl ?_
  refine wl_f (f_pick1 rfl rfl) ?_
  refine wl_end [(0, _), (14, _)] ⟨rfl, rfl, trivial⟩ ?_
  refine w_ift rfl ?_
  refine w_seq ?_
  refine w_reg ?_
  refine wl_f (f_assign rfl) ?_
  refine wl_f (f_assign rfl) ?_
  refine wl_f (f_assign rfl) ?_
  refine wl_end [(2, _), (3, _), (4, _)] ⟨rfl, rfl, rfl, trivial⟩ ?_
  refine w_ret ?_
  refine ⟨_, _, fun a ha hh => results_tmps Try.results43 rfl a ha _, List.Sublist.refl _, ?_⟩
  exact ⟨rfl, rfl⟩
theorem rklen_nil (w : World) : Spec Try.prog 34 [.pointer .none] w Nil fun r H => r = .int .i64 0 ∧ H = [] := by
  refine enter (n := 9) Try.func34 rfl rfl [(0, _)] rfl ⟨rfl, trivial⟩ (Holds.start _ _) ?_
  refine w_seq ?_
  refine w_reg ?_
  refine wl_f (f_assign rfl) ?_
  refine wl_end [(0, _)] ⟨rfl, trivial⟩ ?_
  refine w_seq ?_
  refine w_seq ?_
  refine w_reg ?_
  refine wl_f (f_move rfl) ?_
  refine wl_f (f_eqlnil rfl rfl Try.underlying56) ?_
  refine wl_end [(0, _), (4, _)] ⟨rfl, rfl, trivial⟩ ?_
  refine w_ift rfl ?_
  refine w_seq ?_
  refine w_reg ?_
  refine wl_f (f_assign rfl) ?_
  refine wl_end [(2, _)] ⟨rfl, trivial⟩ ?_
  refine w_ret ?_
  refine ⟨_, _, fun a ha hh => results_tmps Try.results34 rfl a ha _, List.Sublist.refl _, ?_⟩
  exact ⟨rfl, rfl⟩

set_option maxHeartbeats 1000000 in
theorem rklen_spec (b n : Nat) (l : Ord) (r : Res) (w : World) (hr : RkO b n l r) (hs : Holds w r.foot [r] w) :
    Spec Try.prog 34 [.pointer (some ⟨b, 0, .none⟩)] w r.foot fun v H => v = .int .i64 (l.length : Int) ∧ H = [r] := by
  obtain ⟨S, rfl, hn1, hn2, B, pV, pl, rB, rs, rfl, hrB, hrs, hI⟩ := hr
  refine enter (n := 9) Try.func34 rfl rfl [(0, _)] rfl ⟨rfl, trivial⟩ hs ?_
  refine w_seq ?_
  refine w_reg ?_
  refine wl_f (f_assign rfl) ?_
  refine wl_end [(0, _)] ⟨rfl, trivial⟩ ?_
  refine w_seq ?_
  refine w_seq ?_
  refine w_reg ?_
  refine wl_f (f_move rfl) ?_
  refine wl_f (f_eqlnil rfl rfl Try.underlying56) ?_
  refine wl_end [(0, _), (4, _)] ⟨rfl, rfl, trivial⟩ ?_
  refine w_iff rfl ?_
  refine w_skip ?_
  refine w_seq ?_
  refine w_reg ?_
  refine wl_f (f_move rfl) ?_
  refine wl_f (f_nilCheck rfl) ?_
  refine wl_f (f_fieldAddr 1 rfl Try.underlying92 rfl rfl (by kernel_rfl)) ?_
  refine wl_f (f_loadB 0 0 rfl rfl rfl Try.underlying3 rfl rfl) ?_
  refine wl_f (f_assign rfl) ?_
  refine wl_end [(2, _)] ⟨rfl, trivial⟩ ?_
  refine w_ret ?_
  refine ⟨_, _, fun a ha hh => results_tmps Try.results34 rfl a ha _, List.Sublist.refl _, ?_⟩
  exact ⟨rfl, rfl⟩

set_option maxHeartbeats 1000000 in
theorem rkinsert_spec (b n : Nat) (l : Ord) (r : Res) (id : Int) (c : Nat) (w : World) (hr : RkO b n l r) (hs : Holds w r.foot [r] w) :
    Spec Try.prog 44 [.pointer (some ⟨b, 0, .none⟩), .int .i64 id, .int .u64 (c : Int)] w r.foot fun v H => v = .int .i64 (oins n l id c).1 ∧ ∃ r', H = [r'] ∧ RkO b n (oins n l id c).2 r' := by
  obtain ⟨S, rfl, hr⟩ := hr
  have hO : RkO b n (flat S) r := ⟨S, rfl, hr⟩
  obtain ⟨hn1, hn2, B, pV, pl, rB, rs, rfl, hrB, hrs, hI⟩ := _root_.id hr
  refine enter (n := 32) Try.func44 rfl rfl [(0, _), (1, _), (2, _)] rfl ⟨rfl, rfl, rfl, trivial⟩ hs ?_
  refine w_seq ?_
  refine w_reg ?_
  refine wl_f (f_assign rfl) ?_
  refine wl_end [(0, _), (1, _), (2, _)] ⟨rfl, rfl, rfl, trivial⟩ ?_
  refine w_seq ?_
  refine w_block ?_
  refine w_seq ?_
  refine w_reg ?_
  refine wl_f (f_move rfl) ?_
  refine wl_f (f_eqlnil rfl rfl Try.underlying56) ?_
  refine wl_f (f_assign rfl) ?_
  refine wl_end [(0, _), (1, _), (2, _), (7, _)] ⟨rfl, rfl, rfl, rfl, trivial⟩ ?_
  refine w_iff rfl ?_
  refine w_seq ?_
  refine w_reg ?_
  refine wl_f (f_move rfl) ?_
  refine wl_f (f_lss rfl rfl) ?_
  refine wl_f (f_move rfl) ?_
  refine wl_or (j := 2) (c := decide ((n : Int) ≤ id)) 6 [(0, _), (1, _), (2, _)] ⟨rfl, rfl, rfl, trivial⟩ rfl rfl rfl rfl rfl (fun hg3_9 => ?_) (fun w3_9 => ?_)
  · skip
    refine wl_gf rfl rfl (f_move rfl) ?_
    refine wl_gf rfl rfl (f_move rfl) ?_
    refine wl_gf rfl rfl (f_nilCheck rfl) ?_
    refine wl_gf rfl rfl (f_fieldAddr 0 rfl Try.underlying92 rfl rfl (by kernel_rfl)) ?_
    refine wl_gf rfl rfl (f_loadB 0 0 rfl rfl rfl Try.underlying3 rfl rfl) ?_
    refine wl_gf rfl rfl (f_geq rfl rfl) ?_
    exact wl_pend rfl rfl ⟨rfl, rfl, rfl, trivial⟩ (List.Sublist.refl _)
  refine wl_f (f_assign rfl) ?_
  refine wl_end [(0, _), (1, _), (2, _), (10, _)] ⟨rfl, rfl, rfl, rfl, trivial⟩ ?_
  refine w_ifb rfl (fun hc2 => ?_) (fun hc2 => ?_)
  · skip
    have h1 : id < 0 ∨ (n : Int) ≤ id := by simpa [Bool.or_eq_true] using hc2
    have e1 : oins n (flat S) id c = (1, flat S) := if_pos h1
    refine w_seq ?_
    refine w_reg ?_
    refine wl_f (f_assign rfl) ?_
    refine wl_end [(6, _)] ⟨rfl, trivial⟩ ?_
    refine w_ret ?_
    refine ⟨_, _, fun a ha hh => results_tmps Try.results44 rfl a ha _, List.Sublist.refl _, ?_⟩
    rw [e1]; exact ⟨rfl, _, rfl, hO⟩
  · skip
    have h1 : ¬ (id < 0 ∨ (n : Int) ≤ id) := by simpa [Bool.or_eq_true] using hc2
    obtain ⟨x, rfl⟩ : ∃ x : Nat, id = x := ⟨id.toNat, by omega⟩
    refine w_seq ?_
    refine w_reg ?_
    refine wl_f (f_move rfl) ?_
    refine wl_f (f_move rfl) ?_
    refine wl_e (e_call1 _ [] rfl Try.func39 (by kernel_rfl) (List.Perm.refl _) (fun w hh hs' => rkhas_spec b n S _ x w hr hs')) ?_
    rintro _ _ w5 ⟨_, rfl, rfl, rfl⟩
    refine wl_f (f_assign rfl) ?_
    refine wl_end [(0, _), (1, _), (2, _), (21, _)] ⟨rfl, rfl, rfl, rfl, trivial⟩ ?_
    refine w_ifd rfl (fun hc3 => ?_) (fun hc3 => ?_)
    · skip
      have h2 : (x : Int) ∈ ids (flat S) := hc3
      have e1 : oins n (flat S) x c = (10, flat S) := (if_neg h1).trans (if_pos h2)
      refine w_seq ?_
      refine w_reg ?_
      refine wl_f (f_assign rfl) ?_
      refine wl_end [(6, _)] ⟨rfl, trivial⟩ ?_
      refine w_ret ?_
      refine ⟨_, _, fun a ha hh => results_tmps Try.results44 rfl a ha _, List.Sublist.refl _, ?_⟩
      rw [e1]; exact ⟨rfl, _, rfl, hO⟩
    · skip
      have h2 : (x : Int) ∉ ids (flat S) := hc3
      refine w_seq ?_
      refine w_reg ?_
      refine wl_f (f_move rfl) ?_
      refine wl_f (f_gtr rfl rfl) ?_
      refine wl_f (f_assign rfl) ?_
      refine wl_end [(0, _), (1, _), (2, _), (25, _)] ⟨rfl, rfl, rfl, rfl, trivial⟩ ?_
      refine w_ifd rfl (fun hc4 => ?_) (fun hc4 => ?_)
      · skip
        have h3 : 9223372036854775808 < c := by
          have : (9223372036854775808 : Int) < c := hc4
          omega
        have e1 : oins n (flat S) x c = (12, flat S) := (if_neg h1).trans ((if_neg h2).trans (if_pos h3))
        refine w_seq ?_
        refine w_reg ?_
        refine wl_f (f_assign rfl) ?_
        refine wl_end [(6, _)] ⟨rfl, trivial⟩ ?_
        refine w_ret ?_
        refine ⟨_, _, fun a ha hh => results_tmps Try.results44 rfl a ha _, List.Sublist.refl _, ?_⟩
        rw [e1]; exact ⟨rfl, _, rfl, hO⟩
      · skip
        have h3 : ¬ 9223372036854775808 < c := fun h => hc4 (show (9223372036854775808 : Int) < c by omega)
        have e1 : oins n (flat S) x c = (0, ins (flat S) x c) := (if_neg h1).trans ((if_neg h2).trans (if_neg h3))
        refine w_skip ?_
        refine w_seq ?_
        refine w_reg ?_
        refine wl_f (f_move rfl) ?_
        refine wl_f (f_move rfl) ?_
        refine wl_f (f_move rfl) ?_
        refine wl_e (e_call1 _ [] rfl Try.func42 (by kernel_rfl) (List.Perm.refl _) (fun w hh hs' => rkput_spec b n [] S _ x c w (by omega) h2 (by omega) (fun s hs => absurd hs (List.not_mem_nil)) hr hs')) ?_
        rintro _ _ w9 ⟨_, rfl, rfl, r', rfl, hr'⟩
        refine wl_f (f_assign rfl) ?_
        refine wl_end [(6, _)] ⟨rfl, trivial⟩ ?_
        refine w_ret ?_
        refine ⟨_, _, fun a ha hh => results_tmps Try.results44 rfl a ha _, List.Sublist.refl _, ?_⟩
        rw [e1]; exact ⟨rfl, _, rfl, hr'⟩
end Go.Proofs.Ytbcfdgnpdaaleaa
