/- The deck: numbers, words, tables of words, short texts. -/
import Derived.Test.YtkoklfagmbaapaaI6
namespace Go.Proofs.Ytkoklfagmbaapaa
open Go.RowKit

theorem t22 : SlT Try.prog 22 3 1 8 (.int .i64 0) := .mk' Try.underlying22 (by kernel_rfl) rfl (by decide)
theorem t44 : SlT Try.prog 44 5 1 1 (.int .u8 0) := .mk' Try.underlying44 (by kernel_rfl) rfl (by decide)
def iv (l : List Int) : List Value := l.map fun i => Value.int .i64 i
theorem iv_get1 (l : List Int) (i : Nat) (h : i < l.length) : (iv l)[i * 1]? = some (.int .i64 l[i]) := by simp [iv, h]

/-- A deck whose list can be read. -/
def deck (b : Nat) (lv : Value) (p : Nat) : Res := blk b [lv, .int .i64 p] 68
def DRd (w : World) (b : Nat) (lv : Value) (L : List Int) (p : Nat) : Prop := Rd w (fun k => k = b) 1 lv L.length (iv L) ∧ L.length ≤ 140737488355328 ∧ p ≤ L.length

theorem tmod_bounds (x n : Int) (h : 1 ≤ n) : -n < x.tmod n ∧ x.tmod n < n := by
  have h1 := Int.tmod_lt_of_pos x (b := n) (by omega)
  have h2 := Int.tmod_lt_of_pos (-x) (b := n) (by omega)
  rw [Int.neg_tmod] at h2
  omega

theorem within_spec (x : Int) (n : Nat) (w : World) (hn : 1 ≤ n ∧ n ≤ 4398046511104) :
    Spec Try.prog 48 [.int .i64 x, .int .i64 n] w Nil fun r H => ∃ y : Nat, r = .int .i64 y ∧ y < n ∧ H = [] := by
  have hb := tmod_bounds x n (by omega)
  refine enter (n := 12) Try.func48 rfl rfl [(0, _), (1, _)] rfl ⟨rfl, rfl, trivial⟩ (Holds.start _ _) ?_
  refine w_seq ?_
  refine w_reg ?_
  refine wl_f (f_assign rfl) ?_
  refine wl_end [(0, _), (1, _)] ⟨rfl, rfl, trivial⟩ ?_
  refine w_seq ?_
  refine w_reg ?_
  refine wl_f (f_move rfl) ?_
  refine wl_f (f_move rfl) ?_
  refine wl_f (f_remw rfl rfl (by omega) rfl) ?_
  refine wl_f (f_move rfl) ?_
  refine wl_f (f_add rfl rfl (by omega)) ?_
  refine wl_f (f_move rfl) ?_
  refine wl_f (f_remw (r := (((x.tmod n + n) % n).toNat : Nat)) rfl rfl (by omega) ?_) ?_
  · rw [Int.tmod_eq_emod_of_nonneg (by omega), Int.toNat_of_nonneg (Int.emod_nonneg _ (by omega))]
  refine wl_f (f_assign rfl) ?_
  refine wl_end [(4, _)] ⟨rfl, trivial⟩ ?_
  refine w_ret ?_
  refine ⟨_, _, fun a ha hh => results_tmps Try.results48 rfl a ha _, List.Sublist.refl _, ?_⟩
  exact ⟨_, rfl, by have := Int.emod_lt_of_pos (x.tmod n + n) (b := (n : Int)) (by omega); have := Int.emod_nonneg (x.tmod n + n) (b := (n : Int)) (by omega); omega, rfl⟩

theorem next_spec (b : Nat) (lv : Value) (L : List Int) (p n : Nat) (w : World) (hd : DRd w b lv L p) (hs : Holds w (deck b lv p).foot [deck b lv p] w) (hn : 1 ≤ n ∧ n ≤ 4398046511104) :
    Spec Try.prog 32 [.pointer (some ⟨b, 0, .none⟩), .int .i64 n] w (deck b lv p).foot fun r H => ∃ y p' : Nat, r = .int .i64 y ∧ y < n ∧ H = [deck b lv p'] ∧ p' ≤ L.length := by
  obtain ⟨hrd, hL, hp⟩ := hd
  obtain ⟨A, c, rfl, -, hc', g⟩ := hrd
  refine enter (n := 35) Try.func32 rfl rfl [(0, _), (1, _)] rfl ⟨rfl, rfl, trivial⟩ hs ?_
  refine w_seq ?_
  refine w_reg ?_
  refine wl_f (f_assign rfl) ?_
  refine wl_end [(0, _), (1, _)] ⟨rfl, rfl, trivial⟩ ?_
  refine w_seq ?_
  refine w_seq ?_
  refine w_draw [(0, true), (1, true), (2, true), (3, true), (4, true), (5, true), (6, true), (7, true), (8, true), (9, true)] (_) ([]) mixed (by kernel_rfl) (by kernel_rfl) rfl (perm_all _) (fun w1_ => ?_)
  refine wd_f rfl (f_move rfl) ?_
  refine wd_f rfl (f_nilCheck rfl) ?_
  refine wd_f rfl (f_fieldAddr 1 rfl Try.underlying68 rfl rfl (by kernel_rfl)) ?_
  (first | refine wd_f rfl (f_loadb 0 rfl Try.underlying3 rfl rfl rfl) ?_ | refine wd_f rfl (f_loadb 1 rfl Try.underlying3 rfl rfl rfl) ?_ | refine wd_f rfl (f_loadb 2 rfl Try.underlying3 rfl rfl rfl) ?_ | refine wd_f rfl (f_loadb 3 rfl Try.underlying3 rfl rfl rfl) ?_ | refine wd_f rfl (f_loadb 4 rfl Try.underlying3 rfl rfl rfl) ?_ | refine wd_f rfl (f_loadb 5 rfl Try.underlying3 rfl rfl rfl) ?_ | refine wd_f rfl (f_loadb 6 rfl Try.underlying3 rfl rfl rfl) ?_)
  refine wd_f rfl (f_move rfl) ?_
  refine wd_f rfl (f_nilCheck rfl) ?_
  refine wd_f rfl (f_fieldAddr 0 rfl Try.underlying68 rfl rfl (by kernel_rfl)) ?_
  (first | refine wd_f rfl (f_loadb 0 rfl Try.underlying22 rfl rfl rfl) ?_ | refine wd_f rfl (f_loadb 1 rfl Try.underlying22 rfl rfl rfl) ?_ | refine wd_f rfl (f_loadb 2 rfl Try.underlying22 rfl rfl rfl) ?_ | refine wd_f rfl (f_loadb 3 rfl Try.underlying22 rfl rfl rfl) ?_ | refine wd_f rfl (f_loadb 4 rfl Try.underlying22 rfl rfl rfl) ?_ | refine wd_f rfl (f_loadb 5 rfl Try.underlying22 rfl rfl rfl) ?_ | refine wd_f rfl (f_loadb 6 rfl Try.underlying22 rfl rfl rfl) ?_)
  refine wd_f rfl (f_len rfl Try.underlying22) ?_
  refine wd_f rfl (f_geq rfl rfl) ?_
  refine wd_end [(0, _), (1, _), (14, _)] ⟨rfl, rfl, rfl, trivial⟩ ?_
  refine w_ifd rfl (fun hc1 => ?_) (fun hc1 => ?_)
  · skip
    refine w_seq ?_
    refine w_reg ?_
    refine wl_f (f_assign rfl) ?_
    refine wl_end [(4, _)] ⟨rfl, trivial⟩ ?_
    refine w_ret ?_
    refine ⟨_, _, fun a ha hh => results_tmps Try.results32 rfl a ha _, List.Sublist.refl _, ?_⟩
    exact ⟨0, p, rfl, by omega, rfl, hp⟩
  · skip
    obtain ⟨b1, o1, rfl, hF, -, d1⟩ := g.resolve_left (by omega)
    refine w_skip ?_
    refine w_seq ?_
    refine w_reg ?_
    refine wl_f (f_move rfl) ?_
    refine wl_f (f_nilCheck rfl) ?_
    refine wl_f (f_fieldAddr 1 rfl Try.underlying68 rfl rfl (by kernel_rfl)) ?_
    (first | refine wl_f (f_loadb 0 rfl Try.underlying3 rfl rfl rfl) ?_ | refine wl_f (f_loadb 1 rfl Try.underlying3 rfl rfl rfl) ?_ | refine wl_f (f_loadb 2 rfl Try.underlying3 rfl rfl rfl) ?_ | refine wl_f (f_loadb 3 rfl Try.underlying3 rfl rfl rfl) ?_ | refine wl_f (f_loadb 4 rfl Try.underlying3 rfl rfl rfl) ?_ | refine wl_f (f_loadb 5 rfl Try.underlying3 rfl rfl rfl) ?_ | refine wl_f (f_loadb 6 rfl Try.underlying3 rfl rfl rfl) ?_)
    refine wl_f (f_add rfl rfl (by omega)) ?_
    refine wl_f (f_nilCheck rfl) ?_
    refine wl_f (f_fieldAddr 1 rfl Try.underlying68 rfl rfl (by kernel_rfl)) ?_
    (first | refine wl_e0 (e_store0 (us := [_]) rfl rfl rfl (by kernel_rfl) (by simp [Value.oneCell']) rfl rfl) ?_ | refine wl_e0 (e_store1 (us := [_]) rfl rfl rfl (by kernel_rfl) (by simp [Value.oneCell']) rfl rfl) ?_ | refine wl_e0 (e_store2 (us := [_]) rfl rfl rfl (by kernel_rfl) (by simp [Value.oneCell']) rfl rfl) ?_ | refine wl_e0 (e_store3 (us := [_]) rfl rfl rfl (by kernel_rfl) (by simp [Value.oneCell']) rfl rfl) ?_)
    rintro _ _ w3_7 rfl
    refine wl_end [(0, _), (1, _)] ⟨rfl, rfl, trivial⟩ ?_
    refine w_seq ?_
    refine w_draw [(0, true), (1, true), (2, true), (3, true), (4, true), (5, true), (6, true), (7, true), (8, true), (9, true), (10, true), (11, true), (12, false), (13, true)] (_) ([]) mixed (by kernel_rfl) (by kernel_rfl) rfl (perm_all _) (fun w4_ => ?_)
    refine wd_f rfl (f_move rfl) ?_
    refine wd_f rfl (f_nilCheck rfl) ?_
    refine wd_f rfl (f_fieldAddr 0 rfl Try.underlying68 rfl rfl (by kernel_rfl)) ?_
    (first | refine wd_f rfl (f_loadb 0 rfl Try.underlying22 rfl rfl rfl) ?_ | refine wd_f rfl (f_loadb 1 rfl Try.underlying22 rfl rfl rfl) ?_ | refine wd_f rfl (f_loadb 2 rfl Try.underlying22 rfl rfl rfl) ?_ | refine wd_f rfl (f_loadb 3 rfl Try.underlying22 rfl rfl rfl) ?_ | refine wd_f rfl (f_loadb 4 rfl Try.underlying22 rfl rfl rfl) ?_ | refine wd_f rfl (f_loadb 5 rfl Try.underlying22 rfl rfl rfl) ?_ | refine wd_f rfl (f_loadb 6 rfl Try.underlying22 rfl rfl rfl) ?_)
    refine wd_f rfl (f_move rfl) ?_
    refine wd_f rfl (f_nilCheck rfl) ?_
    refine wd_f rfl (f_fieldAddr 1 rfl Try.underlying68 rfl rfl (by kernel_rfl)) ?_
    (first | refine wd_f rfl (f_loadb 0 rfl Try.underlying3 rfl rfl rfl) ?_ | refine wd_f rfl (f_loadb 1 rfl Try.underlying3 rfl rfl rfl) ?_ | refine wd_f rfl (f_loadb 2 rfl Try.underlying3 rfl rfl rfl) ?_ | refine wd_f rfl (f_loadb 3 rfl Try.underlying3 rfl rfl rfl) ?_ | refine wd_f rfl (f_loadb 4 rfl Try.underlying3 rfl rfl rfl) ?_ | refine wd_f rfl (f_loadb 5 rfl Try.underlying3 rfl rfl rfl) ?_ | refine wd_f rfl (f_loadb 6 rfl Try.underlying3 rfl rfl rfl) ?_)
    refine wd_f rfl (f_sub rfl rfl (by omega)) ?_
    refine wd_f rfl (f_indexAddr 1 (i := p) rfl rfl Try.underlying22 (by kernel_rfl) (by omega) (by omega)) ?_
    refine wd_f rfl (f_loado rfl Try.underlying3 rfl (d1 (p * 1) _ (iv_get1 L p (by omega))) hF) ?_
    refine wd_f rfl (f_move rfl) ?_
    refine wd_e rfl (e_call0 rfl Try.func48 (by kernel_rfl) (fun w hh => within_spec _ n w hn)) ?_
    rintro _ _ w4 ⟨_, rfl, y, rfl, hy, rfl⟩
    refine ⟨_, List.perm_append_comm_assoc _ _ _, ?_⟩
    refine wd_f rfl (f_assign rfl) ?_
    refine wd_end [(4, _)] ⟨rfl, trivial⟩ ?_
    refine w_ret ?_
    refine ⟨_, _, fun a ha hh => results_tmps Try.results32 rfl a ha _, List.Sublist.refl _, ?_⟩
    exact ⟨y, p + 1, rfl, hy, rfl, by omega⟩
theorem new_spec (A : Option Addr) (l c : Nat) (w : World) : Spec Try.prog 9 [.slice A l c] w Nil fun r H => ∃ b, r = .pointer (some ⟨b, 0, .none⟩) ∧ H = [deck b (.slice A l c) 0] := by
  refine enter (n := 6) Try.func9 rfl rfl [(0, _)] rfl ⟨rfl, trivial⟩ (Holds.start _ _) ?_
  refine w_seq ?_
  refine w_reg ?_
  refine wl_f (f_assign rfl) ?_
  refine wl_end [(0, _)] ⟨rfl, trivial⟩ ?_
  refine w_seq ?_
  refine w_reg ?_
  refine wl_f (f_move rfl) ?_
  refine wl_f (f_build (us := [(0, .slice A l c)]) (v := .agg [.slice A l c, .int .i64 0].toArray) rfl (fun w => by kernel_rfl)) ?_
  refine wl_e (e_box (cs := [_, _]) rfl rfl) ?_
  rintro _ _ w1_2 ⟨b1_2, rfl, rfl⟩
  refine wl_f (f_assign rfl) ?_
  refine wl_end [(2, _)] ⟨rfl, trivial⟩ ?_
  refine w_ret ?_
  refine ⟨_, _, fun a ha hh => results_tmps Try.results9 rfl a ha _, List.Sublist.refl _, ?_⟩
  exact ⟨_, rfl, rfl⟩
theorem u64v_set {l : List Nat} {x : Nat} (a : Nat) (hx : x < l.length) : (u64v l).take (0 + x * 1) ++ [.int .u64 (a : Int)] ++ (u64v l).drop (0 + x * 1 + 1) = u64v (l.set x a) := by
  rw [List.set_eq_take_append_cons_drop, if_pos hx]
  simp [u64v, List.map_take, List.map_drop]
theorem made1 (n : Nat) : (madeCells (Value.int .u64 0).cells (n * 1)).toList = u64v (List.replicate n 0) := by
  simp only [madeCells, Array.toList_map, Array.toList_range, Nat.mul_one]
  have h : ∀ i, ((Value.int .u64 0).cells)[i % (Value.int .u64 0).cells.size]! = Value.int .u64 ((0 : Nat) : Int) := fun i => by
    show (#[Value.int .u64 0] : Array Value)[i % 1]! = _
    rw [Nat.mod_one]; rfl
  induction n with
  | zero => rfl
  | succ n ih => rw [List.range_succ, List.map_append, ih, List.replicate_succ']; simp only [u64v, List.map_append, List.map_cons, List.map_nil, h]
set_option maxHeartbeats 1000000 in
theorem short_spec (b : Nat) (lv : Value) (L : List Int) (p : Nat) (w : World) (hd : DRd w b lv L p) (hs : Holds w (deck b lv p).foot [deck b lv p] w) :
    Spec Try.prog 10 [.pointer (some ⟨b, 0, .none⟩)] w (deck b lv p).foot fun r H => ∃ (s : ByteArray) (p' : Nat), r = .string s ∧ s.size ≤ 9 ∧ H = [deck b lv p'] ∧ p' ≤ L.length := by
  refine enter (n := 14) Try.func10 rfl rfl [(0, _)] rfl ⟨rfl, trivial⟩ hs ?_
  refine w_seq ?_
  refine w_reg ?_
  refine wl_f (f_assign rfl) ?_
  refine wl_end [(0, _)] ⟨rfl, trivial⟩ ?_
  refine w_seq ?_
  refine w_drawk [(0, true), (4, true), (1, false), (2, true), (3, true), (5, false), (6, true), (7, true), (8, false), (9, false), (10, true), (11, true)] ([]) ([_]) mixed (by kernel_rfl) (by kernel_rfl) rfl rfl (List.Perm.refl _) (fun w1_ => ?_)
  refine wk_f rfl (f_move rfl) ?_
  refine wk_f rfl (f_move rfl) ?_
  refine wk_e rfl (e_call1 (deck b lv p) [] rfl Try.func32 (by kernel_rfl) (List.Perm.refl _) (fun w hh hs' => next_spec b lv L p 2 w ⟨hd.1.old1 hh (List.Perm.refl _), hd.2⟩ hs' (by omega))) ?_
  rintro _ _ w1 ⟨_, rfl, y1, p1, rfl, hy1, rfl, hp1⟩
  refine ⟨_, List.Perm.refl _, ?_⟩
  refine wk_f rfl (f_eqv (v' := .int .i64 ((1 + y1 : Nat) : Int)) (f_add rfl rfl (by omega)) (by congr 1)) ?_
  refine wk_f rfl (f_slices (l := 0) (u := 1 + y1) rfl Try.underlying9 rfl ⟨_, rfl⟩ (by omega) (show 1 + y1 ≤ 8 by omega)) ?_
  refine wk_e rfl (e_call1 (deck b lv p1) [] rfl Try.func32 (by kernel_rfl) (List.Perm.refl _) (fun w hh hs' => next_spec b lv L p1 5 w ⟨hd.1.old1 hh (List.Perm.refl _), hd.2.1, hp1⟩ hs' (by omega))) ?_
  rintro _ _ w2 ⟨_, rfl, y2, p2, rfl, hy2, rfl, hp2⟩
  refine ⟨_, List.Perm.refl _, ?_⟩
  refine wk_f rfl (f_eqv (v' := .int .i64 ((97 + y2 : Nat) : Int)) (f_add rfl rfl (by omega)) (by congr 1)) ?_
  refine wk_f rfl (f_convb rfl Try.underlying3 Try.underlying5 (by omega)) ?_
  refine wk_e rfl (e_lit1 (cs := [_]) t44 rfl rfl rfl (by omega)) ?_
  rintro _ _ w1_8 ⟨b1_8, rfl, rfl⟩
  refine ⟨_, List.perm_middle.symm, ?_⟩
  refine wk_e rfl (f_b2s (xs := [97 + y2]) rfl Try.underlying44 Try.underlying5 Try.underlying9 (fun w hh => Rd.held0 hh (i := 0) rfl)).eff ?_
  rintro _ _ _ ⟨rfl, rfl⟩
  refine ⟨_, List.Perm.refl _, ?_⟩
  refine wk_f rfl (f_adds rfl rfl (by rw [str_size, ByteArray.size_extract]; show min (1 + y1) 8 - 0 + 1 ≤ _; omega)) ?_
  refine wk_f rfl (f_assign rfl) ?_
  refine wk_endp [(2, _)] [1] ⟨rfl, trivial⟩ rfl ?_
  refine w_ret ?_
  refine ⟨_, _, fun a ha hh => results_tmps Try.results10 rfl a ha _, List.Sublist.refl _, ?_⟩
  exact ⟨_, p2, rfl, by rw [ByteArray.size_append, str_size, ByteArray.size_extract]; show min (1 + y1) 8 - 0 + 1 ≤ _; omega, rfl, hp2⟩
end Go.Proofs.Ytkoklfagmbaapaa
