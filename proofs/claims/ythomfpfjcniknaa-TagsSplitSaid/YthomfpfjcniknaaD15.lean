/- Splitting a key: both functions answer alike. -/
import Derived.Test.YthomfpfjcniknaaE3
namespace Go.Proofs.Ythomfpfjcniknaa
open Go.RowKit

theorem extract_str (s : ByteArray) (i j : Nat) : s.extract i j = str (((sb s).drop i).take (j - i)) := by
  apply ByteArray.ext
  apply Array.ext'
  simp only [ByteArray.data_extract, Array.toList_extract, List.extract_eq_take_drop, str, sb, ← List.map_drop, ← List.map_take, List.map_map]
  rw [List.map_congr_left (g := id) (fun x _ => by simp)]
  simp
theorem sb_str {l : List Nat} (hl : ∀ x ∈ l, x < 256) : sb (str l) = l := by
  simp only [sb, str, List.map_map]
  rw [List.map_congr_left (g := id) (fun x hx => by simp [Nat.mod_eq_of_lt (hl x hx)])]
  simp
/-- The first text of a key, and the rest. -/
def cutS (s : ByteArray) : Option (ByteArray × ByteArray) :=
  match sb s with
  | [] => none
  | n :: l => if l.length < n then none else some (str (l.take n), str (l.drop n))
def h0 (s : ByteArray) : Nat := (sb s).headD 0
theorem h0_at (s : ByteArray) (h : s.size ≠ 0) : ∃ b : UInt8, s.data[0]? = some b ∧ b.toNat = h0 s := by
  obtain ⟨b, h1, h2⟩ := sb_at s 0 (by omega)
  refine ⟨b, h1, ?_⟩
  unfold h0
  cases hs : sb s with
  | nil => rw [hs] at h2; cases h2
  | cons a l => rw [hs] at h2; simp at h2; simp [h2]
theorem h0_lt (s : ByteArray) : h0 s < 256 := by
  unfold h0
  cases hs : sb s with
  | nil => simp
  | cons a l => exact sb_lt s a (by rw [hs]; simp)
theorem cutS_none {s : ByteArray} (h : s.size = 0 ∨ s.size < 1 + h0 s) : cutS s = none := by
  have hl := sb_len s
  unfold cutS
  unfold h0 at h
  cases hs : sb s with
  | nil => rfl
  | cons a l =>
    rw [hs] at hl h
    simp only [List.length_cons] at hl
    simp only [List.headD_cons] at h
    simp only
    rw [if_pos (by omega)]
theorem cutS_some {s : ByteArray} (h : ¬ (s.size = 0 ∨ s.size < 1 + h0 s)) : cutS s = some (s.extract 1 (1 + h0 s), s.extract (1 + h0 s) s.size) := by
  have hl := sb_len s
  rw [extract_str, extract_str]
  unfold cutS
  unfold h0 at h ⊢
  cases hs : sb s with
  | nil => rw [hs] at hl; simp at hl; omega
  | cons a l =>
    rw [hs] at hl h
    simp only [List.length_cons] at hl
    simp only [List.headD_cons] at h
    simp only [List.headD_cons]
    rw [if_neg (by omega), Nat.add_comm 1 a, List.drop_succ_cons, List.drop_succ_cons, List.drop_zero, List.take_of_length_le (l := l.drop a) (by rw [List.length_drop]; omega), Nat.add_sub_cancel]
theorem cutS_size {s a r : ByteArray} (h : cutS s = some (a, r)) : r.size + 1 ≤ s.size ∧ a.size ≤ s.size := by
  have hl := sb_len s
  unfold cutS at h
  cases hs : sb s with
  | nil => rw [hs] at h; cases h
  | cons n l =>
    rw [hs] at hl h
    simp only at h
    split at h
    · cases h
    · simp only [Option.some.injEq, Prod.mk.injEq] at h
      obtain ⟨rfl, rfl⟩ := h
      simp only [List.length_cons] at hl
      rw [str_size, str_size, List.length_drop, List.length_take]
      omega

def cutA (s : ByteArray) : ByteArray := ((cutS s).getD (⟨#[]⟩, ⟨#[]⟩)).1
def cutR (s : ByteArray) : ByteArray := ((cutS s).getD (⟨#[]⟩, ⟨#[]⟩)).2
theorem cutR_le (s : ByteArray) : (cutR s).size ≤ s.size := by
  unfold cutR
  cases h : cutS s with
  | none => exact Nat.zero_le _
  | some x => have := (cutS_size (show cutS s = some (x.1, x.2) from h)).1; simp only [Option.getD_some]; omega

theorem cut_spec (s : ByteArray) (w : World) (hs : s.size ≤ 140737488355328) : Spec Try.prog 60 [.string s] w Nil fun r H => r = .tuple #[.string (cutA s), .string (cutR s), .bool (cutS s).isSome] ∧ H = [] := by
  have hh := h0_lt s
  refine enter (n := 27) Try.func60 rfl rfl [(0, _)] rfl ⟨rfl, trivial⟩ (Holds.start _ _) ?_
  refine w_seq ?_
  refine w_reg ?_
  refine wl_f (f_assign rfl) ?_
  refine wl_f (f_assign rfl) ?_
  refine wl_f (f_assign rfl) ?_
  refine wl_end [(0, _)] ⟨rfl, trivial⟩ ?_
  refine w_seq ?_
  refine w_seq ?_
  refine w_reg ?_
  refine wl_f (f_move rfl) ?_
  refine wl_f (f_eqls rfl rfl) ?_
  refine wl_f (f_move rfl) ?_
  refine wl_or (j := 2) (c := decide ((s.size : Int) - 1 < (h0 s : Int))) 7 [(0, _)] ⟨rfl, trivial⟩ rfl rfl rfl rfl rfl (fun hg1_10 => ?_) (fun w1_10 => ?_)
  · skip
    refine wl_gf rfl rfl (f_move rfl) ?_
    refine wl_gf rfl rfl (f_lens rfl Try.underlying9) ?_
    refine wl_gf rfl rfl (f_sub rfl rfl (by omega)) ?_
    refine wl_gf rfl rfl (f_move rfl) ?_
    obtain ⟨b, hb, hb0⟩ := h0_at s (fun h => by have := size0 h; simp [this] at hg1_10)
    refine wl_gf rfl rfl (f_eqv (f_indexs rfl rfl Try.underlying9 rfl hb) (by rw [hb0])) ?_
    refine wl_gf rfl rfl (f_convi rfl Try.underlying5 Try.underlying3 (by omega)) ?_
    refine wl_gf rfl rfl (f_lss rfl rfl) ?_
    exact wl_pend rfl rfl ⟨rfl, trivial⟩ (List.Sublist.refl _)
  refine wl_end [(0, _), (16, _)] ⟨rfl, rfl, trivial⟩ ?_
  refine w_ifb rfl (fun hc1 => ?_) (fun hc1 => ?_)
  · skip
    simp only [Bool.or_eq_true, decide_eq_true_eq] at hc1
    have hcs := cutS_none (s := s) (hc1.elim (fun h => .inl (by rw [h]; rfl)) (fun h => .inr (by omega)))
    refine w_seq ?_
    refine w_reg ?_
    refine wl_f (f_assign rfl) ?_
    refine wl_f (f_assign rfl) ?_
    refine wl_f (f_assign rfl) ?_
    refine wl_end [(2, _), (3, _), (4, _)] ⟨rfl, rfl, rfl, trivial⟩ ?_
    refine w_ret ?_
    refine ⟨_, _, fun a ha hh => results_tmps Try.results60 rfl a ha _, List.Sublist.refl _, ?_⟩
    exact ⟨by rw [cutA, cutR, hcs]; rfl, rfl⟩
  · skip
    simp only [Bool.or_eq_true, decide_eq_true_eq, not_or] at hc1
    have hs0 : s.size ≠ 0 := fun h => hc1.1 (size0 h)
    have hcs := cutS_some (s := s) (by omega)
    obtain ⟨b, hb, hb0⟩ := h0_at s hs0
    refine w_skip ?_
    refine w_seq ?_
    refine w_reg ?_
    refine wl_f (f_move rfl) ?_
    refine wl_f (f_eqv (f_indexs rfl rfl Try.underlying9 rfl hb) (by rw [hb0])) ?_
    refine wl_f (f_convi rfl Try.underlying5 Try.underlying3 (by omega)) ?_
    refine wl_f (f_add rfl rfl (by omega)) ?_
    refine wl_f (f_assign rfl) ?_
    refine wl_end [(0, _), (5, _)] ⟨rfl, rfl, trivial⟩ ?_
    refine w_seq ?_
    refine w_draw [(0, true), (1, true), (2, true), (3, true), (4, true), (5, true), (6, true), (7, true), (8, true)] (_) ([]) mixed (by kernel_rfl) (by kernel_rfl) rfl (perm_all _) (fun w4_ => ?_)
    refine wd_f rfl (f_move rfl) ?_
    refine wd_f rfl (f_move rfl) ?_
    refine wd_f rfl (f_slices (l := 1) (u := 1 + h0 s) rfl Try.underlying9 ⟨_, rfl⟩ ⟨_, rfl⟩ (by omega) (by omega)) ?_
    refine wd_f rfl (f_move rfl) ?_
    refine wd_f rfl (f_move rfl) ?_
    refine wd_f rfl (f_slices (l := 1 + h0 s) (u := s.size) rfl Try.underlying9 ⟨_, rfl⟩ rfl (by omega) (by omega)) ?_
    refine wd_f rfl (f_assign rfl) ?_
    refine wd_f rfl (f_assign rfl) ?_
    refine wd_f rfl (f_assign rfl) ?_
    refine wd_end [(2, _), (3, _), (4, _)] ⟨rfl, rfl, rfl, trivial⟩ ?_
    refine w_ret ?_
    refine ⟨_, _, fun a ha hh => results_tmps Try.results60 rfl a ha _, List.Sublist.refl _, ?_⟩
    exact ⟨by rw [cutA, cutR, hcs]; rfl, rfl⟩
theorem part_spec (s : ByteArray) (w : World) (hs : s.size ≤ 140737488355328) : Spec Try.prog 61 [.string s] w Nil fun r H => r = .tuple #[.string (cutA s), .string (cutR s), .bool (cutS s).isSome] ∧ H = [] := by
  have hh := h0_lt s
  refine enter (n := 29) Try.func61 rfl rfl [(0, _)] rfl ⟨rfl, trivial⟩ (Holds.start _ _) ?_
  refine w_seq ?_
  refine w_reg ?_
  refine wl_f (f_assign rfl) ?_
  refine wl_f (f_assign rfl) ?_
  refine wl_f (f_assign rfl) ?_
  refine wl_end [(0, _)] ⟨rfl, trivial⟩ ?_
  refine w_seq ?_
  refine w_seq ?_
  refine w_reg ?_
  refine wl_f (f_move rfl) ?_
  refine wl_f (f_lens rfl Try.underlying9) ?_
  refine wl_f (f_eql rfl rfl) ?_
  refine wl_f (f_move rfl) ?_
  refine wl_or (j := 3) (c := decide ((s.size : Int) < 1 + (h0 s : Int))) 7 [(0, _)] ⟨rfl, trivial⟩ rfl rfl rfl rfl rfl (fun hg1_11 => ?_) (fun w1_11 => ?_)
  · skip
    refine wl_gf rfl rfl (f_move rfl) ?_
    refine wl_gf rfl rfl (f_lens rfl Try.underlying9) ?_
    refine wl_gf rfl rfl (f_move rfl) ?_
    obtain ⟨b, hb, hb0⟩ := h0_at s (fun h => by simp [h] at hg1_11)
    refine wl_gf rfl rfl (f_eqv (f_indexs rfl rfl Try.underlying9 rfl hb) (by rw [hb0])) ?_
    refine wl_gf rfl rfl (f_convi rfl Try.underlying5 Try.underlying3 (by omega)) ?_
    refine wl_gf rfl rfl (f_add rfl rfl (by omega)) ?_
    refine wl_gf rfl rfl (f_lss rfl rfl) ?_
    exact wl_pend rfl rfl ⟨rfl, trivial⟩ (List.Sublist.refl _)
  refine wl_end [(0, _), (16, _)] ⟨rfl, rfl, trivial⟩ ?_
  refine w_ifb rfl (fun hc1 => ?_) (fun hc1 => ?_)
  · skip
    simp only [Bool.or_eq_true, decide_eq_true_eq] at hc1
    have hcs := cutS_none (s := s) (by omega)
    refine w_seq ?_
    refine w_reg ?_
    refine wl_f (f_assign rfl) ?_
    refine wl_f (f_assign rfl) ?_
    refine wl_f (f_assign rfl) ?_
    refine wl_end [(2, _), (3, _), (4, _)] ⟨rfl, rfl, rfl, trivial⟩ ?_
    refine w_ret ?_
    refine ⟨_, _, fun a ha hh => results_tmps Try.results61 rfl a ha _, List.Sublist.refl _, ?_⟩
    exact ⟨by rw [cutA, cutR, hcs]; rfl, rfl⟩
  · skip
    simp only [Bool.or_eq_true, decide_eq_true_eq, not_or] at hc1
    have hcs := cutS_some (s := s) (by omega)
    obtain ⟨b, hb, hb0⟩ := h0_at s (by omega)
    refine w_skip ?_
    refine w_seq ?_
    refine w_draw [(0, true), (1, true), (2, true), (3, true), (4, true), (5, true), (6, true), (7, true), (8, true), (9, true), (10, true), (11, true), (12, true), (13, true), (14, true)] (_) ([]) mixed (by kernel_rfl) (by kernel_rfl) rfl (perm_all _) (fun w3_ => ?_)
    refine wd_f rfl (f_move rfl) ?_
    refine wd_f rfl (f_move rfl) ?_
    refine wd_f rfl (f_eqv (f_indexs rfl rfl Try.underlying9 rfl hb) (by rw [hb0])) ?_
    refine wd_f rfl (f_convi rfl Try.underlying5 Try.underlying3 (by omega)) ?_
    refine wd_f rfl (f_add rfl rfl (by omega)) ?_
    refine wd_f rfl (f_slices (l := 1) (u := 1 + h0 s) rfl Try.underlying9 ⟨_, rfl⟩ ⟨_, rfl⟩ (by omega) (by omega)) ?_
    refine wd_f rfl (f_move rfl) ?_
    refine wd_f rfl (f_move rfl) ?_
    refine wd_f rfl (f_eqv (f_indexs rfl rfl Try.underlying9 rfl hb) (by rw [hb0])) ?_
    refine wd_f rfl (f_convi rfl Try.underlying5 Try.underlying3 (by omega)) ?_
    refine wd_f rfl (f_add rfl rfl (by omega)) ?_
    refine wd_f rfl (f_slices (l := 1 + h0 s) (u := s.size) rfl Try.underlying9 ⟨_, rfl⟩ rfl (by omega) (by omega)) ?_
    refine wd_f rfl (f_assign rfl) ?_
    refine wd_f rfl (f_assign rfl) ?_
    refine wd_f rfl (f_assign rfl) ?_
    refine wd_end [(2, _), (3, _), (4, _)] ⟨rfl, rfl, rfl, trivial⟩ ?_
    refine w_ret ?_
    refine ⟨_, _, fun a ha hh => results_tmps Try.results61 rfl a ha _, List.Sublist.refl _, ?_⟩
    exact ⟨by rw [cutA, cutR, hcs]; rfl, rfl⟩

/-! ### Split -/
def parse : Nat → ByteArray → Option (List Tg)
  | 0, s => if s.size = 0 then some [] else none
  | f + 1, s => if s.size = 0 then some [] else match cutS s with
    | none => none
    | some (a, r) => match cutS r with
      | none => none
      | some (v, r') => (parse f r').map ((a, v) :: ·)
theorem parse_zero {f : Nat} {s : ByteArray} (h : s.size = 0) : parse f s = some [] := by cases f <;> simp [parse, h]
theorem parse_none1 {f : Nat} {s : ByteArray} (h : s.size ≠ 0) (h1 : cutS s = none) : parse (f + 1) s = none := by rw [parse, if_neg h, h1]
theorem parse_none2 {f : Nat} {s a r : ByteArray} (h : s.size ≠ 0) (h1 : cutS s = some (a, r)) (h2 : cutS r = none) : parse (f + 1) s = none := by rw [parse, if_neg h, h1]; simp only [h2]
theorem parse_some {f : Nat} {s a r v r' : ByteArray} (h : s.size ≠ 0) (h1 : cutS s = some (a, r)) (h2 : cutS r = some (v, r')) : parse (f + 1) s = (parse f r').map ((a, v) :: ·) := by rw [parse, if_neg h, h1]; simp only [h2]
def splitOut (s : ByteArray) : List Tg × Int :=
  if 255 < s.size then ([], 4) else match parse 255 s with
  | none => ([], 3)
  | some out => if (keyOut out).2 ≠ 0 ∨ str (keyOut out).1 ≠ s then ([], 3) else (out, 0)
def SplitSpec (f : FuncId) : Prop := ∀ (s : ByteArray) (w : World), s.size ≤ 140737488355328 →
  Spec Try.prog f [.string s] w Nil fun r H => ∃ u, r = .tuple #[u, .int .i64 (splitOut s).2] ∧ H = [row u 35 2 (splitOut s).1.length (tcells (splitOut s).1)]
theorem split_bad {s : ByteArray} {e : Int} (h : splitOut s = ([], e)) : ∃ u : Value, (Value.tuple #[.slice .none 0 0, .int .i64 e]) = .tuple #[u, .int .i64 (splitOut s).2] ∧
    [row (.slice .none 0 0) 35 2 0 []] = [row u 35 2 (splitOut s).1.length (tcells (splitOut s).1)] := by
  rw [h]; exact ⟨_, rfl, rfl⟩
theorem split_none {s : ByteArray} (h0 : ¬ 255 < s.size) (h : parse 255 s = none) : splitOut s = ([], 3) := by rw [splitOut, if_neg h0, h]
theorem split_some {s : ByteArray} {out : List Tg} (h0 : ¬ 255 < s.size) (h : parse 255 s = some out) : splitOut s = if (keyOut out).2 ≠ 0 ∨ str (keyOut out).1 ≠ s then ([], 3) else (out, 0) := by rw [splitOut, if_neg h0, h]

set_option maxHeartbeats 2000000 in
theorem split_spec : SplitSpec 38 := by
  intro s w hs
  refine enter (n := 51) Try.func38 rfl rfl [(0, _)] rfl ⟨rfl, trivial⟩ (Holds.start _ _) ?_
  refine w_seq ?_
  refine w_reg ?_
  refine wl_f (f_assign rfl) ?_
  refine wl_f (f_assign rfl) ?_
  refine wl_end [(0, _)] ⟨rfl, trivial⟩ ?_
  refine w_seq ?_
  refine w_seq ?_
  refine w_reg ?_
  refine wl_f (f_move rfl) ?_
  refine wl_f (f_lens rfl Try.underlying9) ?_
  refine wl_f (f_gtr rfl rfl) ?_
  refine wl_end [(0, _), (12, _)] ⟨rfl, rfl, trivial⟩ ?_
  refine w_ifd rfl (fun hc1 => ?_) (fun hc1 => ?_)
  · skip
    refine w_nilrow 35 2 ?_
    refine w_seq ?_
    refine w_reg ?_
    refine wl_f (f_assign rfl) ?_
    refine wl_f (f_assign rfl) ?_
    refine wl_end [(2, _), (3, _)] ⟨rfl, rfl, trivial⟩ ?_
    refine w_ret ?_
    refine ⟨_, _, fun a ha hh => results_tmps Try.results38 rfl a ha _, List.Sublist.refl _, ?_⟩
    exact split_bad (by rw [splitOut, if_pos (by omega)])
  · skip
    refine w_skip ?_
    refine w_seq ?_
    refine w_reg ?_
    refine wl_f (f_assign rfl) ?_
    refine wl_end [(0, _), (4, _)] ⟨rfl, rfl, trivial⟩ ?_
    refine w_seq ?_
    refine w_seq ?_
    refine w_reg ?_
    refine wl_f (f_move rfl) ?_
    refine wl_f (f_assign rfl) ?_
    refine wl_end [(0, _), (4, _), (5, _)] ⟨rfl, rfl, rfl, trivial⟩ ?_
    refine w_block ?_
    have h255 : ¬ 255 < s.size := by omega
    refine w_nilrow 35 2 ?_
    refine w_loop (fun k m H w => ∃ (rest : ByteArray) (u : Value) (out : List Tg), m = [(0, .string s), (4, u), (5, .string rest)] ∧ H = [row u 35 2 out.length (tcells out)] ∧ rest.size ≤ k ∧
      parse 255 s = (parse k rest).map (out ++ ·) ∧ out.length + k ≤ 255 ∧ ∀ t ∈ out, t.1.size ≤ 255) 255 ⟨s, _, [], rfl, rfl, by omega, by simp, by simp, by simp⟩ ?_
    rintro k _ _ w1 ⟨rest, u, out, rfl, rfl, hrk, hpar, hok, hsz⟩
    refine w_seq ?_
    refine w_seq ?_
    refine w_reg ?_
    refine wl_f (f_move rfl) ?_
    refine wl_f (f_neqs rfl rfl) ?_
    refine wl_end [(0, _), (4, _), (5, _), (15, _)] ⟨rfl, rfl, rfl, rfl, trivial⟩ ?_
    refine w_ifd rfl (fun hc2 => ?_) (fun hc2 => ?_)
    · skip
      have hr0 : rest.size ≠ 0 := fun h => hc2 (size0 h)
      obtain ⟨k, rfl⟩ : ∃ k', k = k' + 1 := ⟨k - 1, by omega⟩
      refine w_skip ?_
      refine w_block ?_
      refine w_seq ?_
      refine w_reg ?_
      refine wl_e (e_allocs [.string ByteArray.empty, .string ByteArray.empty] (by kernel_rfl)) ?_
      rintro _ _ w6_0 ⟨b6_0, rfl, rfl⟩
      refine wl_end [(0, _), (4, _), (5, _), (6, _)] ⟨rfl, rfl, rfl, rfl, trivial⟩ ?_
      refine w_seq ?_
      refine w_reg ?_
      refine wl_f (f_assign rfl) ?_
      refine wl_end [(0, _), (4, _), (5, _), (6, _)] ⟨rfl, rfl, rfl, rfl, trivial⟩ ?_
      refine w_seq ?_
      refine w_seq ?_
      refine w_reg ?_
      refine wl_f (f_move rfl) ?_
      refine wl_e (e_call0 rfl Try.func60 (by kernel_rfl) (fun w hh => cut_spec rest w (by omega))) ?_
      rintro _ _ w2 ⟨_, rfl, rfl, rfl⟩
      refine wl_f (f_move rfl) ?_
      refine wl_f (f_extract rfl rfl) ?_
      refine wl_f (f_extract rfl rfl) ?_
      refine wl_f (f_extract rfl rfl) ?_
      refine wl_f (f_fieldAddr 0 rfl Try.underlying35 rfl rfl (by kernel_rfl)) ?_
      (first | refine wl_e0 (e_store0 (us := [_]) rfl rfl rfl (by kernel_rfl) (by simp [Value.oneCell']) rfl rfl) ?_ | refine wl_e0 (e_store1 (us := [_]) rfl rfl rfl (by kernel_rfl) (by simp [Value.oneCell']) rfl rfl) ?_ | refine wl_e0 (e_store2 (us := [_]) rfl rfl rfl (by kernel_rfl) (by simp [Value.oneCell']) rfl rfl) ?_ | refine wl_e0 (e_store3 (us := [_]) rfl rfl rfl (by kernel_rfl) (by simp [Value.oneCell']) rfl rfl) ?_)
      rintro _ _ w8_7 rfl
      refine wl_f (f_assign rfl) ?_
      refine wl_f (f_assign rfl) ?_
      refine wl_end [(0, _), (4, _), (5, _), (6, _), (7, _)] ⟨rfl, rfl, rfl, rfl, rfl, trivial⟩ ?_
      refine w_seq ?_
      refine w_reg ?_
      refine wl_f (f_move rfl) ?_
      refine wl_f (f_not rfl rfl) ?_
      refine wl_end [(0, _), (4, _), (5, _), (6, _), (24, _)] ⟨rfl, rfl, rfl, rfl, rfl, trivial⟩ ?_
      refine w_ifb rfl (fun hc3 => ?_) (fun hc3 => ?_)
      · skip
        have hc : cutS rest = none := by simpa using hc3
        refine w_drop [] (List.nil_sublist _) ?_
        refine w_nilrow 35 2 ?_
        refine w_seq ?_
        refine w_reg ?_
        refine wl_f (f_assign rfl) ?_
        refine wl_f (f_assign rfl) ?_
        refine wl_end [(2, _), (3, _)] ⟨rfl, rfl, trivial⟩ ?_
        refine w_ret ?_
        refine ⟨_, _, fun a ha hh => results_tmps Try.results38 rfl a ha _, List.Sublist.refl _, ?_⟩
        exact split_bad (split_none h255 (by rw [hpar, parse_none1 hr0 hc]; rfl))
      · skip
        obtain ⟨⟨a, r⟩, hc⟩ : ∃ x, cutS rest = some x := by
          cases h : cutS rest with
          | none => rw [h] at hc3; simp at hc3
          | some x => exact ⟨x, rfl⟩
        have hca : cutA rest = a := by rw [cutA, hc]; rfl
        have hcr : cutR rest = r := by rw [cutR, hc]; rfl
        rw [hca, hcr]
        obtain ⟨hz1, hz2⟩ := cutS_size hc
        refine w_skip ?_
        refine w_seq ?_
        refine w_seq ?_
        refine w_reg ?_
        refine wl_f (f_move rfl) ?_
        refine wl_e (e_call0 rfl Try.func60 (by kernel_rfl) (fun w hh => cut_spec r w (by omega))) ?_
        rintro _ _ w3 ⟨_, rfl, rfl, rfl⟩
        refine wl_f (f_move rfl) ?_
        refine wl_f (f_extract rfl rfl) ?_
        refine wl_f (f_extract rfl rfl) ?_
        refine wl_f (f_extract rfl rfl) ?_
        refine wl_f (f_fieldAddr 1 rfl Try.underlying35 rfl rfl (by kernel_rfl)) ?_
        (first | refine wl_e0 (e_store0 (us := [_]) rfl rfl rfl (by kernel_rfl) (by simp [Value.oneCell']) rfl rfl) ?_ | refine wl_e0 (e_store1 (us := [_]) rfl rfl rfl (by kernel_rfl) (by simp [Value.oneCell']) rfl rfl) ?_ | refine wl_e0 (e_store2 (us := [_]) rfl rfl rfl (by kernel_rfl) (by simp [Value.oneCell']) rfl rfl) ?_ | refine wl_e0 (e_store3 (us := [_]) rfl rfl rfl (by kernel_rfl) (by simp [Value.oneCell']) rfl rfl) ?_)
        rintro _ _ w11_7 rfl
        refine wl_f (f_assign rfl) ?_
        refine wl_f (f_assign rfl) ?_
        refine wl_end [(0, _), (4, _), (5, _), (6, _), (7, _)] ⟨rfl, rfl, rfl, rfl, rfl, trivial⟩ ?_
        refine w_seq ?_
        refine w_reg ?_
        refine wl_f (f_move rfl) ?_
        refine wl_f (f_not rfl rfl) ?_
        refine wl_end [(0, _), (4, _), (5, _), (6, _), (33, _)] ⟨rfl, rfl, rfl, rfl, rfl, trivial⟩ ?_
        refine w_ifb rfl (fun hc4 => ?_) (fun hc4 => ?_)
        · skip
          have hc' : cutS r = none := by simpa using hc4
          refine w_drop [] (List.nil_sublist _) ?_
          refine w_nilrow 35 2 ?_
          refine w_seq ?_
          refine w_reg ?_
          refine wl_f (f_assign rfl) ?_
          refine wl_f (f_assign rfl) ?_
          refine wl_end [(2, _), (3, _)] ⟨rfl, rfl, trivial⟩ ?_
          refine w_ret ?_
          refine ⟨_, _, fun a ha hh => results_tmps Try.results38 rfl a ha _, List.Sublist.refl _, ?_⟩
          exact split_bad (split_none h255 (by rw [hpar, parse_none2 hr0 hc hc']; rfl))
        · skip
          obtain ⟨⟨v, r'⟩, hc'⟩ : ∃ x, cutS r = some x := by
            cases h : cutS r with
            | none => rw [h] at hc4; simp at hc4
            | some x => exact ⟨x, rfl⟩
          have hca' : cutA r = v := by rw [cutA, hc']; rfl
          have hcr' : cutR r = r' := by rw [cutR, hc']; rfl
          rw [hca', hcr']
          obtain ⟨hz3, hz4⟩ := cutS_size hc'
          refine w_skip ?_
          refine w_reg ?_
          refine wl_f (f_move rfl) ?_
          (first | refine wl_f (f_loadsb (cs := [_, _]) 0 rfl Try.underlying35 rfl (by kernel_rfl) rfl rfl) ?_ | refine wl_f (f_loadsb (cs := [_, _]) 1 rfl Try.underlying35 rfl (by kernel_rfl) rfl rfl) ?_ | refine wl_f (f_loadsb (cs := [_, _]) 2 rfl Try.underlying35 rfl (by kernel_rfl) rfl rfl) ?_ | refine wl_f (f_loadsb (cs := [_, _]) 3 rfl Try.underlying35 rfl (by kernel_rfl) rfl rfl) ?_ | refine wl_f (f_loadsb (cs := [_, _]) 4 rfl Try.underlying35 rfl (by kernel_rfl) rfl rfl) ?_ | refine wl_f (f_loadsb (cs := [_, _]) 5 rfl Try.underlying35 rfl (by kernel_rfl) rfl rfl) ?_ | refine wl_f (f_loadsb (cs := [_, _]) 6 rfl Try.underlying35 rfl (by kernel_rfl) rfl rfl) ?_)
          refine wl_e (e_lit1 (cs := [_, _]) t22 rfl rfl rfl (by omega)) ?_
          rintro _ _ w14_2 ⟨b14_2, rfl, rfl⟩
          refine wl_e (e_app2 t22 rfl rfl (fun w hh => Rd.held0 hh (i := 0) rfl) (by simp [Value.oneCell']) (by omega) (by omega)) ?_
          rintro v14_3 _ w14_3 rfl
          refine wl_f (f_assign rfl) ?_
          refine wl_rm0 (wl_rm0 ?_)
          refine wl_end [(0, _), (4, _), (5, _)] ⟨rfl, rfl, rfl, trivial⟩ ?_
          refine ⟨k, by omega, r', _, out ++ [(a, v)], rfl, by rw [tcells_app, List.length_append]; rfl, by omega, ?_, by simp; omega, fun t ht => ?_⟩
          · rw [hpar, parse_some hr0 hc hc', Option.map_map]
            congr 1
            funext l
            simp
          · rcases List.mem_append.1 ht with ht | ht
            · exact hsz t ht
            · rw [List.mem_singleton] at ht; subst ht; show a.size ≤ 255; omega
    · skip
      have hr0 : rest.size = 0 := by rw [Classical.not_not.1 hc2]; rfl
      rw [parse_zero hr0, Option.map_some, List.append_nil] at hpar
      have hso := split_some h255 hpar
      refine w_exit0 ?_
      refine w_seq ?_
      refine w_seq ?_
      refine w_reg ?_
      refine wl_f (f_move rfl) ?_
      refine wl_e (e_call0 rfl Try.func34 (by kernel_rfl) (fun w hh => key_spec u out w (Rd.held0 hh (i := 0) rfl) (by omega) (fun t ht => by have := hsz t ht; omega))) ?_
      rintro _ _ w4 ⟨_, rfl, rfl, rfl⟩
      refine wl_f (f_move rfl) ?_
      refine wl_f (f_extract rfl rfl) ?_
      refine wl_f (f_extract rfl rfl) ?_
      refine wl_f (f_assign rfl) ?_
      refine wl_f (f_assign rfl) ?_
      refine wl_end [(0, _), (4, _), (8, _), (9, _)] ⟨rfl, rfl, rfl, rfl, trivial⟩ ?_
      refine w_seq ?_
      refine w_reg ?_
      refine wl_f (f_move rfl) ?_
      refine wl_f (f_neq rfl rfl) ?_
      refine wl_f (f_move rfl) ?_
      refine wl_or (j := 2) (c := decide (str (keyOut out).1 ≠ s)) 3 [(4, _)] ⟨rfl, trivial⟩ rfl rfl rfl rfl rfl (fun hg16_6 => ?_) (fun w16_6 => ?_)
      · skip
        refine wl_gf rfl rfl (f_move rfl) ?_
        refine wl_gf rfl rfl (f_move rfl) ?_
        refine wl_gf rfl rfl (f_neqs rfl rfl) ?_
        exact wl_pend rfl rfl ⟨rfl, trivial⟩ (List.Sublist.refl _)
      refine wl_end [(4, _), (49, _)] ⟨rfl, rfl, trivial⟩ ?_
      refine w_ifb rfl (fun hc5 => ?_) (fun hc5 => ?_)
      · skip
        simp only [Bool.or_eq_true, decide_eq_true_eq] at hc5
        rw [if_pos hc5] at hso
        refine w_drop [] (List.nil_sublist _) ?_
        refine w_nilrow 35 2 ?_
        refine w_seq ?_
        refine w_reg ?_
        refine wl_f (f_assign rfl) ?_
        refine wl_f (f_assign rfl) ?_
        refine wl_end [(2, _), (3, _)] ⟨rfl, rfl, trivial⟩ ?_
        refine w_ret ?_
        refine ⟨_, _, fun a ha hh => results_tmps Try.results38 rfl a ha _, List.Sublist.refl _, ?_⟩
        exact split_bad hso
      · skip
        simp only [Bool.or_eq_true, decide_eq_true_eq] at hc5
        rw [if_neg hc5] at hso
        refine w_skip ?_
        refine w_seq ?_
        refine w_reg ?_
        refine wl_f (f_move rfl) ?_
        refine wl_f (f_assign rfl) ?_
        refine wl_f (f_assign rfl) ?_
        refine wl_end [(2, _), (3, _)] ⟨rfl, rfl, trivial⟩ ?_
        refine w_ret ?_
        refine ⟨_, _, fun a ha hh => results_tmps Try.results38 rfl a ha _, List.Sublist.refl _, ?_⟩
        rw [hso]; exact ⟨_, rfl, rfl⟩

set_option maxHeartbeats 2000000 in
theorem rsplit_spec : SplitSpec 39 := by
  intro s w hs
  refine enter (n := 54) Try.func39 rfl rfl [(0, _)] rfl ⟨rfl, trivial⟩ (Holds.start _ _) ?_
  refine w_seq ?_
  refine w_reg ?_
  refine wl_f (f_assign rfl) ?_
  refine wl_f (f_assign rfl) ?_
  refine wl_end [(0, _)] ⟨rfl, trivial⟩ ?_
  refine w_seq ?_
  refine w_seq ?_
  refine w_reg ?_
  refine wl_f (f_move rfl) ?_
  refine wl_f (f_lens rfl Try.underlying9) ?_
  refine wl_f (f_gtr rfl rfl) ?_
  refine wl_end [(0, _), (13, _)] ⟨rfl, rfl, trivial⟩ ?_
  refine w_ifd rfl (fun hc1 => ?_) (fun hc1 => ?_)
  · skip
    refine w_nilrow 35 2 ?_
    refine w_seq ?_
    refine w_reg ?_
    refine wl_f (f_assign rfl) ?_
    refine wl_f (f_assign rfl) ?_
    refine wl_end [(2, _), (3, _)] ⟨rfl, rfl, trivial⟩ ?_
    refine w_ret ?_
    refine ⟨_, _, fun a ha hh => results_tmps Try.results39 rfl a ha _, List.Sublist.refl _, ?_⟩
    exact split_bad (by rw [splitOut, if_pos (by omega)])
  · skip
    refine w_skip ?_
    refine w_seq ?_
    refine w_reg ?_
    refine wl_f (f_assign rfl) ?_
    refine wl_end [(0, _), (4, _)] ⟨rfl, rfl, trivial⟩ ?_
    refine w_seq ?_
    refine w_seq ?_
    refine w_reg ?_
    refine wl_f (f_move rfl) ?_
    refine wl_f (f_assign rfl) ?_
    refine wl_end [(0, _), (4, _), (5, _)] ⟨rfl, rfl, rfl, trivial⟩ ?_
    refine w_block ?_
    have h255 : ¬ 255 < s.size := by omega
    refine w_nilrow 35 2 ?_
    refine w_loop (fun k m H w => ∃ (rest : ByteArray) (u : Value) (out : List Tg), m = [(0, .string s), (4, u), (5, .string rest)] ∧ H = [row u 35 2 out.length (tcells out)] ∧ rest.size ≤ k ∧
      parse 255 s = (parse k rest).map (out ++ ·) ∧ out.length + k ≤ 255 ∧ ∀ t ∈ out, t.1.size ≤ 255) 255 ⟨s, _, [], rfl, rfl, by omega, by simp, by simp, by simp⟩ ?_
    rintro k _ _ w1 ⟨rest, u, out, rfl, rfl, hrk, hpar, hok, hsz⟩
    refine w_seq ?_
    refine w_seq ?_
    refine w_reg ?_
    refine wl_f (f_move rfl) ?_
    refine wl_f (f_neqs rfl rfl) ?_
    refine wl_end [(0, _), (4, _), (5, _), (16, _)] ⟨rfl, rfl, rfl, rfl, trivial⟩ ?_
    refine w_ifd rfl (fun hc2 => ?_) (fun hc2 => ?_)
    · skip
      have hr0 : rest.size ≠ 0 := fun h => hc2 (size0 h)
      have hrle := cutR_le rest
      obtain ⟨k, rfl⟩ : ∃ k', k = k' + 1 := ⟨k - 1, by omega⟩
      refine w_skip ?_
      refine w_block ?_
      refine w_seq ?_
      refine w_reg ?_
      refine wl_e (e_allocs [.string ByteArray.empty, .string ByteArray.empty] (by kernel_rfl)) ?_
      rintro _ _ w6_0 ⟨b6_0, rfl, rfl⟩
      refine wl_end [(0, _), (4, _), (5, _), (6, _)] ⟨rfl, rfl, rfl, rfl, trivial⟩ ?_
      refine w_seq ?_
      refine w_reg ?_
      refine wl_f (f_assign rfl) ?_
      refine wl_f (f_assign rfl) ?_
      refine wl_end [(0, _), (4, _), (5, _), (6, _)] ⟨rfl, rfl, rfl, rfl, trivial⟩ ?_
      refine w_seq ?_
      refine w_reg ?_
      refine wl_f (f_move rfl) ?_
      refine wl_e (e_call0 rfl Try.func61 (by kernel_rfl) (fun w hh => part_spec rest w (by omega))) ?_
      rintro _ _ w2 ⟨_, rfl, rfl, rfl⟩
      refine wl_f (f_move rfl) ?_
      refine wl_f (f_extract rfl rfl) ?_
      refine wl_f (f_extract rfl rfl) ?_
      refine wl_f (f_extract rfl rfl) ?_
      refine wl_f (f_fieldAddr 0 rfl Try.underlying35 rfl rfl (by kernel_rfl)) ?_
      (first | refine wl_e0 (e_store0 (us := [_]) rfl rfl rfl (by kernel_rfl) (by simp [Value.oneCell']) rfl rfl) ?_ | refine wl_e0 (e_store1 (us := [_]) rfl rfl rfl (by kernel_rfl) (by simp [Value.oneCell']) rfl rfl) ?_ | refine wl_e0 (e_store2 (us := [_]) rfl rfl rfl (by kernel_rfl) (by simp [Value.oneCell']) rfl rfl) ?_ | refine wl_e0 (e_store3 (us := [_]) rfl rfl rfl (by kernel_rfl) (by simp [Value.oneCell']) rfl rfl) ?_)
      rintro _ _ w8_7 rfl
      refine wl_f (f_assign rfl) ?_
      refine wl_f (f_assign rfl) ?_
      refine wl_end [(0, _), (4, _), (5, _), (6, _), (7, _)] ⟨rfl, rfl, rfl, rfl, rfl, trivial⟩ ?_
      refine w_seq ?_
      refine w_reg ?_
      refine wl_f (f_move rfl) ?_
      refine wl_e (e_call0 rfl Try.func61 (by kernel_rfl) (fun w hh => part_spec (cutR rest) w (by omega))) ?_
      rintro _ _ w3 ⟨_, rfl, rfl, rfl⟩
      refine wl_f (f_move rfl) ?_
      refine wl_f (f_extract rfl rfl) ?_
      refine wl_f (f_extract rfl rfl) ?_
      refine wl_f (f_extract rfl rfl) ?_
      refine wl_f (f_fieldAddr 1 rfl Try.underlying35 rfl rfl (by kernel_rfl)) ?_
      (first | refine wl_e0 (e_store0 (us := [_]) rfl rfl rfl (by kernel_rfl) (by simp [Value.oneCell']) rfl rfl) ?_ | refine wl_e0 (e_store1 (us := [_]) rfl rfl rfl (by kernel_rfl) (by simp [Value.oneCell']) rfl rfl) ?_ | refine wl_e0 (e_store2 (us := [_]) rfl rfl rfl (by kernel_rfl) (by simp [Value.oneCell']) rfl rfl) ?_ | refine wl_e0 (e_store3 (us := [_]) rfl rfl rfl (by kernel_rfl) (by simp [Value.oneCell']) rfl rfl) ?_)
      rintro _ _ w9_7 rfl
      refine wl_f (f_assign rfl) ?_
      refine wl_f (f_assign rfl) ?_
      refine wl_end [(0, _), (4, _), (5, _), (6, _), (7, _), (8, _)] ⟨rfl, rfl, rfl, rfl, rfl, rfl, trivial⟩ ?_
      refine w_seq ?_
      refine w_seq ?_
      refine w_reg ?_
      refine wl_f (f_move rfl) ?_
      refine wl_f (f_not rfl rfl) ?_
      refine wl_f (f_move rfl) ?_
      refine wl_or (j := 2) (c := !(cutS (cutR rest)).isSome) 2 [(0, _), (4, _), (5, _), (6, _)] ⟨rfl, rfl, rfl, rfl, trivial⟩ rfl rfl rfl rfl rfl (fun hg10_5 => ?_) (fun w10_5 => ?_)
      · skip
        refine wl_gf rfl rfl (f_move rfl) ?_
        refine wl_gf rfl rfl (f_not rfl rfl) ?_
        exact wl_pend rfl rfl ⟨rfl, rfl, rfl, rfl, trivial⟩ (List.Sublist.refl _)
      refine wl_end [(0, _), (4, _), (5, _), (6, _), (36, _)] ⟨rfl, rfl, rfl, rfl, rfl, trivial⟩ ?_
      refine w_ifb rfl (fun hc3 => ?_) (fun hc3 => ?_)
      · skip
        have hpn : parse (k + 1) rest = none := by
          simp only [Bool.or_eq_true, Bool.not_eq_true', Option.isSome_eq_false_iff, Option.isNone_iff_eq_none] at hc3
          cases hc : cutS rest with
          | none => exact parse_none1 hr0 hc
          | some x =>
            rw [hc] at hc3
            have hcr : cutR rest = x.2 := by rw [cutR, hc]; rfl
            rw [hcr] at hc3
            exact parse_none2 hr0 (show cutS rest = some (x.1, x.2) from hc) (hc3.resolve_left (by simp))
        refine w_drop [] (List.nil_sublist _) ?_
        refine w_nilrow 35 2 ?_
        refine w_seq ?_
        refine w_reg ?_
        refine wl_f (f_assign rfl) ?_
        refine wl_f (f_assign rfl) ?_
        refine wl_end [(2, _), (3, _)] ⟨rfl, rfl, trivial⟩ ?_
        refine w_ret ?_
        refine ⟨_, _, fun a ha hh => results_tmps Try.results39 rfl a ha _, List.Sublist.refl _, ?_⟩
        exact split_bad (split_none h255 (by rw [hpar, hpn]; rfl))
      · skip
        simp only [Bool.or_eq_true, Bool.not_eq_true', not_or, Bool.not_eq_false] at hc3
        obtain ⟨⟨a, r⟩, hc⟩ := Option.isSome_iff_exists.1 hc3.1
        have hca : cutA rest = a := by rw [cutA, hc]; rfl
        have hcr : cutR rest = r := by rw [cutR, hc]; rfl
        rw [hcr] at hc3
        obtain ⟨⟨v, r'⟩, hc'⟩ := Option.isSome_iff_exists.1 hc3.2
        have hca' : cutA r = v := by rw [cutA, hc']; rfl
        have hcr' : cutR r = r' := by rw [cutR, hc']; rfl
        rw [hca, hcr, hca', hcr']
        obtain ⟨hz1, hz2⟩ := cutS_size hc
        obtain ⟨hz3, hz4⟩ := cutS_size hc'
        refine w_skip ?_
        refine w_reg ?_
        refine wl_f (f_move rfl) ?_
        (first | refine wl_f (f_loadsb (cs := [_, _]) 0 rfl Try.underlying35 rfl (by kernel_rfl) rfl rfl) ?_ | refine wl_f (f_loadsb (cs := [_, _]) 1 rfl Try.underlying35 rfl (by kernel_rfl) rfl rfl) ?_ | refine wl_f (f_loadsb (cs := [_, _]) 2 rfl Try.underlying35 rfl (by kernel_rfl) rfl rfl) ?_ | refine wl_f (f_loadsb (cs := [_, _]) 3 rfl Try.underlying35 rfl (by kernel_rfl) rfl rfl) ?_ | refine wl_f (f_loadsb (cs := [_, _]) 4 rfl Try.underlying35 rfl (by kernel_rfl) rfl rfl) ?_ | refine wl_f (f_loadsb (cs := [_, _]) 5 rfl Try.underlying35 rfl (by kernel_rfl) rfl rfl) ?_ | refine wl_f (f_loadsb (cs := [_, _]) 6 rfl Try.underlying35 rfl (by kernel_rfl) rfl rfl) ?_)
        refine wl_e (e_lit1 (cs := [_, _]) t22 rfl rfl rfl (by omega)) ?_
        rintro _ _ w12_2 ⟨b12_2, rfl, rfl⟩
        refine wl_e (e_app2 t22 rfl rfl (fun w hh => Rd.held0 hh (i := 0) rfl) (by simp [Value.oneCell']) (by omega) (by omega)) ?_
        rintro v12_3 _ w12_3 rfl
        refine wl_f (f_assign rfl) ?_
        refine wl_rm0 (wl_rm0 ?_)
        refine wl_end [(0, _), (4, _), (5, _)] ⟨rfl, rfl, rfl, trivial⟩ ?_
        refine ⟨k, by omega, r', _, out ++ [(a, v)], rfl, by rw [tcells_app, List.length_append]; rfl, by omega, ?_, by simp; omega, fun t ht => ?_⟩
        · rw [hpar, parse_some hr0 hc hc', Option.map_map]
          congr 1
          funext l
          simp
        · rcases List.mem_append.1 ht with ht | ht
          · exact hsz t ht
          · rw [List.mem_singleton] at ht; subst ht; show a.size ≤ 255; omega
    · skip
      have hr0 : rest.size = 0 := by rw [Classical.not_not.1 hc2]; rfl
      rw [parse_zero hr0, Option.map_some, List.append_nil] at hpar
      have hso := split_some h255 hpar
      refine w_exit0 ?_
      refine w_seq ?_
      refine w_seq ?_
      refine w_reg ?_
      refine wl_f (f_move rfl) ?_
      refine wl_e (e_call0 rfl Try.func35 (by kernel_rfl) (fun w hh => rkey_spec u out w (Rd.held0 hh (i := 0) rfl) (by omega) (fun t ht => by have := hsz t ht; omega))) ?_
      rintro _ _ w4 ⟨_, rfl, rfl, rfl⟩
      refine wl_f (f_move rfl) ?_
      refine wl_f (f_extract rfl rfl) ?_
      refine wl_f (f_extract rfl rfl) ?_
      refine wl_f (f_assign rfl) ?_
      refine wl_f (f_assign rfl) ?_
      refine wl_end [(0, _), (4, _), (9, _), (10, _)] ⟨rfl, rfl, rfl, rfl, trivial⟩ ?_
      refine w_seq ?_
      refine w_reg ?_
      refine wl_f (f_move rfl) ?_
      refine wl_f (f_neq rfl rfl) ?_
      refine wl_f (f_move rfl) ?_
      refine wl_or (j := 2) (c := decide (str (keyOut out).1 ≠ s)) 3 [(4, _)] ⟨rfl, trivial⟩ rfl rfl rfl rfl rfl (fun hg14_6 => ?_) (fun w14_6 => ?_)
      · skip
        refine wl_gf rfl rfl (f_move rfl) ?_
        refine wl_gf rfl rfl (f_move rfl) ?_
        refine wl_gf rfl rfl (f_neqs rfl rfl) ?_
        exact wl_pend rfl rfl ⟨rfl, trivial⟩ (List.Sublist.refl _)
      refine wl_end [(4, _), (52, _)] ⟨rfl, rfl, trivial⟩ ?_
      refine w_ifb rfl (fun hc4 => ?_) (fun hc4 => ?_)
      · skip
        simp only [Bool.or_eq_true, decide_eq_true_eq] at hc4
        rw [if_pos hc4] at hso
        refine w_drop [] (List.nil_sublist _) ?_
        refine w_nilrow 35 2 ?_
        refine w_seq ?_
        refine w_reg ?_
        refine wl_f (f_assign rfl) ?_
        refine wl_f (f_assign rfl) ?_
        refine wl_end [(2, _), (3, _)] ⟨rfl, rfl, trivial⟩ ?_
        refine w_ret ?_
        refine ⟨_, _, fun a ha hh => results_tmps Try.results39 rfl a ha _, List.Sublist.refl _, ?_⟩
        exact split_bad hso
      · skip
        simp only [Bool.or_eq_true, decide_eq_true_eq] at hc4
        rw [if_neg hc4] at hso
        refine w_skip ?_
        refine w_seq ?_
        refine w_reg ?_
        refine wl_f (f_move rfl) ?_
        refine wl_f (f_assign rfl) ?_
        refine wl_f (f_assign rfl) ?_
        refine wl_end [(2, _), (3, _)] ⟨rfl, rfl, trivial⟩ ?_
        refine w_ret ?_
        refine ⟨_, _, fun a ha hh => results_tmps Try.results39 rfl a ha _, List.Sublist.refl _, ?_⟩
        rw [hso]; exact ⟨_, rfl, rfl⟩
end Go.Proofs.Ythomfpfjcniknaa
