/- The keys of tags: both functions answer alike; two lists of tags are compared. -/
import Derived.Test.YthomfpfjcniknaaD12
namespace Go.Proofs.Ythomfpfjcniknaa
open Go.RowKit

/-! ### Texts as bytes -/
theorem str_app (a b : List Nat) : str (a ++ b) = str a ++ str b := by
  apply ByteArray.ext
  simp [str]
theorem str_sb (s : ByteArray) : str (sb s) = s := by
  apply ByteArray.ext
  apply Array.ext'
  simp [str, sb, Function.comp_def]
theorem str_inj {a b : List Nat} (ha : ∀ x ∈ a, x < 256) (hb : ∀ x ∈ b, x < 256) (h : str a = str b) : a = b := by
  have h1 : ∀ l : List Nat, (∀ x ∈ l, x < 256) → sb (str l) = l := by
    intro l hl
    simp only [sb, str, List.map_map]
    rw [List.map_congr_left (g := id) (fun x hx => by simp [Nat.mod_eq_of_lt (hl x hx)])]
    simp
  rw [← h1 a ha, ← h1 b hb, h]

/-! ### Keys -/
def keyB (l : List Tg) : List Nat := l.flatMap fun t => [t.1.size % 256] ++ sb t.1 ++ [t.2.size % 256] ++ sb t.2
theorem keyB_snoc (l : List Tg) (t : Tg) : keyB (l ++ [t]) = keyB l ++ [t.1.size % 256] ++ sb t.1 ++ [t.2.size % 256] ++ sb t.2 := by simp [keyB]
theorem keyB_len (l : List Tg) (h : ∀ t ∈ l, t.1.size ≤ 32 ∧ t.2.size ≤ 64) : (keyB l).length ≤ l.length * 98 := by
  induction l with
  | nil => simp [keyB]
  | cons t l ih =>
    have h1 := h t (List.mem_cons_self ..)
    have h2 := ih fun s hs => h s (List.mem_cons_of_mem _ hs)
    simp only [keyB, List.flatMap_cons, List.length_append, List.length_cons, List.length_nil, sb_len] at h2 ⊢
    omega
def keyOut (l : List Tg) : List Nat × Int := if sortErr l ≠ 0 then ([], sortErr l) else if 255 < (keyB (isort l)).length then ([], 4) else (keyB (isort l), 0)
theorem validE_zero {t : Tg} (h : validE t = 0) : 1 ≤ t.1.size ∧ (sb t.1).all nb = true ∧ t.1.size ≤ 32 ∧ t.2.size ≤ 64 := by
  unfold validE at h
  split at h
  · cases h
  split at h
  · split at h
    · cases h
    · exact ⟨by omega, ‹_›, by omega⟩
  · cases h
theorem sortErr_zero {l : List Tg} (h : sortErr l = 0) : 1 ≤ l.length ∧ l.length ≤ 8 ∧ (∀ t ∈ l, validE t = 0) ∧ (names l).Nodup := by
  unfold sortErr at h
  split at h
  · cases h
  rename_i h0
  split at h
  · rename_i t ht
    have := List.find?_some ht
    simp [h] at this
  · rename_i hn
    rw [List.find?_eq_none] at hn
    split at h
    · exact ⟨by omega, by omega, fun t ht => by simpa using hn t ht, ‹_›⟩
    · cases h

def KeySpec (f : FuncId) : Prop := ∀ (v : Value) (l : List Tg) (w : World), Rd w Nil 2 v l.length (tcells l) → l.length ≤ 140737488355328 → (∀ t ∈ l, t.1.size ≤ 140737488355328) →
  Spec Try.prog f [v] w Nil fun r H => r = .tuple #[.string (str (keyOut l).1), .int .i64 (keyOut l).2] ∧ H = []

theorem bvx (l : List Nat) : (l.map fun b : Nat => Value.int .u8 (b : Int)) = bv l := rfl

set_option maxHeartbeats 2000000 in
theorem key_spec : KeySpec 34 := by
  intro v l w hr hn hsz
  refine enter (n := 51) Try.func34 rfl rfl [(0, _)] rfl ⟨rfl, trivial⟩ (Holds.start _ _) ?_
  refine w_seq ?_
  refine w_reg ?_
  refine wl_f (f_assign rfl) ?_
  refine wl_f (f_assign rfl) ?_
  refine wl_end [(0, _)] ⟨rfl, trivial⟩ ?_
  refine w_seq ?_
  refine w_reg ?_
  refine wl_f (f_move rfl) ?_
  refine wl_e (e_call0 rfl Try.func32 (by kernel_rfl) (fun w hh => sort_spec v l w (hr.old0 hh) hn hsz)) ?_
  rintro _ _ w1 ⟨_, rfl, u, rfl, rfl⟩
  refine wl_f (f_move rfl) ?_
  refine wl_f (f_extract rfl rfl) ?_
  refine wl_f (f_extract rfl rfl) ?_
  refine wl_f (f_assign rfl) ?_
  refine wl_f (f_assign rfl) ?_
  refine wl_end [(4, _), (5, _)] ⟨rfl, rfl, trivial⟩ ?_
  refine w_seq ?_
  refine w_seq ?_
  refine w_reg ?_
  refine wl_f (f_move rfl) ?_
  refine wl_f (f_neq rfl rfl) ?_
  refine wl_end [(4, _), (5, _), (15, _)] ⟨rfl, rfl, rfl, trivial⟩ ?_
  refine w_ifd rfl (fun hc1 => ?_) (fun hc1 => ?_)
  · skip
    refine w_drop [] (List.nil_sublist _) ?_
    refine w_seq ?_
    refine w_reg ?_
    refine wl_f (f_move rfl) ?_
    refine wl_f (f_assign rfl) ?_
    refine wl_f (f_assign rfl) ?_
    refine wl_end [(2, _), (3, _)] ⟨rfl, rfl, trivial⟩ ?_
    refine w_ret ?_
    refine ⟨_, _, fun a ha hh => results_tmps Try.results34 rfl a ha _, List.Sublist.refl _, ?_⟩
    exact ⟨by rw [keyOut, if_pos hc1]; rfl, rfl⟩
  · skip
    have he : sortErr l = 0 := by simpa using hc1
    obtain ⟨hl1, hl8, hval, hnd⟩ := sortErr_zero he
    have hS : sortOut l = isort l := by rw [sortOut, if_pos he]
    rw [hS]
    have hSl : (isort l).length = l.length := (isort_perm l).length_eq
    have hSv : ∀ t ∈ isort l, t.1.size ≤ 32 ∧ t.2.size ≤ 64 := fun t ht => (validE_zero (hval t ((isort_perm l).mem_iff.1 ht))).2.2
    have hko : keyOut l = if 255 < (keyB (isort l)).length then ([], 4) else (keyB (isort l), 0) := by rw [keyOut, if_neg (by rw [he]; simp)]
    have hkl := fun i => keyB_len ((isort l).take i) fun t ht => hSv t (List.mem_of_mem_take ht)
    simp only [List.length_take] at hkl
    refine w_with fun hh => ?_
    obtain ⟨g, cap, rfl⟩ := row_form hh (i := 0) rfl (by omega)
    clear hh
    generalize isort l = S at hS hSl hSv hko hkl ⊢
    refine w_nilrow 5 1 ?_
    refine w_skip ?_
    refine w_seq ?_
    refine w_reg ?_
    refine wl_f (f_assign rfl) ?_
    refine wl_end [(4, _), (6, _)] ⟨rfl, rfl, trivial⟩ ?_
    refine w_seq ?_
    refine w_seq ?_
    refine w_reg ?_
    refine wl_f (f_move rfl) ?_
    refine wl_f (f_len rfl Try.underlying22) ?_
    refine wl_f (f_move rfl) ?_
    refine wl_end [(6, _), (17, _), (18, _), (19, _)] ⟨rfl, rfl, rfl, rfl, trivial⟩ ?_
    refine w_block ?_
    refine w_loop (fun k m H w => ∃ (i : Nat) (b : Value), m = [(6, b), (17, .slice (some ⟨g, 0, .none⟩) S.length cap), (18, .int .i64 S.length), (19, .int .i64 i)] ∧
      H = [row b 5 1 (keyB (S.take i)).length (bv (keyB (S.take i))), row (.slice (some ⟨g, 0, .none⟩) S.length cap) 35 2 S.length (tcells S)] ∧ k + i = S.length) S.length ⟨0, _, rfl, rfl, rfl⟩ ?_
    rintro k _ _ w2 ⟨i, b, rfl, rfl, hk⟩
    refine w_with fun hh => ?_
    obtain ⟨B, cb, rfl⟩ := row_slice hh (i := 0) rfl
    clear hh
    refine w_seq ?_
    refine w_reg ?_
    refine wl_f (f_lss rfl rfl) ?_
    refine wl_end [(6, _), (17, _), (18, _), (19, _), (20, _)] ⟨rfl, rfl, rfl, rfl, rfl, trivial⟩ ?_
    refine w_seq ?_
    refine w_ifd rfl (fun hc2 => ?_) (fun hc2 => ?_)
    · skip
      obtain ⟨t, ht⟩ : ∃ t, S[i]? = some t := ⟨S[i]'(by omega), List.getElem?_eq_getElem (by omega)⟩
      have hlt := (List.getElem?_eq_some_iff.1 ht).1
      obtain ⟨ht1, ht2⟩ := hSv t (List.mem_of_getElem? ht)
      have hkl' := hkl i
      refine w_skip ?_
      refine w_seq ?_
      refine w_block ?_
      refine w_seq ?_
      refine w_reg ?_
      refine wl_f (f_indexAddr 2 rfl rfl Try.underlying22 (by kernel_rfl) rfl (by omega)) ?_
      refine wl_f (f_loadsr (cs := [.string t.1, .string t.2]) 1 rfl Try.underlying35 rfl (by kernel_rfl) rfl (by rw [← List.take_append_drop i S, List.drop_eq_getElem_cons hlt, (List.getElem?_eq_some_iff.1 ht).2]; exact tc_get _ _ _ (by rw [List.length_take]; omega))) ?_
      refine wl_e (e_allocs [.string ByteArray.empty, .string ByteArray.empty] (by kernel_rfl)) ?_
      rintro _ _ w7_2 ⟨b7_2, rfl, rfl⟩
      (first | refine wl_e0 (e_store0 (us := [_, _]) rfl rfl rfl (by kernel_rfl) (by simp [Value.oneCell']) rfl rfl) ?_ | refine wl_e0 (e_store1 (us := [_, _]) rfl rfl rfl (by kernel_rfl) (by simp [Value.oneCell']) rfl rfl) ?_ | refine wl_e0 (e_store2 (us := [_, _]) rfl rfl rfl (by kernel_rfl) (by simp [Value.oneCell']) rfl rfl) ?_ | refine wl_e0 (e_store3 (us := [_, _]) rfl rfl rfl (by kernel_rfl) (by simp [Value.oneCell']) rfl rfl) ?_)
      rintro _ _ w7_3 rfl
      refine wl_end [(6, _), (8, _), (17, _), (18, _), (19, _)] ⟨rfl, rfl, rfl, rfl, rfl, trivial⟩ ?_
      refine w_seq ?_
      refine w_reg ?_
      refine wl_f (f_move rfl) ?_
      refine wl_f (f_fieldAddr 0 rfl Try.underlying35 rfl rfl (by kernel_rfl)) ?_
      (first | refine wl_f (f_loadb 0 rfl Try.underlying9 rfl rfl rfl) ?_ | refine wl_f (f_loadb 1 rfl Try.underlying9 rfl rfl rfl) ?_ | refine wl_f (f_loadb 2 rfl Try.underlying9 rfl rfl rfl) ?_ | refine wl_f (f_loadb 3 rfl Try.underlying9 rfl rfl rfl) ?_ | refine wl_f (f_loadb 4 rfl Try.underlying9 rfl rfl rfl) ?_ | refine wl_f (f_loadb 5 rfl Try.underlying9 rfl rfl rfl) ?_ | refine wl_f (f_loadb 6 rfl Try.underlying9 rfl rfl rfl) ?_)
      refine wl_f (f_lens rfl Try.underlying9) ?_
      refine wl_f (f_convw rfl Try.underlying3 Try.underlying5 (wrapu8 _)) ?_
      refine wl_e (e_lit1 (cs := [_]) t33 rfl rfl rfl (by omega)) ?_
      rintro _ _ w8_5 ⟨b8_5, rfl, rfl⟩
      refine wl_e (e_app2 t33 rfl rfl (fun w hh => Rd.held0 hh (i := 0) rfl) (by simp [Value.oneCell']) (by omega) (by omega)) ?_
      rintro v8_6 _ w8_6 rfl
      refine wl_f (f_assign rfl) ?_
      refine wl_rm0 ?_
      refine wl_end [(6, _), (8, _), (17, _), (18, _), (19, _)] ⟨rfl, rfl, rfl, rfl, rfl, trivial⟩ ?_
      refine w_seq ?_
      refine w_reg ?_
      refine wl_f (f_move rfl) ?_
      refine wl_f (f_fieldAddr 0 rfl Try.underlying35 rfl rfl (by kernel_rfl)) ?_
      (first | refine wl_f (f_loadb 0 rfl Try.underlying9 rfl rfl rfl) ?_ | refine wl_f (f_loadb 1 rfl Try.underlying9 rfl rfl rfl) ?_ | refine wl_f (f_loadb 2 rfl Try.underlying9 rfl rfl rfl) ?_ | refine wl_f (f_loadb 3 rfl Try.underlying9 rfl rfl rfl) ?_ | refine wl_f (f_loadb 4 rfl Try.underlying9 rfl rfl rfl) ?_ | refine wl_f (f_loadb 5 rfl Try.underlying9 rfl rfl rfl) ?_ | refine wl_f (f_loadb 6 rfl Try.underlying9 rfl rfl rfl) ?_)
      refine wl_e (e_apps1 t33 Try.underlying9 rfl rfl (by omega)) ?_
      rintro v9_3 _ w9_3 rfl
      refine wl_f (f_assign rfl) ?_
      refine wl_end [(6, _), (8, _), (17, _), (18, _), (19, _)] ⟨rfl, rfl, rfl, rfl, rfl, trivial⟩ ?_
      refine w_seq ?_
      refine w_reg ?_
      refine wl_f (f_move rfl) ?_
      refine wl_f (f_fieldAddr 1 rfl Try.underlying35 rfl rfl (by kernel_rfl)) ?_
      (first | refine wl_f (f_loadb 0 rfl Try.underlying9 rfl rfl rfl) ?_ | refine wl_f (f_loadb 1 rfl Try.underlying9 rfl rfl rfl) ?_ | refine wl_f (f_loadb 2 rfl Try.underlying9 rfl rfl rfl) ?_ | refine wl_f (f_loadb 3 rfl Try.underlying9 rfl rfl rfl) ?_ | refine wl_f (f_loadb 4 rfl Try.underlying9 rfl rfl rfl) ?_ | refine wl_f (f_loadb 5 rfl Try.underlying9 rfl rfl rfl) ?_ | refine wl_f (f_loadb 6 rfl Try.underlying9 rfl rfl rfl) ?_)
      refine wl_f (f_lens rfl Try.underlying9) ?_
      refine wl_f (f_convw rfl Try.underlying3 Try.underlying5 (wrapu8 _)) ?_
      refine wl_e (e_lit1 (cs := [_]) t33 rfl rfl rfl (by omega)) ?_
      rintro _ _ w10_5 ⟨b10_5, rfl, rfl⟩
      refine wl_e (e_app2 t33 rfl rfl (fun w hh => Rd.held0 hh (i := 0) rfl) (by simp [Value.oneCell']) (by omega) (by omega)) ?_
      rintro v10_6 _ w10_6 rfl
      refine wl_f (f_assign rfl) ?_
      refine wl_rm0 ?_
      refine wl_end [(6, _), (8, _), (17, _), (18, _), (19, _)] ⟨rfl, rfl, rfl, rfl, rfl, trivial⟩ ?_
      refine w_reg ?_
      refine wl_f (f_move rfl) ?_
      refine wl_f (f_fieldAddr 1 rfl Try.underlying35 rfl rfl (by kernel_rfl)) ?_
      (first | refine wl_f (f_loadb 0 rfl Try.underlying9 rfl rfl rfl) ?_ | refine wl_f (f_loadb 1 rfl Try.underlying9 rfl rfl rfl) ?_ | refine wl_f (f_loadb 2 rfl Try.underlying9 rfl rfl rfl) ?_ | refine wl_f (f_loadb 3 rfl Try.underlying9 rfl rfl rfl) ?_ | refine wl_f (f_loadb 4 rfl Try.underlying9 rfl rfl rfl) ?_ | refine wl_f (f_loadb 5 rfl Try.underlying9 rfl rfl rfl) ?_ | refine wl_f (f_loadb 6 rfl Try.underlying9 rfl rfl rfl) ?_)
      refine wl_e (e_apps1 t33 Try.underlying9 rfl rfl (by omega)) ?_
      rintro v11_3 _ w11_3 rfl
      refine wl_f (f_assign rfl) ?_
      refine wl_rm0 ?_
      refine wl_end [(6, _), (17, _), (18, _), (19, _)] ⟨rfl, rfl, rfl, rfl, trivial⟩ ?_
      refine w_reg ?_
      refine wl_f (f_add rfl rfl (by omega)) ?_
      refine wl_f (f_move rfl) ?_
      refine wl_end [(6, _), (17, _), (18, _), (19, _)] ⟨rfl, rfl, rfl, rfl, trivial⟩ ?_
      refine ⟨k - 1, by omega, i + 1, _, rfl, ?_, by omega⟩
      rw [take_snoc S i t ht, keyB_snoc, sb_cells, sb_cells]
      simp only [bv_app, List.length_append, List.length_cons, List.length_nil, sb_len, Nat.add_assoc, Nat.zero_add]
      rfl
    · skip
      rw [List.take_of_length_le (by omega)]
      refine w_exit0 ?_
      refine w_seq ?_
      refine w_seq ?_
      refine w_reg ?_
      refine wl_f (f_move rfl) ?_
      refine wl_f (f_len rfl Try.underlying33) ?_
      refine wl_f (f_gtr rfl rfl) ?_
      refine wl_end [(6, _), (48, _)] ⟨rfl, rfl, trivial⟩ ?_
      refine w_ifd rfl (fun hc3 => ?_) (fun hc3 => ?_)
      · skip
        refine w_drop [] (List.nil_sublist _) ?_
        refine w_seq ?_
        refine w_reg ?_
        refine wl_f (f_assign rfl) ?_
        refine wl_f (f_assign rfl) ?_
        refine wl_end [(2, _), (3, _)] ⟨rfl, rfl, trivial⟩ ?_
        refine w_ret ?_
        refine ⟨_, _, fun a ha hh => results_tmps Try.results34 rfl a ha _, List.Sublist.refl _, ?_⟩
        exact ⟨by rw [hko, if_pos (by omega)]; rfl, rfl⟩
      · skip
        refine w_skip ?_
        refine w_seq ?_
        refine w_reg ?_
        refine wl_f (f_move rfl) ?_
        refine wl_f (f_b2s rfl Try.underlying33 Try.underlying5 Try.underlying9 (fun w hh => Rd.held0 hh (i := 0) rfl)) ?_
        refine wl_f (f_assign rfl) ?_
        refine wl_f (f_assign rfl) ?_
        refine wl_end [(2, _), (3, _)] ⟨rfl, rfl, trivial⟩ ?_
        refine w_drop [] (List.nil_sublist _) ?_
        refine w_ret ?_
        refine ⟨_, _, fun a ha hh => results_tmps Try.results34 rfl a ha _, List.Sublist.refl _, ?_⟩
        exact ⟨by rw [hko, if_neg (by omega)]; rfl, rfl⟩

theorem eqf (w : World) (t : TypeId) (a b : ByteArray) (h : Try.prog.underlying t = some .string) : (Op.equalIn 9999 t (.string a) (.string b)).run Try.prog w = .ok (a.toList == b.toList) w := run_equalIn_string w 9998 t a b h
set_option maxRecDepth 100000 in
theorem neq_tag (a b c d : ByteArray) (w : World) : (binOp .neq 35 (.agg [.string a, .string b].toArray) (.agg [.string c, .string d].toArray)).run Try.prog w = .ok (.bool (decide (((a, b) : Tg) ≠ (c, d)))) w := by
  have ht : Try.prog.underlying 35 = some (.struct (Try.prog.fieldsOf 35)) := by kernel_rfl
  rw [run_neq_struct, run_equalIn_struct w 9999 35 _ _ ht (by kernel_rfl)]
  simp only [Program.fieldsOf, Try.underlying35]
  have p0 : ∀ a b : ByteArray, (part 9 #[.string a, .string b] 0).run Try.prog w = .ok (.string a) w := fun a b => by kernel_rfl
  have p1 : ∀ a b : ByteArray, (part 9 #[.string a, .string b] 1).run Try.prog w = .ok (.string b) w := fun a b => by kernel_rfl
  simp only [Op.eqFields, ne_eq, String.reduceEq, not_false_eq_true, if_true, Sem.run_bind, p0, eqf w 9 _ _ Try.underlying9, Result.andThen_ok]
  by_cases h : a = c
  · subst h
    by_cases h' : b = d
    · subst h'; simp [p1, eqf w 9 _ _ Try.underlying9]
    · have : ¬ b.toList = d.toList := fun e => h' (toList_inj.1 e)
      simp [h', this, p1, eqf w 9 _ _ Try.underlying9]
  · have : ¬ a.toList = c.toList := fun e => h (toList_inj.1 e)
    simp [h, this]

theorem sameTags_spec (v1 v2 : Value) (xs ys : List Tg) (w : World) (h1 : Rd w Nil 2 v1 xs.length (tcells xs)) (h2 : Rd w Nil 2 v2 ys.length (tcells ys)) (hx : xs.length ≤ 140737488355328) (hy : ys.length ≤ 140737488355328) :
    Spec Try.prog 36 [v1, v2] w Nil fun r H => r = .bool (decide (xs = ys)) ∧ H = [] := by
  obtain ⟨A1, c1, rfl, -, hc1', g1⟩ := h1
  obtain ⟨A2, c2, rfl, -, hc2', g2⟩ := h2
  refine enter (n := 26) Try.func36 rfl rfl [(0, _), (1, _)] rfl ⟨rfl, rfl, trivial⟩ (Holds.start _ _) ?_
  refine w_seq ?_
  refine w_reg ?_
  refine wl_f (f_assign rfl) ?_
  refine wl_end [(0, _), (1, _)] ⟨rfl, rfl, trivial⟩ ?_
  refine w_seq ?_
  refine w_seq ?_
  refine w_reg ?_
  refine wl_f (f_move rfl) ?_
  refine wl_f (f_len rfl Try.underlying22) ?_
  refine wl_f (f_move rfl) ?_
  refine wl_f (f_len rfl Try.underlying22) ?_
  refine wl_f (f_neq rfl rfl) ?_
  refine wl_end [(0, _), (1, _), (10, _)] ⟨rfl, rfl, rfl, trivial⟩ ?_
  refine w_ifd rfl (fun hc1 => ?_) (fun hc1 => ?_)
  · skip
    refine w_seq ?_
    refine w_reg ?_
    refine wl_f (f_assign rfl) ?_
    refine wl_end [(4, _)] ⟨rfl, trivial⟩ ?_
    refine w_ret ?_
    refine ⟨_, _, fun a ha hh => results_tmps Try.results36 rfl a ha _, List.Sublist.refl _, ?_⟩
    exact ⟨by rw [decide_eq_false (fun e => hc1 (by rw [e]))]; rfl, rfl⟩
  · skip
    refine w_skip ?_
    refine w_seq ?_
    refine w_seq ?_
    refine w_reg ?_
    refine wl_f (f_move rfl) ?_
    refine wl_f (f_len rfl Try.underlying22) ?_
    refine wl_f (f_move rfl) ?_
    refine wl_end [(0, _), (1, _), (12, _), (13, _)] ⟨rfl, rfl, rfl, rfl, trivial⟩ ?_
    refine w_block ?_
    refine w_loop (fun k m H w => ∃ i : Nat, m = [(0, .slice A1 xs.length c1), (1, .slice A2 ys.length c2), (12, .int .i64 xs.length), (13, .int .i64 i)] ∧ H = [] ∧ k + i = xs.length ∧ xs.take i = ys.take i) xs.length ⟨0, rfl, rfl, rfl, rfl⟩ ?_
    rintro k _ _ w' ⟨i, rfl, rfl, hk, ht⟩
    refine w_seq ?_
    refine w_reg ?_
    refine wl_f (f_lss rfl rfl) ?_
    refine wl_end [(0, _), (1, _), (12, _), (13, _), (14, _)] ⟨rfl, rfl, rfl, rfl, rfl, trivial⟩ ?_
    refine w_seq ?_
    refine w_ifd rfl (fun hc2 => ?_) (fun hc2 => ?_)
    · skip
      have hlen : xs.length = ys.length := by omega
      have hi1 : i < xs.length := by omega
      have hi2 : i < ys.length := by omega
      obtain ⟨b1, o1, rfl, -, -, d1⟩ := g1.resolve_left (by omega)
      obtain ⟨b2, o2, rfl, -, -, d2⟩ := g2.resolve_left (by omega)
      have e1 : xs[i]? = some (xs[i].1, xs[i].2) := List.getElem?_eq_getElem hi1
      have e2 : ys[i]? = some (ys[i].1, ys[i].2) := List.getElem?_eq_getElem hi2
      refine w_skip ?_
      refine w_seq ?_
      refine w_block ?_
      refine w_seq ?_
      refine w_reg ?_
      refine wl_f (f_move rfl) ?_
      refine wl_f (f_assign rfl) ?_
      refine wl_end [(0, _), (1, _), (5, _), (12, _), (13, _)] ⟨rfl, rfl, rfl, rfl, rfl, trivial⟩ ?_
      refine w_seq ?_
      refine w_draw [(0, true), (1, true), (2, true), (3, true), (4, true), (5, true), (6, true), (7, true), (8, true)] (_) ([]) mixed (by kernel_rfl) (by kernel_rfl) rfl (perm_all _) (fun w6_ => ?_)
      refine wd_f rfl (f_move rfl) ?_
      refine wd_f rfl (f_move rfl) ?_
      refine wd_f rfl (f_indexAddr 2 rfl rfl Try.underlying22 (by kernel_rfl) rfl (by omega)) ?_
      refine wd_f rfl (f_loadso (cs := [.string xs[i].1, .string xs[i].2]) rfl Try.underlying35 rfl (by kernel_rfl) (tcells_at d1 e1) id) ?_
      refine wd_f rfl (f_move rfl) ?_
      refine wd_f rfl (f_move rfl) ?_
      refine wd_f rfl (f_indexAddr 2 rfl rfl Try.underlying22 (by kernel_rfl) rfl (by omega)) ?_
      refine wd_f rfl (f_loadso (cs := [.string ys[i].1, .string ys[i].2]) rfl Try.underlying35 rfl (by kernel_rfl) (tcells_at d2 e2) id) ?_
      refine wd_f rfl (f_bin rfl rfl (fun w => run_eqGuard_agg w _ _ _ _ _ _ (by kernel_rfl)) (fun w => neq_tag _ _ _ _ w)) ?_
      refine wd_end [(0, _), (1, _), (12, _), (13, _), (24, _)] ⟨rfl, rfl, rfl, rfl, rfl, trivial⟩ ?_
      refine w_ifd rfl (fun hc3 => ?_) (fun hc3 => ?_)
      · skip
        refine w_seq ?_
        refine w_reg ?_
        refine wl_f (f_assign rfl) ?_
        refine wl_end [(4, _)] ⟨rfl, trivial⟩ ?_
        refine w_ret ?_
        refine ⟨_, _, fun a ha hh => results_tmps Try.results36 rfl a ha _, List.Sublist.refl _, ?_⟩
        exact ⟨by rw [decide_eq_false (fun e => hc3 (by subst e; rfl))]; rfl, rfl⟩
      · skip
        refine w_skip ?_
        refine w_reg ?_
        refine wl_f (f_add rfl rfl (by omega)) ?_
        refine wl_f (f_move rfl) ?_
        refine wl_end [(0, _), (1, _), (12, _), (13, _)] ⟨rfl, rfl, rfl, rfl, trivial⟩ ?_
        refine ⟨k - 1, by omega, i + 1, rfl, rfl, by omega, ?_⟩
        have : xs[i] = ys[i] := Classical.not_not.1 hc3
        rw [List.take_succ_eq_append_getElem hi1, List.take_succ_eq_append_getElem hi2, ht, this]
    · skip
      refine w_exit0 ?_
      refine w_seq ?_
      refine w_reg ?_
      refine wl_f (f_assign rfl) ?_
      refine wl_end [(4, _)] ⟨rfl, trivial⟩ ?_
      refine w_ret ?_
      refine ⟨_, _, fun a ha hh => results_tmps Try.results36 rfl a ha _, List.Sublist.refl _, ?_⟩
      exact ⟨by rw [decide_eq_true (by rw [List.take_of_length_le (by omega), List.take_of_length_le (by omega)] at ht; exact ht)]; rfl, rfl⟩

set_option maxHeartbeats 2000000 in
theorem rkey_spec : KeySpec 35 := by
  intro v l w hr hn hsz
  refine enter (n := 49) Try.func35 rfl rfl [(0, _)] rfl ⟨rfl, trivial⟩ (Holds.start _ _) ?_
  refine w_seq ?_
  refine w_reg ?_
  refine wl_f (f_assign rfl) ?_
  refine wl_f (f_assign rfl) ?_
  refine wl_end [(0, _)] ⟨rfl, trivial⟩ ?_
  refine w_seq ?_
  refine w_reg ?_
  refine wl_f (f_move rfl) ?_
  refine wl_e (e_call0 rfl Try.func33 (by kernel_rfl) (fun w hh => rsort_spec v l w (hr.old0 hh) hn hsz)) ?_
  rintro _ _ w1 ⟨_, rfl, u, rfl, rfl⟩
  refine wl_f (f_move rfl) ?_
  refine wl_f (f_extract rfl rfl) ?_
  refine wl_f (f_extract rfl rfl) ?_
  refine wl_f (f_assign rfl) ?_
  refine wl_f (f_assign rfl) ?_
  refine wl_end [(4, _), (5, _)] ⟨rfl, rfl, trivial⟩ ?_
  refine w_seq ?_
  refine w_seq ?_
  refine w_reg ?_
  refine wl_f (f_move rfl) ?_
  refine wl_f (f_neq rfl rfl) ?_
  refine wl_end [(4, _), (5, _), (15, _)] ⟨rfl, rfl, rfl, trivial⟩ ?_
  refine w_ifd rfl (fun hc1 => ?_) (fun hc1 => ?_)
  · skip
    refine w_drop [] (List.nil_sublist _) ?_
    refine w_seq ?_
    refine w_reg ?_
    refine wl_f (f_move rfl) ?_
    refine wl_f (f_assign rfl) ?_
    refine wl_f (f_assign rfl) ?_
    refine wl_end [(2, _), (3, _)] ⟨rfl, rfl, trivial⟩ ?_
    refine w_ret ?_
    refine ⟨_, _, fun a ha hh => results_tmps Try.results35 rfl a ha _, List.Sublist.refl _, ?_⟩
    exact ⟨by rw [keyOut, if_pos hc1]; rfl, rfl⟩
  · skip
    have he : sortErr l = 0 := by simpa using hc1
    obtain ⟨hl1, hl8, hval, hnd⟩ := sortErr_zero he
    have hS : sortOut l = isort l := by rw [sortOut, if_pos he]
    rw [hS]
    have hSl : (isort l).length = l.length := (isort_perm l).length_eq
    have hSv : ∀ t ∈ isort l, t.1.size ≤ 32 ∧ t.2.size ≤ 64 := fun t ht => (validE_zero (hval t ((isort_perm l).mem_iff.1 ht))).2.2
    have hko : keyOut l = if 255 < (keyB (isort l)).length then ([], 4) else (keyB (isort l), 0) := by rw [keyOut, if_neg (by rw [he]; simp)]
    have hkl := fun i => keyB_len ((isort l).take i) fun t ht => hSv t (List.mem_of_mem_take ht)
    simp only [List.length_take] at hkl
    refine w_with fun hh => ?_
    obtain ⟨g, cap, rfl⟩ := row_form hh (i := 0) rfl (by omega)
    clear hh
    generalize isort l = S at hS hSl hSv hko hkl ⊢
    refine w_skip ?_
    refine w_seq ?_
    refine w_reg ?_
    refine wl_f (f_assign rfl) ?_
    refine wl_end [(4, _), (6, _)] ⟨rfl, rfl, trivial⟩ ?_
    refine w_seq ?_
    refine w_seq ?_
    refine w_reg ?_
    refine wl_f (f_move rfl) ?_
    refine wl_f (f_len rfl Try.underlying22) ?_
    refine wl_f (f_move rfl) ?_
    refine wl_end [(6, _), (17, _), (18, _), (19, _)] ⟨rfl, rfl, rfl, rfl, trivial⟩ ?_
    refine w_block ?_
    refine w_loop (fun k m H w => ∃ i : Nat, m = [(6, .string (str (keyB (S.take i)))), (17, .slice (some ⟨g, 0, .none⟩) S.length cap), (18, .int .i64 S.length), (19, .int .i64 i)] ∧
      H = [row (.slice (some ⟨g, 0, .none⟩) S.length cap) 35 2 S.length (tcells S)] ∧ k + i = S.length) S.length ⟨0, rfl, rfl, rfl⟩ ?_
    rintro k _ _ w2 ⟨i, rfl, rfl, hk⟩
    refine w_seq ?_
    refine w_reg ?_
    refine wl_f (f_lss rfl rfl) ?_
    refine wl_end [(6, _), (17, _), (18, _), (19, _), (20, _)] ⟨rfl, rfl, rfl, rfl, rfl, trivial⟩ ?_
    refine w_seq ?_
    refine w_ifd rfl (fun hc2 => ?_) (fun hc2 => ?_)
    · skip
      obtain ⟨t, ht⟩ : ∃ t, S[i]? = some t := ⟨S[i]'(by omega), List.getElem?_eq_getElem (by omega)⟩
      have hlt := (List.getElem?_eq_some_iff.1 ht).1
      obtain ⟨ht1, ht2⟩ := hSv t (List.mem_of_getElem? ht)
      have hkl' := hkl i
      have hss := str_size (keyB (S.take i))
      have hs1 : (str [t.1.size % 256]).size = 1 := rfl
      have hs2 : (str [t.2.size % 256]).size = 1 := rfl
      refine w_skip ?_
      refine w_seq ?_
      refine w_block ?_
      refine w_seq ?_
      refine w_reg ?_
      refine wl_f (f_indexAddr 2 rfl rfl Try.underlying22 (by kernel_rfl) rfl (by omega)) ?_
      refine wl_f (f_loadsr (cs := [.string t.1, .string t.2]) 0 rfl Try.underlying35 rfl (by kernel_rfl) rfl (by rw [← List.take_append_drop i S, List.drop_eq_getElem_cons hlt, (List.getElem?_eq_some_iff.1 ht).2]; exact tc_get _ _ _ (by rw [List.length_take]; omega))) ?_
      refine wl_e (e_allocs [.string ByteArray.empty, .string ByteArray.empty] (by kernel_rfl)) ?_
      rintro _ _ w7_2 ⟨b7_2, rfl, rfl⟩
      (first | refine wl_e0 (e_store0 (us := [_, _]) rfl rfl rfl (by kernel_rfl) (by simp [Value.oneCell']) rfl rfl) ?_ | refine wl_e0 (e_store1 (us := [_, _]) rfl rfl rfl (by kernel_rfl) (by simp [Value.oneCell']) rfl rfl) ?_ | refine wl_e0 (e_store2 (us := [_, _]) rfl rfl rfl (by kernel_rfl) (by simp [Value.oneCell']) rfl rfl) ?_ | refine wl_e0 (e_store3 (us := [_, _]) rfl rfl rfl (by kernel_rfl) (by simp [Value.oneCell']) rfl rfl) ?_)
      rintro _ _ w7_3 rfl
      refine wl_end [(6, _), (8, _), (17, _), (18, _), (19, _)] ⟨rfl, rfl, rfl, rfl, rfl, trivial⟩ ?_
      refine w_reg ?_
      refine wl_f (f_move rfl) ?_
      refine wl_f (f_fieldAddr 0 rfl Try.underlying35 rfl rfl (by kernel_rfl)) ?_
      (first | refine wl_f (f_loadb 0 rfl Try.underlying9 rfl rfl rfl) ?_ | refine wl_f (f_loadb 1 rfl Try.underlying9 rfl rfl rfl) ?_ | refine wl_f (f_loadb 2 rfl Try.underlying9 rfl rfl rfl) ?_ | refine wl_f (f_loadb 3 rfl Try.underlying9 rfl rfl rfl) ?_ | refine wl_f (f_loadb 4 rfl Try.underlying9 rfl rfl rfl) ?_ | refine wl_f (f_loadb 5 rfl Try.underlying9 rfl rfl rfl) ?_ | refine wl_f (f_loadb 6 rfl Try.underlying9 rfl rfl rfl) ?_)
      refine wl_f (f_lens rfl Try.underlying9) ?_
      refine wl_f (f_convw rfl Try.underlying3 Try.underlying5 (wrapu8 _)) ?_
      refine wl_e (e_lit1 (cs := [_]) t33 rfl rfl rfl (by omega)) ?_
      rintro _ _ w8_5 ⟨b8_5, rfl, rfl⟩
      refine wl_f (f_b2s (xs := [t.1.size % 256]) rfl Try.underlying33 Try.underlying5 Try.underlying9 (fun w hh => Rd.held0 hh (i := 0) rfl)) ?_
      refine wl_f (f_fieldAddr 0 rfl Try.underlying35 rfl rfl (by kernel_rfl)) ?_
      (first | refine wl_f (f_loadb 0 rfl Try.underlying9 rfl rfl rfl) ?_ | refine wl_f (f_loadb 1 rfl Try.underlying9 rfl rfl rfl) ?_ | refine wl_f (f_loadb 2 rfl Try.underlying9 rfl rfl rfl) ?_ | refine wl_f (f_loadb 3 rfl Try.underlying9 rfl rfl rfl) ?_ | refine wl_f (f_loadb 4 rfl Try.underlying9 rfl rfl rfl) ?_ | refine wl_f (f_loadb 5 rfl Try.underlying9 rfl rfl rfl) ?_ | refine wl_f (f_loadb 6 rfl Try.underlying9 rfl rfl rfl) ?_)
      refine wl_f (f_adds rfl rfl (by omega)) ?_
      refine wl_f (f_fieldAddr 1 rfl Try.underlying35 rfl rfl (by kernel_rfl)) ?_
      (first | refine wl_f (f_loadb 0 rfl Try.underlying9 rfl rfl rfl) ?_ | refine wl_f (f_loadb 1 rfl Try.underlying9 rfl rfl rfl) ?_ | refine wl_f (f_loadb 2 rfl Try.underlying9 rfl rfl rfl) ?_ | refine wl_f (f_loadb 3 rfl Try.underlying9 rfl rfl rfl) ?_ | refine wl_f (f_loadb 4 rfl Try.underlying9 rfl rfl rfl) ?_ | refine wl_f (f_loadb 5 rfl Try.underlying9 rfl rfl rfl) ?_ | refine wl_f (f_loadb 6 rfl Try.underlying9 rfl rfl rfl) ?_)
      refine wl_f (f_lens rfl Try.underlying9) ?_
      refine wl_f (f_convw rfl Try.underlying3 Try.underlying5 (wrapu8 _)) ?_
      refine wl_e (e_lit1 (cs := [_]) t33 rfl rfl rfl (by omega)) ?_
      rintro _ _ w8_14 ⟨b8_14, rfl, rfl⟩
      refine wl_f (f_b2s (xs := [t.2.size % 256]) rfl Try.underlying33 Try.underlying5 Try.underlying9 (fun w hh => Rd.held0 hh (i := 0) rfl)) ?_
      refine wl_f (f_adds rfl rfl (by rw [ByteArray.size_append]; omega)) ?_
      refine wl_f (f_fieldAddr 1 rfl Try.underlying35 rfl rfl (by kernel_rfl)) ?_
      (first | refine wl_f (f_loadb 0 rfl Try.underlying9 rfl rfl rfl) ?_ | refine wl_f (f_loadb 1 rfl Try.underlying9 rfl rfl rfl) ?_ | refine wl_f (f_loadb 2 rfl Try.underlying9 rfl rfl rfl) ?_ | refine wl_f (f_loadb 3 rfl Try.underlying9 rfl rfl rfl) ?_ | refine wl_f (f_loadb 4 rfl Try.underlying9 rfl rfl rfl) ?_ | refine wl_f (f_loadb 5 rfl Try.underlying9 rfl rfl rfl) ?_ | refine wl_f (f_loadb 6 rfl Try.underlying9 rfl rfl rfl) ?_)
      refine wl_f (f_adds rfl rfl (by rw [ByteArray.size_append, ByteArray.size_append]; omega)) ?_
      refine wl_f (f_adds rfl rfl (by rw [ByteArray.size_append, ByteArray.size_append, ByteArray.size_append]; omega)) ?_
      refine wl_f (f_assign rfl) ?_
      refine wl_rm0 (wl_rm0 (wl_rm0 ?_))
      refine wl_end [(6, _), (17, _), (18, _), (19, _)] ⟨rfl, rfl, rfl, rfl, trivial⟩ ?_
      refine w_reg ?_
      refine wl_f (f_add rfl rfl (by omega)) ?_
      refine wl_f (f_move rfl) ?_
      refine wl_end [(6, _), (17, _), (18, _), (19, _)] ⟨rfl, rfl, rfl, rfl, trivial⟩ ?_
      refine ⟨k - 1, by omega, i + 1, ?_, rfl, by omega⟩
      rw [take_snoc S i t ht, keyB_snoc]
      simp only [str_app, str_sb, ByteArray.append_assoc]
      rfl
    · skip
      rw [List.take_of_length_le (by omega)]
      have hss := str_size (keyB S)
      refine w_exit0 ?_
      refine w_seq ?_
      refine w_seq ?_
      refine w_reg ?_
      refine wl_f (f_move rfl) ?_
      refine wl_f (f_lens rfl Try.underlying9) ?_
      refine wl_f (f_gtr rfl rfl) ?_
      refine wl_end [(6, _), (47, _)] ⟨rfl, rfl, trivial⟩ ?_
      refine w_ifd rfl (fun hc3 => ?_) (fun hc3 => ?_)
      · skip
        refine w_drop [] (List.nil_sublist _) ?_
        refine w_seq ?_
        refine w_reg ?_
        refine wl_f (f_assign rfl) ?_
        refine wl_f (f_assign rfl) ?_
        refine wl_end [(2, _), (3, _)] ⟨rfl, rfl, trivial⟩ ?_
        refine w_ret ?_
        refine ⟨_, _, fun a ha hh => results_tmps Try.results35 rfl a ha _, List.Sublist.refl _, ?_⟩
        exact ⟨by rw [hko, if_pos (by omega)]; rfl, rfl⟩
      · skip
        refine w_skip ?_
        refine w_seq ?_
        refine w_reg ?_
        refine wl_f (f_move rfl) ?_
        refine wl_f (f_assign rfl) ?_
        refine wl_f (f_assign rfl) ?_
        refine wl_end [(2, _), (3, _)] ⟨rfl, rfl, trivial⟩ ?_
        refine w_drop [] (List.nil_sublist _) ?_
        refine w_ret ?_
        refine ⟨_, _, fun a ha hh => results_tmps Try.results35 rfl a ha _, List.Sublist.refl _, ?_⟩
        exact ⟨by rw [hko, if_neg (by omega)]; rfl, rfl⟩
end Go.Proofs.Ythomfpfjcniknaa
