/- The keys of tags: both functions answer alike; two lists of tags are compared. -/
import Derived.Test.YthbjjfpikfmmnaaD12
namespace Go.Proofs.Ythbjjfpikfmmnaa
open Go.RowKit

/-! ### Texts as bytes -/
theorem str_app (a b : List Nat) : str (a ++ b) = str a ++ str b := by
  apply ByteArray.ext
  simp [str]
theorem str_sb (s : ByteArray) : str (sb s) = s := by
  apply ByteArray.ext
  apply Array.ext'
  simp [str, sb, Function.comp_def]
theorem str_inj {a b : List Nat} (ha : ∀ x ∈ a, x < 256) (hb : ∀ x ∈ b, x < 256) (h : str a = str b) : a = b := by
  have h1 : ∀ l : List Nat, (∀ x ∈ l, x < 256) → sb (str l) = l := by
    intro l hl
    simp only [sb, str, List.map_map]
    rw [List.map_congr_left (g := id) (fun x hx => by simp [Nat.mod_eq_of_lt (hl x hx)])]
    simp
  rw [← h1 a ha, ← h1 b hb, h]

/-! ### Keys -/
def keyB (l : List Tg) : List Nat := l.flatMap fun t => [t.1.size % 256] ++ sb t.1 ++ [t.2.size % 256] ++ sb t.2
theorem keyB_snoc (l : List Tg) (t : Tg) : keyB (l ++ [t]) = keyB l ++ [t.1.size % 256] ++ sb t.1 ++ [t.2.size % 256] ++ sb t.2 := by simp [keyB]
theorem keyB_len (l : List Tg) (h : ∀ t ∈ l, t.1.size ≤ 32 ∧ t.2.size ≤ 64) : (keyB l).length ≤ l.length * 98 := by
  induction l with
  | nil => simp [keyB]
  | cons t l ih =>
    have h1 := h t (List.mem_cons_self ..)
    have h2 := ih fun s hs => h s (List.mem_cons_of_mem _ hs)
    simp only [keyB, List.flatMap_cons, List.length_append, List.length_cons, List.length_nil, sb_len] at h2 ⊢
    omega
def keyOut (l : List Tg) : List Nat × Int := if sortErr l ≠ 0 then ([], sortErr l) else if 255 < (keyB (isort l)).length then ([], 4) else (keyB (isort l), 0)
theorem validE_zero {t : Tg} (h : validE t = 0) : 1 ≤ t.1.size ∧ (sb t.1).all nb = true ∧ t.1.size ≤ 32 ∧ t.2.size ≤ 64 := by
  unfold validE at h
  split at h
  · cases h
  split at h
  · split at h
    · cases h
    · exact ⟨by omega, ‹_›, by omega⟩
  · cases h
theorem sortErr_zero {l : List Tg} (h : sortErr l = 0) : 1 ≤ l.length ∧ l.length ≤ 8 ∧ (∀ t ∈ l, validE t = 0) ∧ (names l).Nodup := by
  unfold sortErr at h
  split at h
  · cases h
  rename_i h0
  split at h
  · rename_i t ht
    have := List.find?_some ht
    simp [h] at this
  · rename_i hn
    rw [List.find?_eq_none] at hn
    split at h
    · exact ⟨by omega, by omega, fun t ht => by simpa using hn t ht, ‹_›⟩
    · cases h

def KeySpec (f : FuncId) : Prop := ∀ (v : Value) (l : List Tg) (w : World), Rd w Nil 2 v l.length (tcells l) → l.length ≤ 140737488355328 → (∀ t ∈ l, t.1.size ≤ 140737488355328) →
  Spec Try.prog f [v] w Nil fun r H => r = .tuple #[.string (str (keyOut l).1), .int .i64 (keyOut l).2] ∧ H = []

theorem bvx (l : List Nat) : (l.map fun b : Nat => Value.int .u8 (b : Int)) = bv l := rfl

set_option maxHeartbeats 2000000 in
theorem key_spec : KeySpec 34 := by
  intro v l w hr hn hsz
  refine enter (n := 51) Try.func34 rfl rfl [(0, _)] rfl ⟨rfl, trivial⟩ (Holds.start _ _) ?_
  refine w_seq ?_
  refine w_reg ?_
  refine wl_f (f_assign rfl) ?_
  refine wl_f (f_assign rfl) ?_
  refine wl_end [(0, _)] ⟨rfl, trivial⟩ ?_
  refine w_seq ?_
  refine w_reg ?_
  refine wl_f (f_move rfl) ?_
  refine wl_e (e_call0 rfl Try.func46 (by kernel_rfl) (fun w hh => sort_spec v l w (hr.old0 hh) hn hsz)) ?_
  rintro _ _ w1 ⟨_, rfl, u, rfl, rfl⟩
  refine wl_f (f_move rfl) ?_
  refine wl_f (f_extract rfl rfl) ?_
  refine wl_f (f_extract rfl rfl) ?_
  refine wl_f (f_assign rfl) ?_
  refine wl_f (f_assign rfl) ?_
  refine wl_end [(4, _), (5, _)] ⟨rfl, rfl, trivial⟩ ?_
  refine w_seq ?_
  refine w_seq ?_
  refine w_reg ?_
  refine wl_f (f_move rfl) ?_
  refine wl_f (f_neq rfl rfl) ?_
  refine wl_end [(4, _), (5, _), (15, _)] ⟨rfl, rfl, rfl, trivial⟩ ?_
  refine w_ifd rfl (fun hc1 => ?_) (fun hc1 => ?_)
  · skip
    refine w_drop [] (List.nil_sublist _) ?_
    refine w_seq ?_
    refine w_reg ?_
    refine wl_f (f_move rfl) ?_
    refine wl_f (f_assign rfl) ?_
    refine wl_f (f_assign rfl) ?_
    refine wl_end [(2, _), (3, _)] ⟨rfl, rfl, trivial⟩ ?_
    refine w_ret ?_
    refine ⟨_, _, fun a ha hh => results_tmps Try.results34 rfl a ha _, List.Sublist.refl _, ?_⟩
    exact ⟨by rw [keyOut, if_pos hc1]; rfl, rfl⟩
  · skip
    have he : sortErr l = 0 := by simpa using hc1
    obtain ⟨hl1, hl8, hval, hnd⟩ := sortErr_zero he
    have hS : sortOut l = isort l := by rw [sortOut, if_pos he]
    rw [hS]
    have hSl : (isort l).length = l.length := (isort_perm l).length_eq
    have hSv : ∀ t ∈ isort l, t.1.size ≤ 32 ∧ t.2.size ≤ 64 := fun t ht => (validE_zero (hval t ((isort_perm l).mem_iff.1 ht))).2.2
    have hko : keyOut l = if 255 < (keyB (isort l)).length then ([], 4) else (keyB (isort l), 0) := by rw [keyOut, if_neg (by rw [he]; simp)]
    have hkl := fun i => keyB_len ((isort l).take i) fun t ht => hSv t (List.mem_of_mem_take ht)
    simp only [List.length_take] at hkl
    refine w_with fun hh => ?_
    obtain ⟨g, cap, rfl⟩ := row_form hh (i := 0) rfl (by omega)
    clear hh
    generalize isort l = S at hS hSl hSv hko hkl ⊢
    refine w_nilrow 5 1 ?_
    refine w_skip ?_
    refine w_seq ?_
    refine w_reg ?_
    refine wl_f (f_assign rfl) ?_
    refine wl_end [(4, _), (6, _)] ⟨rfl, rfl, trivial⟩ ?_
    refine w_seq ?_
    refine w_seq ?_
    refine w_reg ?_
    refine wl_f (f_move rfl) ?_
    refine wl_f (f_len rfl Try.underlying37) ?_
    refine wl_f (f_move rfl) ?_
    refine wl_end [(6, _), (17, _), (18, _), (19, _)] ⟨rfl, rfl, rfl, rfl, trivial⟩ ?_
    refine w_block ?_
    refine w_loop (fun k m H w => ∃ (i : Nat) (b : Value), m = [(6, b), (17, .slice (some ⟨g, 0, .none⟩) S.length cap), (18, .int .i64 S.length), (19, .int .i64 i)] ∧
      H = [row b 5 1 (keyB (S.take i)).length (bv (keyB (S.take i))), row (.slice (some ⟨g, 0, .none⟩) S.length cap) 52 2 S.length (tcells S)] ∧ k + i = S.length) S.length ⟨0, _, rfl, rfl, rfl⟩ ?_
    rintro k _ _ w2 ⟨i, b, rfl, rfl, hk⟩
    refine w_with fun hh => ?_
    obtain ⟨B, cb, rfl⟩ := row_slice hh (i := 0) rfl
    clear hh
    refine w_seq ?_
    refine w_reg ?_
    refine wl_f (f_lss rfl rfl) ?_
    refine wl_end [(6, _), (17, _), (18, _), (19, _), (20, _)] ⟨rfl, rfl, rfl, rfl, rfl, trivial⟩ ?_
    refine w_seq ?_
    refine w_ifd rfl (fun hc2 => ?_) (fun hc2 => ?_)
    · skip
      obtain ⟨t, ht⟩ : ∃ t, S[i]? = some t := ⟨S[i]'(by omega), List.getElem?_eq_getElem (by omega)⟩
      have hlt := (List.getElem?_eq_some_iff.1 ht).1
      obtain ⟨ht1, ht2⟩ := hSv t (List.mem_of_getElem? ht)
      have hkl' := hkl i
      refine w_skip ?_
      refine w_seq ?_
      refine w_block ?_
      refine w_seq ?_
      refine w_reg ?_
      refine wl_f (f_indexAddr 2 rfl rfl Try.underlying37 (by kernel_rfl) rfl (by omega)) ?_
      refine wl_f (f_loadsr (cs := [.string t.1, .string t.2]) 1 rfl Try.underlying52 rfl (by kernel_rfl) rfl (by rw [← List.take_append_drop i S, List.drop_eq_getElem_cons hlt, (List.getElem?_eq_some_iff.1 ht).2]; exact tc_get _ _ _ (by rw [List.length_take]; omega))) ?_
      refine wl_e (e_allocs [.string ByteArray.empty, .string ByteArray.empty] (by kernel_rfl)) ?_
      rintro _ _ w7_2 ⟨b7_2, rfl, rfl⟩
      (first | refine wl_e0 (e_store0 (us := [_, _]) rfl rfl rfl (by kernel_rfl) (by simp [Value.oneCell']) rfl rfl) ?_ | refine wl_e0 (e_store1 (us := [_, _]) rfl rfl rfl (by kernel_rfl) (by simp [Value.oneCell']) rfl rfl) ?_ | refine wl_e0 (e_store2 (us := [_, _]) rfl rfl rfl (by kernel_rfl) (by simp [Value.oneCell']) rfl rfl) ?_ | refine wl_e0 (e_store3 (us := [_, _]) rfl rfl rfl (by kernel_rfl) (by simp [Value.oneCell']) rfl rfl) ?_)
      rintro _ _ w7_3 rfl
      refine wl_end [(6, _), (8, _), (17, _), (18, _), (19, _)] ⟨rfl, rfl, rfl, rfl, rfl, trivial⟩ ?_
      refine w_seq ?_
      refine w_reg ?_
      refine wl_f (f_move rfl) ?_
      refine wl_f (f_fieldAddr 0 rfl Try.underlying52 rfl rfl (by kernel_rfl)) ?_
      (first | refine wl_f (f_loadb 0 rfl Try.underlying9 rfl rfl rfl) ?_ | refine wl_f (f_loadb 1 rfl Try.underlying9 rfl rfl rfl) ?_ | refine wl_f (f_loadb 2 rfl Try.underlying9 rfl rfl rfl) ?_ | refine wl_f (f_loadb 3 rfl Try.underlying9 rfl rfl rfl) ?_ | refine wl_f (f_loadb 4 rfl Try.underlying9 rfl rfl rfl) ?_ | refine wl_f (f_loadb 5 rfl Try.underlying9 rfl rfl rfl) ?_ | refine wl_f (f_loadb 6 rfl Try.underlying9 rfl rfl rfl) ?_)
      refine wl_f (f_lens rfl Try.underlying9) ?_
      refine wl_f (f_convw rfl Try.underlying3 Try.underlying5 (wrapu8 _)) ?_
      refine wl_e (e_lit1 (cs := [_]) t22 rfl rfl rfl (by omega)) ?_
      rintro _ _ w8_5 ⟨b8_5, rfl, rfl⟩
      refine wl_e (e_app2 t22 rfl rfl (fun w hh => Rd.held0 hh (i := 0) rfl) (by simp [Value.oneCell']) (by omega) (by omega)) ?_
      rintro v8_6 _ w8_6 rfl
      refine wl_f (f_assign rfl) ?_
      refine wl_rm0 ?_
      refine wl_end [(6, _), (8, _), (17, _), (18, _), (19, _)] ⟨rfl, rfl, rfl, rfl, rfl, trivial⟩ ?_
      refine w_seq ?_
      refine w_reg ?_
      refine wl_f (f_move rfl) ?_
      refine wl_f (f_fieldAddr 0 rfl Try.underlying52 rfl rfl (by kernel_rfl)) ?_
      (first | refine wl_f (f_loadb 0 rfl Try.underlying9 rfl rfl rfl) ?_ | refine wl_f (f_loadb 1 rfl Try.underlying9 rfl rfl rfl) ?_ | refine wl_f (f_loadb 2 rfl Try.underlying9 rfl rfl rfl) ?_ | refine wl_f (f_loadb 3 rfl Try.underlying9 rfl rfl rfl) ?_ | refine wl_f (f_loadb 4 rfl Try.underlying9 rfl rfl rfl) ?_ | refine wl_f (f_loadb 5 rfl Try.underlying9 rfl rfl rfl) ?_ | refine wl_f (f_loadb 6 rfl Try.underlying9 rfl rfl rfl) ?_)
      refine wl_e (e_apps1 t22 Try.underlying9 rfl rfl (by omega)) ?_
      rintro v9_3 _ w9_3 rfl
      refine wl_f (f_assign rfl) ?_
      refine wl_end [(6, _), (8, _), (17, _), (18, _), (19, _)] ⟨rfl, rfl, rfl, rfl, rfl, trivial⟩ ?_
      refine w_seq ?_
      refine w_reg ?_
      refine wl_f (f_move rfl) ?_
      refine wl_f (f_fieldAddr 1 rfl Try.underlying52 rfl rfl (by kernel_rfl)) ?_
      (first | refine wl_f (f_loadb 0 rfl Try.underlying9 rfl rfl rfl) ?_ | refine wl_f (f_loadb 1 rfl Try.underlying9 rfl rfl rfl) ?_ | refine wl_f (f_loadb 2 rfl Try.underlying9 rfl rfl rfl) ?_ | refine wl_f (f_loadb 3 rfl Try.underlying9 rfl rfl rfl) ?_ | refine wl_f (f_loadb 4 rfl Try.underlying9 rfl rfl rfl) ?_ | refine wl_f (f_loadb 5 rfl Try.underlying9 rfl rfl rfl) ?_ | refine wl_f (f_loadb 6 rfl Try.underlying9 rfl rfl rfl) ?_)
      refine wl_f (f_lens rfl Try.underlying9) ?_
      refine wl_f (f_convw rfl Try.underlying3 Try.underlying5 (wrapu8 _)) ?_
      refine wl_e (e_lit1 (cs := [_]) t22 rfl rfl rfl (by omega)) ?_
      rintro _ _ w10_5 ⟨b10_5, rfl, rfl⟩
      refine wl_e (e_app2 t22 rfl rfl (fun w hh => Rd.held0 hh (i := 0) rfl) (by simp [Value.oneCell']) (by omega) (by omega)) ?_
      rintro v10_6 _ w10_6 rfl
      refine wl_f (f_assign rfl) ?_
      refine wl_rm0 ?_
      refine wl_end [(6, _), (8, _), (17, _), (18, _), (19, _)] ⟨rfl, rfl, rfl, rfl, rfl, trivial⟩ ?_
      refine w_reg ?_
      refine wl_f (f_move rfl) ?_
      refine wl_f (f_fieldAddr 1 rfl Try.underlying52 rfl rfl (by kernel_rfl)) ?_
      (first | refine wl_f (f_loadb 0 rfl Try.underlying9 rfl rfl rfl) ?_ | refine wl_f (f_loadb 1 rfl Try.underlying9 rfl rfl rfl) ?_ | refine wl_f (f_loadb 2 rfl Try.underlying9 rfl rfl rfl) ?_ | refine wl_f (f_loadb 3 rfl Try.underlying9 rfl rfl rfl) ?_ | refine wl_f (f_loadb 4 rfl Try.underlying9 rfl rfl rfl) ?_ | refine wl_f (f_loadb 5 rfl Try.underlying9 rfl rfl rfl) ?_ | refine wl_f (f_loadb 6 rfl Try.underlying9 rfl rfl rfl) ?_)
      refine wl_e (e_apps1 t22 Try.underlying9 rfl rfl (by omega)) ?_
      rintro v11_3 _ w11_3 rfl
      refine wl_f (f_assign rfl) ?_
      refine wl_rm0 ?_
      refine wl_end [(6, _), (17, _), (18, _), (19, _)] ⟨rfl, rfl, rfl, rfl, trivial⟩ ?_
      refine w_reg ?_
      refine wl_f (f_add rfl rfl (by omega)) ?_
      refine wl_f (f_move rfl) ?_
      refine wl_end [(6, _), (17, _), (18, _), (19, _)] ⟨rfl, rfl, rfl, rfl, trivial⟩ ?_
      refine ⟨k - 1, by omega, i + 1, _, rfl, ?_, by omega⟩
      rw [take_snoc S i t ht, keyB_snoc, sb_cells, sb_cells]
      simp only [bv_app, List.length_append, List.length_cons, List.length_nil, sb_len, Nat.add_assoc, Nat.zero_add]
      rfl
    · skip
      rw [List.take_of_length_le (by omega)]
      refine w_exit0 ?_
      refine w_seq ?_
      refine w_seq ?_
      refine w_reg ?_
      refine wl_f (f_move rfl) ?_
      refine wl_f (f_len rfl Try.underlying22) ?_
      refine wl_f (f_gtr rfl rfl) ?_
      refine wl_end [(6, _), (48, _)] ⟨rfl, rfl, trivial⟩ ?_
      refine w_ifd rfl (fun hc3 => ?_) (fun hc3 => ?_)
      · skip
        refine w_drop [] (List.nil_sublist _) ?_
        refine w_seq ?_
        refine w_reg ?_
        refine wl_f (f_assign rfl) ?_
        refine wl_f (f_assign rfl) ?_
        refine wl_end [(2, _), (3, _)] ⟨rfl, rfl, trivial⟩ ?_
        refine w_ret ?_
        refine ⟨_, _, fun a ha hh => results_tmps Try.results34 rfl a ha _, List.Sublist.refl _, ?_⟩
        exact ⟨by rw [hko, if_pos (by omega)]; rfl, rfl⟩
      · skip
        refine w_skip ?_
        refine w_seq ?_
        refine w_reg ?_
        refine wl_f (f_move rfl) ?_
        refine wl_f (f_b2s rfl Try.underlying22 Try.underlying5 Try.underlying9 (fun w hh => Rd.held0 hh (i := 0) rfl)) ?_
        refine wl_f (f_assign rfl) ?_
        refine wl_f (f_assign rfl) ?_
        refine wl_end [(2, _), (3, _)] ⟨rfl, rfl, trivial⟩ ?_
        refine w_drop [] (List.nil_sublist _) ?_
        refine w_ret ?_
        refine ⟨_, _, fun a ha hh => results_tmps Try.results34 rfl a ha _, List.Sublist.refl _, ?_⟩
        exact ⟨by rw [hko, if_neg (by omega)]; rfl, rfl⟩

theorem eqf (w : World) (t : TypeId) (a b : ByteArray) (h : Try.prog.underlying t = some .string) : (Op.equalIn 9999 t (.string a) (.string b)).run Try.prog w = .ok (a.toList == b.toList) w := run_equalIn_string w 9998 t a b h
set_option maxRecDepth 100000 in
theorem neq_tag (a b c d : ByteArray) (w : World) : (binOp .neq 52 (.agg [.string a, .string b].toArray) (.agg [.string c, .string d].toArray)).run Try.prog w = .ok (.bool (decide (((a, b) : Tg) ≠ (c, d)))) w := by
  have ht : Try.prog.underlying 52 = some (.struct (Try.prog.fieldsOf 52)) := by kernel_rfl
  rw [run_neq_struct, run_equalIn_struct w 9999 52 _ _ ht (by kernel_rfl)]
  simp only [Program.fieldsOf, Try.underlying52]
  have p0 : ∀ a b : ByteArray, (part 9 #[.string a, .string b] 0).run Try.prog w = .ok (.string a) w := fun a b => by kernel_rfl
  have p1 : ∀ a b : ByteArray, (part 9 #[.string a, .string b] 1).run Try.prog w = .ok (.string b) w := fun a b => by kernel_rfl
  simp only [Op.eqFields, ne_eq, String.reduceEq, not_false_eq_true, if_true, Sem.run_bind, p0, eqf w 9 _ _ Try.underlying9, Result.andThen_ok]
  by_cases h : a = c
  · subst h
    by_cases h' : b = d
    · subst h'; simp [p1, eqf w 9 _ _ Try.underlying9]
    · have : ¬ b.toList = d.toList := fun e => h' (toList_inj.1 e)
      simp [h', this, p1, eqf w 9 _ _ Try.underlying9]
  · have : ¬ a.toList = c.toList := fun e => h (toList_inj.1 e)
    simp [h, this]


set_option maxHeartbeats 2000000 in
theorem rkey_spec : KeySpec 45 := by
  intro v l w hr hn hsz
  refine enter (n := 49) Try.func45 rfl rfl [(0, _)] rfl ⟨rfl, trivial⟩ (Holds.start _ _) ?_
  refine w_seq ?_
  refine w_reg ?_
  refine wl_f (f_assign rfl) ?_
  refine wl_f (f_assign rfl) ?_
  refine wl_end [(0, _)] ⟨rfl, trivial⟩ ?_
  refine w_seq ?_
  refine w_reg ?_
  refine wl_f (f_move rfl) ?_
  refine wl_e (e_call0 rfl Try.func47 (by kernel_rfl) (fun w hh => rsort_spec v l w (hr.old0 hh) hn hsz)) ?_
  rintro _ _ w1 ⟨_, rfl, u, rfl, rfl⟩
  refine wl_f (f_move rfl) ?_
  refine wl_f (f_extract rfl rfl) ?_
  refine wl_f (f_extract rfl rfl) ?_
  refine wl_f (f_assign rfl) ?_
  refine wl_f (f_assign rfl) ?_
  refine wl_end [(4, _), (5, _)] ⟨rfl, rfl, trivial⟩ ?_
  refine w_seq ?_
  refine w_seq ?_
  refine w_reg ?_
  refine wl_f (f_move rfl) ?_
  refine wl_f (f_neq rfl rfl) ?_
  refine wl_end [(4, _), (5, _), (15, _)] ⟨rfl, rfl, rfl, trivial⟩ ?_
  refine w_ifd rfl (fun hc1 => ?_) (fun hc1 => ?_)
  · skip
    refine w_drop [] (List.nil_sublist _) ?_
    refine w_seq ?_
    refine w_reg ?_
    refine wl_f (f_move rfl) ?_
    refine wl_f (f_assign rfl) ?_
    refine wl_f (f_assign rfl) ?_
    refine wl_end [(2, _), (3, _)] ⟨rfl, rfl, trivial⟩ ?_
    refine w_ret ?_
    refine ⟨_, _, fun a ha hh => results_tmps Try.results45 rfl a ha _, List.Sublist.refl _, ?_⟩
    exact ⟨by rw [keyOut, if_pos hc1]; rfl, rfl⟩
  · skip
    have he : sortErr l = 0 := by simpa using hc1
    obtain ⟨hl1, hl8, hval, hnd⟩ := sortErr_zero he
    have hS : sortOut l = isort l := by rw [sortOut, if_pos he]
    rw [hS]
    have hSl : (isort l).length = l.length := (isort_perm l).length_eq
    have hSv : ∀ t ∈ isort l, t.1.size ≤ 32 ∧ t.2.size ≤ 64 := fun t ht => (validE_zero (hval t ((isort_perm l).mem_iff.1 ht))).2.2
    have hko : keyOut l = if 255 < (keyB (isort l)).length then ([], 4) else (keyB (isort l), 0) := by rw [keyOut, if_neg (by rw [he]; simp)]
    have hkl := fun i => keyB_len ((isort l).take i) fun t ht => hSv t (List.mem_of_mem_take ht)
    simp only [List.length_take] at hkl
    refine w_with fun hh => ?_
    obtain ⟨g, cap, rfl⟩ := row_form hh (i := 0) rfl (by omega)
    clear hh
    generalize isort l = S at hS hSl hSv hko hkl ⊢
    refine w_skip ?_
    refine w_seq ?_
    refine w_reg ?_
    refine wl_f (f_assign rfl) ?_
    refine wl_end [(4, _), (6, _)] ⟨rfl, rfl, trivial⟩ ?_
    refine w_seq ?_
    refine w_seq ?_
    refine w_reg ?_
    refine wl_f (f_move rfl) ?_
    refine wl_f (f_len rfl Try.underlying37) ?_
    refine wl_f (f_move rfl) ?_
    refine wl_end [(6, _), (17, _), (18, _), (19, _)] ⟨rfl, rfl, rfl, rfl, trivial⟩ ?_
    refine w_block ?_
    refine w_loop (fun k m H w => ∃ i : Nat, m = [(6, .string (str (keyB (S.take i)))), (17, .slice (some ⟨g, 0, .none⟩) S.length cap), (18, .int .i64 S.length), (19, .int .i64 i)] ∧
      H = [row (.slice (some ⟨g, 0, .none⟩) S.length cap) 52 2 S.length (tcells S)] ∧ k + i = S.length) S.length ⟨0, rfl, rfl, rfl⟩ ?_
    rintro k _ _ w2 ⟨i, rfl, rfl, hk⟩
    refine w_seq ?_
    refine w_reg ?_
    refine wl_f (f_lss rfl rfl) ?_
    refine wl_end [(6, _), (17, _), (18, _), (19, _), (20, _)] ⟨rfl, rfl, rfl, rfl, rfl, trivial⟩ ?_
    refine w_seq ?_
    refine w_ifd rfl (fun hc2 => ?_) (fun hc2 => ?_)
    · skip
      obtain ⟨t, ht⟩ : ∃ t, S[i]? = some t := ⟨S[i]'(by omega), List.getElem?_eq_getElem (by omega)⟩
      have hlt := (List.getElem?_eq_some_iff.1 ht).1
      obtain ⟨ht1, ht2⟩ := hSv t (List.mem_of_getElem? ht)
      have hkl' := hkl i
      have hss := str_size (keyB (S.take i))
      have hs1 : (str [t.1.size % 256]).size = 1 := rfl
      have hs2 : (str [t.2.size % 256]).size = 1 := rfl
      refine w_skip ?_
      refine w_seq ?_
      refine w_block ?_
      refine w_seq ?_
      refine w_reg ?_
      refine wl_f (f_indexAddr 2 rfl rfl Try.underlying37 (by kernel_rfl) rfl (by omega)) ?_
      refine wl_f (f_loadsr (cs := [.string t.1, .string t.2]) 0 rfl Try.underlying52 rfl (by kernel_rfl) rfl (by rw [← List.take_append_drop i S, List.drop_eq_getElem_cons hlt, (List.getElem?_eq_some_iff.1 ht).2]; exact tc_get _ _ _ (by rw [List.length_take]; omega))) ?_
      refine wl_e (e_allocs [.string ByteArray.empty, .string ByteArray.empty] (by kernel_rfl)) ?_
      rintro _ _ w7_2 ⟨b7_2, rfl, rfl⟩
      (first | refine wl_e0 (e_store0 (us := [_, _]) rfl rfl rfl (by kernel_rfl) (by simp [Value.oneCell']) rfl rfl) ?_ | refine wl_e0 (e_store1 (us := [_, _]) rfl rfl rfl (by kernel_rfl) (by simp [Value.oneCell']) rfl rfl) ?_ | refine wl_e0 (e_store2 (us := [_, _]) rfl rfl rfl (by kernel_rfl) (by simp [Value.oneCell']) rfl rfl) ?_ | refine wl_e0 (e_store3 (us := [_, _]) rfl rfl rfl (by kernel_rfl) (by simp [Value.oneCell']) rfl rfl) ?_)
      rintro _ _ w7_3 rfl
      refine wl_end [(6, _), (8, _), (17, _), (18, _), (19, _)] ⟨rfl, rfl, rfl, rfl, rfl, trivial⟩ ?_
      refine w_reg ?_
      refine wl_f (f_move rfl) ?_
      refine wl_f (f_fieldAddr 0 rfl Try.underlying52 rfl rfl (by kernel_rfl)) ?_
      (first | refine wl_f (f_loadb 0 rfl Try.underlying9 rfl rfl rfl) ?_ | refine wl_f (f_loadb 1 rfl Try.underlying9 rfl rfl rfl) ?_ | refine wl_f (f_loadb 2 rfl Try.underlying9 rfl rfl rfl) ?_ | refine wl_f (f_loadb 3 rfl Try.underlying9 rfl rfl rfl) ?_ | refine wl_f (f_loadb 4 rfl Try.underlying9 rfl rfl rfl) ?_ | refine wl_f (f_loadb 5 rfl Try.underlying9 rfl rfl rfl) ?_ | refine wl_f (f_loadb 6 rfl Try.underlying9 rfl rfl rfl) ?_)
      refine wl_f (f_lens rfl Try.underlying9) ?_
      refine wl_f (f_convw rfl Try.underlying3 Try.underlying5 (wrapu8 _)) ?_
      refine wl_e (e_lit1 (cs := [_]) t22 rfl rfl rfl (by omega)) ?_
      rintro _ _ w8_5 ⟨b8_5, rfl, rfl⟩
      refine wl_f (f_b2s (xs := [t.1.size % 256]) rfl Try.underlying22 Try.underlying5 Try.underlying9 (fun w hh => Rd.held0 hh (i := 0) rfl)) ?_
      refine wl_f (f_fieldAddr 0 rfl Try.underlying52 rfl rfl (by kernel_rfl)) ?_
      (first | refine wl_f (f_loadb 0 rfl Try.underlying9 rfl rfl rfl) ?_ | refine wl_f (f_loadb 1 rfl Try.underlying9 rfl rfl rfl) ?_ | refine wl_f (f_loadb 2 rfl Try.underlying9 rfl rfl rfl) ?_ | refine wl_f (f_loadb 3 rfl Try.underlying9 rfl rfl rfl) ?_ | refine wl_f (f_loadb 4 rfl Try.underlying9 rfl rfl rfl) ?_ | refine wl_f (f_loadb 5 rfl Try.underlying9 rfl rfl rfl) ?_ | refine wl_f (f_loadb 6 rfl Try.underlying9 rfl rfl rfl) ?_)
      refine wl_f (f_adds rfl rfl (by omega)) ?_
      refine wl_f (f_fieldAddr 1 rfl Try.underlying52 rfl rfl (by kernel_rfl)) ?_
      (first | refine wl_f (f_loadb 0 rfl Try.underlying9 rfl rfl rfl) ?_ | refine wl_f (f_loadb 1 rfl Try.underlying9 rfl rfl rfl) ?_ | refine wl_f (f_loadb 2 rfl Try.underlying9 rfl rfl rfl) ?_ | refine wl_f (f_loadb 3 rfl Try.underlying9 rfl rfl rfl) ?_ | refine wl_f (f_loadb 4 rfl Try.underlying9 rfl rfl rfl) ?_ | refine wl_f (f_loadb 5 rfl Try.underlying9 rfl rfl rfl) ?_ | refine wl_f (f_loadb 6 rfl Try.underlying9 rfl rfl rfl) ?_)
      refine wl_f (f_lens rfl Try.underlying9) ?_
      refine wl_f (f_convw rfl Try.underlying3 Try.underlying5 (wrapu8 _)) ?_
      refine wl_e (e_lit1 (cs := [_]) t22 rfl rfl rfl (by omega)) ?_
      rintro _ _ w8_14 ⟨b8_14, rfl, rfl⟩
      refine wl_f (f_b2s (xs := [t.2.size % 256]) rfl Try.underlying22 Try.underlying5 Try.underlying9 (fun w hh => Rd.held0 hh (i := 0) rfl)) ?_
      refine wl_f (f_adds rfl rfl (by rw [ByteArray.size_append]; omega)) ?_
      refine wl_f (f_fieldAddr 1 rfl Try.underlying52 rfl rfl (by kernel_rfl)) ?_
      (first | refine wl_f (f_loadb 0 rfl Try.underlying9 rfl rfl rfl) ?_ | refine wl_f (f_loadb 1 rfl Try.underlying9 rfl rfl rfl) ?_ | refine wl_f (f_loadb 2 rfl Try.underlying9 rfl rfl rfl) ?_ | refine wl_f (f_loadb 3 rfl Try.underlying9 rfl rfl rfl) ?_ | refine wl_f (f_loadb 4 rfl Try.underlying9 rfl rfl rfl) ?_ | refine wl_f (f_loadb 5 rfl Try.underlying9 rfl rfl rfl) ?_ | refine wl_f (f_loadb 6 rfl Try.underlying9 rfl rfl rfl) ?_)
      refine wl_f (f_adds rfl rfl (by rw [ByteArray.size_append, ByteArray.size_append]; omega)) ?_
      refine wl_f (f_adds rfl rfl (by rw [ByteArray.size_append, ByteArray.size_append, ByteArray.size_append]; omega)) ?_
      refine wl_f (f_assign rfl) ?_
      refine wl_rm0 (wl_rm0 (wl_rm0 ?_))
      refine wl_end [(6, _), (17, _), (18, _), (19, _)] ⟨rfl, rfl, rfl, rfl, trivial⟩ ?_
      refine w_reg ?_
      refine wl_f (f_add rfl rfl (by omega)) ?_
      refine wl_f (f_move rfl) ?_
      refine wl_end [(6, _), (17, _), (18, _), (19, _)] ⟨rfl, rfl, rfl, rfl, trivial⟩ ?_
      refine ⟨k - 1, by omega, i + 1, ?_, rfl, by omega⟩
      rw [take_snoc S i t ht, keyB_snoc]
      simp only [str_app, str_sb, ByteArray.append_assoc]
      rfl
    · skip
      rw [List.take_of_length_le (by omega)]
      have hss := str_size (keyB S)
      refine w_exit0 ?_
      refine w_seq ?_
      refine w_seq ?_
      refine w_reg ?_
      refine wl_f (f_move rfl) ?_
      refine wl_f (f_lens rfl Try.underlying9) ?_
      refine wl_f (f_gtr rfl rfl) ?_
      refine wl_end [(6, _), (47, _)] ⟨rfl, rfl, trivial⟩ ?_
      refine w_ifd rfl (fun hc3 => ?_) (fun hc3 => ?_)
      · skip
        refine w_drop [] (List.nil_sublist _) ?_
        refine w_seq ?_
        refine w_reg ?_
        refine wl_f (f_assign rfl) ?_
        refine wl_f (f_assign rfl) ?_
        refine wl_end [(2, _), (3, _)] ⟨rfl, rfl, trivial⟩ ?_
        refine w_ret ?_
        refine ⟨_, _, fun a ha hh => results_tmps Try.results45 rfl a ha _, List.Sublist.refl _, ?_⟩
        exact ⟨by rw [hko, if_pos (by omega)]; rfl, rfl⟩
      · skip
        refine w_skip ?_
        refine w_seq ?_
        refine w_reg ?_
        refine wl_f (f_move rfl) ?_
        refine wl_f (f_assign rfl) ?_
        refine wl_f (f_assign rfl) ?_
        refine wl_end [(2, _), (3, _)] ⟨rfl, rfl, trivial⟩ ?_
        refine w_drop [] (List.nil_sublist _) ?_
        refine w_ret ?_
        refine ⟨_, _, fun a ha hh => results_tmps Try.results45 rfl a ha _, List.Sublist.refl _, ?_⟩
        exact ⟨by rw [hko, if_neg (by omega)]; rfl, rfl⟩
end Go.Proofs.Ythbjjfpikfmmnaa
