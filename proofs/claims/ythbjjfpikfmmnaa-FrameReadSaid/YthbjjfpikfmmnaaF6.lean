/- Frames: facts about the deck's events; comparing inputs; the example. -/
import Derived.Test.YthbjjfpikfmmnaaF5
import Derived.Test.YthbjjfpikfmmnaaD13
namespace Go.Proofs.Ythbjjfpikfmmnaa
open Go.RowKit

/-! ### The deck's events -/
theorem venc_small {x : Nat} (h : x < 128) : (venc x).length = 1 := by unfold venc; rw [enc_small 10 x h]; rfl
theorem tagsB_deck : ∀ (l : List Tg), (∀ x ∈ l, x.1.size ≤ 20 ∧ x.2.size ≤ 70) → (tagsB l).length ≤ l.length * 92
  | [], _ => by simp [tagsB]
  | t :: l, h => by
    have h1 := h t (List.mem_cons_self ..)
    have h2 := tagsB_deck l fun x hx => h x (List.mem_cons_of_mem _ hx)
    have h3 := venc_small (x := t.1.size) (by omega); have h4 := venc_small (x := t.2.size) (by omega)
    simp only [tagsB, tagB, List.length_append, List.length_cons, sb_len]
    omega
theorem evE_deck {x : Ev} (h : deckEv 50 x) : evE x = (venc x.2.2.1.toNat ++ venc x.2.2.2 ++ venc x.2.1.length ++ tagsB x.2.1, 0) :=
  encEv_deck h.1 ⟨h.2.2.1, by have := h.2.2.2.1; omega⟩
theorem evE_ok {x : Ev} (h : deckEv 50 x) : (evE x).2 = 0 := by rw [evE_deck h]
theorem evE_len {x : Ev} (h : deckEv 50 x) : (evE x).1.length ≤ 290 := by
  rw [evE_deck h]
  have h1 := tagsB_deck x.2.1 h.1.2
  have h2 := h.1.1
  have h3 := venc_small (x := x.2.2.1.toNat) (by have := h.2.2.1; have := h.2.2.2.1; omega)
  have h4 := venc_len x.2.2.2
  have h5 := venc_small (x := x.2.1.length) (by omega)
  simp only [List.length_append]
  omega
theorem evsB_deck : ∀ (E : List Ev), (∀ x ∈ E, deckEv 50 x) → (evsB E).length ≤ E.length * 290
  | [], _ => by simp [evsB]
  | x :: E, h => by
    have h1 := evE_len (h x (List.mem_cons_self ..))
    have h2 := evsB_deck E fun y hy => h y (List.mem_cons_of_mem _ hy)
    simp only [evsB, List.flatMap_cons, List.length_append, List.length_cons] at h2 ⊢
    omega
theorem bodyOut_deck {E : List Ev} (h1 : 1 ≤ E.length) (h2 : E.length ≤ 12) (h : ∀ x ∈ E, deckEv 50 x) : bodyOut E = (venc E.length ++ evsB E, 0) := by
  have h3 := evsB_deck E h
  have h4 := venc_len E.length
  unfold bodyOut
  rw [if_neg (by omega), if_neg (by rw [firstE_all fun y hy => evE_ok (h y hy)]; simp), if_neg (by rw [List.length_append]; omega)]
theorem evsB_lt (E : List Ev) (h : ∀ x ∈ E, x.2.2.2 < 18446744073709551616) : ∀ b ∈ evsB E, b < 256 := by
  intro b hb
  simp only [evsB, List.mem_flatMap] at hb
  obtain ⟨x, hx, hb⟩ := hb
  exact encEv_lt _ _ _ (h x hx) b hb
theorem bodyOut_lt (E : List Ev) (hn : E.length < 18446744073709551616) (h : ∀ x ∈ E, x.2.2.2 < 18446744073709551616) : ∀ b ∈ (bodyOut E).1, b < 256 := by
  unfold bodyOut
  split
  · simp
  split
  · simp
  split
  · simp
  · intro b hb
    rcases List.mem_append.1 hb with hb | hb
    · exact venc_lt hn b hb
    · exact evsB_lt E h b hb

/-- What the deck's events are, for a reader. -/
theorem deck_rdE {w : World} {v : Value} {E : List Ev} (hv : Rd w Nil 3 v E.length (ecells E)) (h : ∀ x ∈ E, Rd w Nil 2 x.1 x.2.1.length (tcells x.2.1)) (hd : ∀ x ∈ E, deckEv 50 x) : RdE w v E :=
  ⟨hv, fun x hx => ⟨h x hx, by have := (hd x hx).1.1; omega, by have := (hd x hx).2.2; omega, (hd x hx).2.2.2.2⟩⟩

/-! ### Comparing inputs -/
theorem eqItem (s s' : ByteArray) (t t' u u' : Int) (d : Nat) (hd : 9000 ≤ d) (w : World) : (Op.equalIn (d + 1) 42 (.agg [.string s, .int .i64 t, .int .u64 u].toArray) (.agg [.string s', .int .i64 t', .int .u64 u'].toArray)).run Try.prog w = .ok (decide (s = s' ∧ t = t' ∧ u = u')) w := by
  obtain ⟨d, rfl⟩ : ∃ e, d = e + 1 := ⟨d - 1, by omega⟩
  have ht : Try.prog.underlying 42 = some (.struct (Try.prog.fieldsOf 42)) := by kernel_rfl
  rw [run_equalIn_struct w (d + 1) 42 _ _ ht (by kernel_rfl)]
  simp only [Program.fieldsOf, Try.underlying42]
  have p0 : ∀ (s : ByteArray) (t u : Int), (part 9 #[.string s, .int .i64 t, .int .u64 u] 0).run Try.prog w = .ok (.string s) w := fun s t u => by kernel_rfl
  have p1 : ∀ (s : ByteArray) (t u : Int), (part 3 #[.string s, .int .i64 t, .int .u64 u] 1).run Try.prog w = .ok (.int .i64 t) w := fun s t u => by kernel_rfl
  have p2 : ∀ (s : ByteArray) (t u : Int), (part 38 #[.string s, .int .i64 t, .int .u64 u] 2).run Try.prog w = .ok (.int .u64 u) w := fun s t u => by kernel_rfl
  have q0 : (Op.equalIn (d + 1) 9 (.string s) (.string s')).run Try.prog w = .ok (s.toList == s'.toList) w := run_equalIn_string w d _ s s' Try.underlying9
  have q1 : (Op.equalIn (d + 1) 3 (.int .i64 t) (.int .i64 t')).run Try.prog w = .ok (t == t') w := run_equalIn_int w d 3 .i64 .i64 t t' Try.underlying3
  have q2 : (Op.equalIn (d + 1) 38 (.int .u64 u) (.int .u64 u')).run Try.prog w = .ok (u == u') w := run_equalIn_int w d 38 .u64 .u64 u u' Try.underlying38
  by_cases h0 : s = s'
  · subst h0
    by_cases h1 : t = t'
    · subst h1
      by_cases h2 : u = u'
      · subst h2; simp [Op.eqFields, p0, p1, p2, q0, q1, q2]
      · simp [Op.eqFields, p0, p1, p2, q0, q1, q2, h2]
    · simp [Op.eqFields, p0, p1, p2, q0, q1, q2, h1]
  · have : ¬ s.toList = s'.toList := fun e => h0 (toList_inj.1 e)
    simp [Op.eqFields, p0, p1, p2, q0, q1, q2, h0, this]
theorem eqIn (s s' : ByteArray) (t t' u u' v v' : Int) (w : World) : (Op.equalIn 10000 46 (.agg [.string s, .int .i64 t, .int .u64 u, .int .i64 v].toArray) (.agg [.string s', .int .i64 t', .int .u64 u', .int .i64 v'].toArray)).run Try.prog w = .ok (decide (s = s' ∧ t = t' ∧ u = u' ∧ v = v')) w := by
  have ht : Try.prog.underlying 46 = some (.struct (Try.prog.fieldsOf 46)) := by kernel_rfl
  rw [run_equalIn_struct w 9999 46 _ _ ht (by kernel_rfl)]
  simp only [Program.fieldsOf, Try.underlying46]
  have p0 : ∀ (s : ByteArray) (t u v : Int), (part 42 #[.string s, .int .i64 t, .int .u64 u, .int .i64 v] 0).run Try.prog w = .ok (.agg [.string s, .int .i64 t, .int .u64 u].toArray) w := fun s t u v => by kernel_rfl
  have p1 : ∀ (s : ByteArray) (t u v : Int), (part 3 #[.string s, .int .i64 t, .int .u64 u, .int .i64 v] 3).run Try.prog w = .ok (.int .i64 v) w := fun s t u v => by kernel_rfl
  have q0 := eqItem s s' t t' u u' 9998 (by omega) w
  have q1 : (Op.equalIn 9999 3 (.int .i64 v) (.int .i64 v')).run Try.prog w = .ok (v == v') w := run_equalIn_int w 9998 3 .i64 .i64 v v' Try.underlying3
  simp only [Op.eqFields, ne_eq, String.reduceEq, not_false_eq_true, if_true, Sem.run_bind, p0, q0, Result.andThen_ok]
  by_cases h0 : s = s' ∧ t = t' ∧ u = u'
  · obtain ⟨rfl, rfl, rfl⟩ := h0
    by_cases h1 : v = v'
    · subst h1; simp [p1, q1]
    · simp [p1, q1, h1]
  · have h2 : ¬ (s = s' ∧ t = t' ∧ u = u' ∧ v = v') := fun h => h0 ⟨h.1, h.2.1, h.2.2.1⟩
    simp [h0, h2]
theorem neqIn (s s' : ByteArray) (t t' u u' v v' : Int) (w : World) : (binOp .neq 46 (.agg [.string s, .int .i64 t, .int .u64 u, .int .i64 v].toArray) (.agg [.string s', .int .i64 t', .int .u64 u', .int .i64 v'].toArray)).run Try.prog w = .ok (.bool (!decide (s = s' ∧ t = t' ∧ u = u' ∧ v = v'))) w := by
  rw [run_neq_struct, eqIn]; rfl
theorem eqlIn (s s' : ByteArray) (t t' u u' v v' : Int) (w : World) : (binOp .eql 46 (.agg [.string s, .int .i64 t, .int .u64 u, .int .i64 v].toArray) (.agg [.string s', .int .i64 t', .int .u64 u', .int .i64 v'].toArray)).run Try.prog w = .ok (.bool (decide (s = s' ∧ t = t' ∧ u = u' ∧ v = v'))) w := by
  rw [run_eql_struct, eqIn]; rfl
theorem neqItem (s s' : ByteArray) (t t' u u' : Int) (w : World) : (binOp .neq 42 (.agg [.string s, .int .i64 t, .int .u64 u].toArray) (.agg [.string s', .int .i64 t', .int .u64 u'].toArray)).run Try.prog w = .ok (.bool (!decide (s = s' ∧ t = t' ∧ u = u'))) w := by
  rw [run_neq_struct, eqItem _ _ _ _ _ _ 9999 (by omega)]; rfl

/-- The cells of an input that a reader sees. -/
theorem incells_at {w : World} {b off : Nat} {l : List In} {i : Nat} {x : In} (d : ∀ j u, (incells l)[j]? = some u → w.cell? ⟨b, off + j, .none⟩ = some u) (h : l[i]? = some x) :
    ∀ j u, ([.string (str x.1.1), .int .i64 x.1.2.1, .int .u64 (x.1.2.2 : Int), .int .i64 x.2] : List Value)[j]? = some u → w.cell? ⟨b, off + i * 4 + j, .none⟩ = some u := by
  intro j u hu
  have h' := incells_get h
  rw [← h', List.getElem?_take] at hu
  split at hu
  · rw [List.getElem?_drop, Nat.zero_add] at hu
    have := d (i * 4 + j) u hu
    rwa [← Nat.add_assoc] at this
  · cases hu

theorem sameInputs_spec (v1 v2 : Value) (xs : List In) (w : World) (h1 : Rd w Nil 4 v1 xs.length (incells xs)) (h2 : Rd w Nil 4 v2 xs.length (incells xs)) (hx : xs.length ≤ 140737488355328) :
    Spec Try.prog 12 [v1, v2] w Nil fun r H => r = .bool true ∧ H = [] := by
  obtain ⟨A1, c1, rfl, -, hc1', g1⟩ := h1
  obtain ⟨A2, c2, rfl, -, hc2', g2⟩ := h2
  refine enter (n := 26) Try.func12 rfl rfl [(0, _), (1, _)] rfl ⟨rfl, rfl, trivial⟩ (Holds.start _ _) ?_
  refine w_seq ?_
  refine w_reg ?_
  refine wl_f (f_assign rfl) ?_
  refine wl_end [(0, _), (1, _)] ⟨rfl, rfl, trivial⟩ ?_
  refine w_seq ?_
  refine w_seq ?_
  refine w_reg ?_
  refine wl_f (f_move rfl) ?_
  refine wl_f (f_len rfl Try.underlying34) ?_
  refine wl_f (f_move rfl) ?_
  refine wl_f (f_len rfl Try.underlying34) ?_
  refine wl_f (f_neq rfl rfl) ?_
  refine wl_end [(0, _), (1, _), (10, _)] ⟨rfl, rfl, rfl, trivial⟩ ?_
  refine w_ifb rfl (fun h => absurd h (by simp)) (fun _ => ?_)
  refine w_skip ?_
  refine w_seq ?_
  refine w_seq ?_
  refine w_reg ?_
  refine wl_f (f_move rfl) ?_
  refine wl_f (f_len rfl Try.underlying34) ?_
  refine wl_f (f_move rfl) ?_
  refine wl_end [(0, _), (1, _), (12, _), (13, _)] ⟨rfl, rfl, rfl, rfl, trivial⟩ ?_
  refine w_block ?_
  refine w_loop (fun k m H w => ∃ i : Nat, m = [(0, .slice A1 xs.length c1), (1, .slice A2 xs.length c2), (12, .int .i64 xs.length), (13, .int .i64 i)] ∧ H = [] ∧ k + i = xs.length) xs.length ⟨0, rfl, rfl, rfl⟩ ?_
  rintro k _ _ w' ⟨i, rfl, rfl, hk⟩
  refine w_seq ?_
  refine w_reg ?_
  refine wl_f (f_lss rfl rfl) ?_
  refine wl_end [(0, _), (1, _), (12, _), (13, _), (14, _)] ⟨rfl, rfl, rfl, rfl, rfl, trivial⟩ ?_
  refine w_seq ?_
  refine w_ifd rfl (fun hc2 => ?_) (fun hc2 => ?_)
  · skip
    have hi : i < xs.length := by omega
    obtain ⟨x, hxi⟩ : ∃ x, xs[i]? = some x := ⟨_, List.getElem?_eq_getElem hi⟩
    obtain ⟨b1, o1, rfl, -, -, d1⟩ := g1.resolve_left (by omega)
    obtain ⟨b2, o2, rfl, -, -, d2⟩ := g2.resolve_left (by omega)
    refine w_skip ?_
    refine w_seq ?_
    refine w_block ?_
    refine w_seq ?_
    refine w_reg ?_
    refine wl_f (f_move rfl) ?_
    refine wl_f (f_assign rfl) ?_
    refine wl_end [(0, _), (1, _), (5, _), (12, _), (13, _)] ⟨rfl, rfl, rfl, rfl, rfl, trivial⟩ ?_
    refine w_seq ?_
    refine w_draw [(0, true), (1, true), (2, true), (3, true), (4, true), (5, true), (6, true), (7, true), (8, true)] (_) ([]) mixed (by kernel_rfl) (by kernel_rfl) rfl (perm_all _) (fun w6_ => ?_)
    refine wd_f rfl (f_move rfl) ?_
    refine wd_f rfl (f_move rfl) ?_
    refine wd_f rfl (f_indexAddr 4 (i := i) rfl rfl Try.underlying34 (by kernel_rfl) rfl hi) ?_
    refine wd_f rfl (f_loadso (cs := [.string (str x.1.1), .int .i64 x.1.2.1, .int .u64 (x.1.2.2 : Int), .int .i64 x.2]) rfl Try.underlying46 rfl (by kernel_rfl) (incells_at d1 hxi) id) ?_
    refine wd_f rfl (f_move rfl) ?_
    refine wd_f rfl (f_move rfl) ?_
    refine wd_f rfl (f_indexAddr 4 (i := i) rfl rfl Try.underlying34 (by kernel_rfl) rfl hi) ?_
    refine wd_f rfl (f_loadso (cs := [.string (str x.1.1), .int .i64 x.1.2.1, .int .u64 (x.1.2.2 : Int), .int .i64 x.2]) rfl Try.underlying46 rfl (by kernel_rfl) (incells_at d2 hxi) id) ?_
    refine wd_f rfl (f_bin rfl rfl (fun w => run_eqGuard_agg w _ _ _ _ _ _ (by kernel_rfl)) (fun w => neqIn _ _ _ _ _ _ _ _ w)) ?_
    refine wd_end [(0, _), (1, _), (12, _), (13, _), (24, _)] ⟨rfl, rfl, rfl, rfl, rfl, trivial⟩ ?_
    refine w_ifb rfl (fun h => absurd h (by simp)) (fun _ => ?_)
    refine w_skip ?_
    refine w_reg ?_
    refine wl_f (f_add rfl rfl (by omega)) ?_
    refine wl_f (f_move rfl) ?_
    refine wl_end [(0, _), (1, _), (12, _), (13, _)] ⟨rfl, rfl, rfl, rfl, trivial⟩ ?_
    exact ⟨k - 1, by omega, i + 1, rfl, rfl, by omega⟩
  · skip
    refine w_exit0 ?_
    refine w_seq ?_
    refine w_reg ?_
    refine wl_f (f_assign rfl) ?_
    refine wl_end [(4, _)] ⟨rfl, trivial⟩ ?_
    refine w_ret ?_
    refine ⟨_, _, fun a ha hh => results_tmps Try.results12 rfl a ha _, List.Sublist.refl _, ?_⟩
    exact ⟨rfl, rfl⟩
end Go.Proofs.Ythbjjfpikfmmnaa
