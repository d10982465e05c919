/- Texts of this proof, part MA9: what the code does, step by step. They have no conditions. -/
import Derived.Test.YtbcfdgnpdaaleaaGreatMA8
import Derived.Test.YtbcfdgnpdaaleaaGreatMA4
import Derived.Test.YtbcfdgnpdaaleaaGreatMA3
/- Tables of tracked keys, plain: what counts and slacks keep. -/
namespace Go.Proofs.YtbcfdgnpdaaleaaGreat
open Go.RowKit

def efr : Option En → Nat
  | none => 1
  | some _ => 0
def fr (E : List (Option En)) : Nat := (E.map efr).sum
theorem fr_set {E : List (Option En)} {n : Nat} {o : Option En} (x : Option En) (h : E[n]? = some o) : fr (E.set n x) + efr o = fr E + efr x := by
  obtain ⟨A, B, rfl, rfl⟩ := split_at h
  rw [set_split]
  simp only [fr, List.map_append, List.map_cons, List.sum_append, List.sum_cons]
  omega
theorem fr_cnt (E : List (Option En)) : fr E + (E.filterMap id).length = E.length := by
  induction E with
  | nil => rfl
  | cons o E ih =>
    cases o with
    | none => simp only [fr, efr, List.map_cons, List.sum_cons, List.filterMap_cons, id, List.length_cons] at ih ⊢; omega
    | some x => simp only [fr, efr, List.map_cons, List.sum_cons, List.filterMap_cons, id, List.length_cons] at ih ⊢; omega
theorem fr_new (m : Nat) : fr (List.replicate m none) = m := by
  induction m with
  | zero => rfl
  | succ m ih => rw [List.replicate_succ, fr, List.map_cons, List.sum_cons]; rw [fr] at ih; rw [ih]; exact Nat.add_comm _ _
theorem fr_full {E : List (Option En)} (h : ∀ i < E.length, ∃ x, E[i]? = some (some x)) : fr E = 0 := by
  have h1 : ∀ o ∈ E, efr o = 0 := fun o ho => by
    obtain ⟨i, hi⟩ := List.mem_iff_getElem?.1 ho
    obtain ⟨x, hx⟩ := h i (List.getElem?_eq_some_iff.1 hi).1
    rw [hi] at hx
    injection hx with hx
    rw [hx]; rfl
  clear h
  induction E with
  | nil => rfl
  | cons o E ih =>
    rw [fr, List.map_cons, List.sum_cons, h1 o (List.mem_cons_self ..), Nat.zero_add]
    exact ih fun o ho => h1 o (List.mem_cons_of_mem _ ho)
theorem esum_fr {E : List (Option En)} {b : Nat} (h : ∀ x, some x ∈ E → b ≤ x.2.1 + x.2.2) : E.length * b ≤ esum E + fr E * b := by
  induction E with
  | nil => simp
  | cons o E ih =>
    have h2 := ih fun x hx => h x (List.mem_cons_of_mem _ hx)
    cases o with
    | none =>
      simp only [esum, fr, efr, ecnt, List.map_cons, List.sum_cons, List.length_cons] at h2 ⊢
      rw [Nat.succ_mul, Nat.add_mul]
      omega
    | some x =>
      have h1 := h x (List.mem_cons_self ..)
      simp only [esum, fr, efr, ecnt, List.map_cons, List.sum_cons, List.length_cons] at h2 ⊢
      rw [Nat.succ_mul, Nat.zero_add]
      omega
structure BInv (E : List (Option En)) (base total : Nat) : Prop where
  sum : esum E + fr E * base ≤ total
  ge : ∀ k i o s, Has E k i o s → base ≤ o + s
theorem BInv.new (m : Nat) : BInv (List.replicate m none) 0 0 := ⟨by rw [esum0]; simp, fun k i o s h => absurd h has0⟩
theorem BInv.mbase {E : List (Option En)} {base total : Nat} (h : BInv E base total) : E.length * base ≤ total :=
  Nat.le_trans (esum_fr fun x hx => by
    obtain ⟨i, hi⟩ := List.mem_iff_getElem?.1 hx
    exact h.ge x.1 i x.2.1 x.2.2 hi) h.sum
theorem BInv.set {E : List (Option En)} {base total n : Nat} {k : ByteArray} {o s o' s' : Nat} {x : ByteArray} (h : BInv E base total) (hi : Has E k n o s) (h1 : base ≤ o' + s') {total' : Nat} (h2 : o' + s' + total ≤ o + s + total') : BInv (E.set n (some (x, o', s'))) base total' := by
  have a := esum_set (some (x, o', s')) hi
  have b := fr_set (some (x, o', s')) hi
  simp only [ecnt, efr] at a b
  have e : fr (E.set n (some (x, o', s'))) = fr E := by omega
  refine ⟨?_, fun q j o2 s2 hj => ?_⟩
  · rw [e]; have := h.sum; omega
  · rcases has_set hi hj with ⟨_, e2⟩ | ⟨_, hj⟩
    · injection e2 with _ e2; injection e2 with e2 e3; omega
    · exact h.ge q j o2 s2 hj
theorem BInv.drop {E : List (Option En)} {base total n : Nat} {k : ByteArray} {o s : Nat} (h : BInv E base total) (hi : Has E k n o s) : BInv (E.set n none) base total := by
  have a := esum_set none hi
  have b := fr_set none hi
  simp only [ecnt, efr] at a b
  have hl : n < E.length := (List.getElem?_eq_some_iff.1 hi).1
  have hb := h.ge k n o s hi
  have e : fr (E.set n none) = fr E + 1 := by omega
  refine ⟨?_, fun q j o2 s2 hj => ?_⟩
  · rw [e, Nat.succ_mul]; have := h.sum; omega
  · have hne : n ≠ j := fun e => by
      subst e
      have hj' : (E.set n none)[n]? = some (some (q, o2, s2)) := hj
      rw [List.getElem?_set_self hl] at hj'; cases hj'
    have hj' : (E.set n none)[j]? = some (some (q, o2, s2)) := hj
    rw [List.getElem?_set_ne hne] at hj'
    exact h.ge q j o2 s2 hj'
theorem BInv.add {m : Nat} {E E' : List (Option En)} {base base' total total' w : Nat} {k : ByteArray} {e : Int} (h : BInv E base total) (hm : E.length = m) (hA : AddG m E base total k w e E' base' total') : BInv E' base' total' := by
  rcases hA with ⟨_, rfl, rfl, rfl, _⟩ | ⟨_, _, _, _, rfl, ⟨i, o, s, hi, rfl, rfl⟩ | ⟨hno, n, E1, ⟨hnm, hn, hc⟩, rfl⟩⟩
  · exact h
  · have := h.ge k i o s hi
    exact h.set hi (by omega) (by omega)
  · have a := esum_set (some (k, w, base')) hn
    have b := fr_set (some (k, w, base')) hn
    simp only [ecnt, efr] at a b
    rcases hc with ⟨rfl, rfl, _⟩ | ⟨hall, k0, o0, s0, hi0, rfl, rfl, hle⟩
    · refine ⟨?_, fun q j o2 s2 hj => ?_⟩
      · have h1 := h.sum
        rw [show fr E1 = fr (E1.set n (some (k, w, base'))) + 1 by omega, Nat.succ_mul] at h1
        omega
      · rcases has_set hn hj with ⟨_, e2⟩ | ⟨_, hj⟩
        · injection e2 with _ e2; injection e2 with e2 e3; omega
        · exact h.ge q j o2 s2 hj
    · have h0 := fr_full (E := E) fun i hi => hall i (by omega)
      have a0 := esum_set none hi0
      have b0 := fr_set none hi0
      simp only [ecnt, efr] at a0 b0
      refine ⟨?_, fun q j o2 s2 hj => ?_⟩
      · rw [show fr ((E.set n none).set n (some (k, w, o0 + s0))) = 0 by omega]
        have h1 := h.sum
        omega
      · rcases has_set hn hj with ⟨_, e2⟩ | ⟨hne, hj⟩
        · injection e2 with _ e2; injection e2 with e2 e3; omega
        · have hj' : (E.set n none)[j]? = some (some (q, o2, s2)) := hj
          rw [List.getElem?_set_ne (fun e => hne e.symm)] at hj'
          exact hle j q o2 s2 hj'
theorem BInv.tok {E : List (Option En)} {base total : Nat} (h : BInv E base total) (hl : 1 ≤ E.length) (ht : total ≤ 9223372036854775808) : TOk E base total := by
  refine ⟨ht, ?_, fun i k o s hi => ?_⟩
  · have h1 := h.mbase
    have h2 : 1 * base ≤ E.length * base := Nat.mul_le_mul_right _ hl
    omega
  · have a := esum_set none hi
    simp only [ecnt] at a
    have := h.sum
    omega
theorem BInv.swap {E E' : List (Option En)} {base total : Nat} {k x : ByteArray} {xo xs : Nat} {v : Value} (h : BInv E base total) (hS : SwapG E base k x xo xs v E') : BInv E' base total ∧ E'.length = E.length := by
  rcases hS with ⟨_, _, rfl, _⟩ | ⟨i, o, s, hi, _, _, hle, _, rfl⟩
  · exact ⟨h, rfl⟩
  · have := h.ge k i o s hi
    exact ⟨h.set hi (by omega) (by omega), List.length_set⟩
theorem AddG.le {m : Nat} {E E' : List (Option En)} {base base' total total' w : Nat} {k : ByteArray} {e : Int} (hA : AddG m E base total k w e E' base' total') (ht : TOk E base total) : total' ≤ 9223372036854775808 := (hA.tok ht).1

/-- No slack is more than the bound of what is not tracked. -/
def SlI (E : List (Option En)) (base : Nat) : Prop := ∀ k i o s, Has E k i o s → s ≤ base
theorem SlI.new (m : Nat) : SlI (List.replicate m none) 0 := fun k i o s h => absurd h has0
theorem SlI.drop {E : List (Option En)} {base n : Nat} (h : SlI E base) : SlI (E.set n none) base := fun k i o s hi => by
  unfold Has at hi
  rw [List.getElem?_set] at hi
  split at hi
  · split at hi <;> cases hi
  · exact h k i o s hi
theorem SlI.set {E : List (Option En)} {base n : Nat} {x : ByteArray} {xo xs : Nat} (h : SlI E base) (hx : xs ≤ base) : SlI (E.set n (some (x, xo, xs))) base := fun k i o s hi => by
  unfold Has at hi
  rw [List.getElem?_set] at hi
  split at hi
  · split at hi
    · injection hi with hi
      injection hi with hi
      injection hi with _ hi
      injection hi with _ hi
      omega
    · cases hi
  · exact h k i o s hi
theorem SlI.mono {E : List (Option En)} {b b' : Nat} (h : SlI E b) (hb : b ≤ b') : SlI E b' := fun k i o s hi => Nat.le_trans (h k i o s hi) hb
theorem SlI.free {m n : Nat} {E E' : List (Option En)} {base base' total : Nat} (h : SlI E base) (hB : BInv E base total) (hf : FreeG m E base n E' base') : SlI E' base' ∧ base ≤ base' := by
  rcases hf with ⟨_, _, ⟨rfl, rfl, _⟩ | ⟨_, k, o, s, hn, rfl, rfl, _⟩⟩
  · exact ⟨h, Nat.le_refl _⟩
  · have hb := hB.ge k n o s hn
    exact ⟨h.drop.mono hb, hb⟩
theorem SlI.add {m : Nat} {E E' : List (Option En)} {base base' total total' w : Nat} {k : ByteArray} {e : Int} (h : SlI E base) (hB : BInv E base total) (hA : AddG m E base total k w e E' base' total') : SlI E' base' := by
  rcases hA with ⟨_, rfl, rfl, _⟩ | ⟨_, _, _, _, _, ⟨i, o, s, hi, rfl, rfl⟩ | ⟨_, n, E1, hf, rfl⟩⟩
  · exact h
  · exact h.set (h k i o s hi)
  · exact (h.free hB hf).1.set (Nat.le_refl _)
theorem SlI.swap {E E' : List (Option En)} {base : Nat} {k x : ByteArray} {xo xs : Nat} {v : Value} (h : SlI E base) (hx : xs ≤ base) (hS : SwapG E base k x xo xs v E') : SlI E' base := by
  rcases hS with ⟨_, _, rfl, _⟩ | ⟨i, o, s, hi, _, _, _, _, rfl⟩
  · exact h
  · exact h.set (by omega)
end Go.Proofs.YtbcfdgnpdaaleaaGreat

/- Comparing entries. -/
namespace Go.Proofs.YtbcfdgnpdaaleaaGreat
open Go.RowKit

theorem eqEn (s s' : ByteArray) (t t' u u' : Int) (w : World) : (Op.equalIn 10000 25 (.agg [.string s, .int .u64 t, .int .u64 u].toArray) (.agg [.string s', .int .u64 t', .int .u64 u'].toArray)).run Tryz.prog w = .ok (decide (s = s' ∧ t = t' ∧ u = u')) w := by
  have ht : Tryz.prog.underlying 25 = some (.struct (Tryz.prog.fieldsOf 25)) := by kernel_rfl
  rw [run_equalIn_struct w 9999 25 _ _ ht (by kernel_rfl)]
  simp only [Program.fieldsOf, Tryz.underlying25]
  have p0 : ∀ (s : ByteArray) (t u : Int), (part 9 #[.string s, .int .u64 t, .int .u64 u] 0).run Tryz.prog w = .ok (.string s) w := fun s t u => by kernel_rfl
  have p1 : ∀ (s : ByteArray) (t u : Int), (part 23 #[.string s, .int .u64 t, .int .u64 u] 1).run Tryz.prog w = .ok (.int .u64 t) w := fun s t u => by kernel_rfl
  have p2 : ∀ (s : ByteArray) (t u : Int), (part 23 #[.string s, .int .u64 t, .int .u64 u] 2).run Tryz.prog w = .ok (.int .u64 u) w := fun s t u => by kernel_rfl
  have q0 : (Op.equalIn 9999 9 (.string s) (.string s')).run Tryz.prog w = .ok (s.toList == s'.toList) w := run_equalIn_string w 9998 _ s s' Tryz.underlying9
  have q1 : (Op.equalIn 9999 23 (.int .u64 t) (.int .u64 t')).run Tryz.prog w = .ok (t == t') w := run_equalIn_int w 9998 23 .u64 .u64 t t' Tryz.underlying23
  have q2 : (Op.equalIn 9999 23 (.int .u64 u) (.int .u64 u')).run Tryz.prog w = .ok (u == u') w := run_equalIn_int w 9998 23 .u64 .u64 u u' Tryz.underlying23
  by_cases h0 : s = s'
  · subst h0
    by_cases h1 : t = t'
    · subst h1
      by_cases h2 : u = u'
      · subst h2; simp [Op.eqFields, p0, p1, p2, q0, q1, q2]
      · simp [Op.eqFields, p0, p1, p2, q0, q1, q2, h2]
    · simp [Op.eqFields, p0, p1, p2, q0, q1, q2, h1]
  · have : ¬ s.toList = s'.toList := fun e => h0 (toList_inj.1 e)
    simp [Op.eqFields, p0, p1, p2, q0, q1, q2, h0, this]
theorem neqEn (s s' : ByteArray) (t t' u u' : Int) (w : World) : (binOp .neq 25 (.agg [.string s, .int .u64 t, .int .u64 u].toArray) (.agg [.string s', .int .u64 t', .int .u64 u'].toArray)).run Tryz.prog w = .ok (.bool (!decide (s = s' ∧ t = t' ∧ u = u'))) w := by
  rw [run_neq_struct, eqEn]; rfl
theorem eqlEn (s s' : ByteArray) (t t' u u' : Int) (w : World) : (binOp .eql 25 (.agg [.string s, .int .u64 t, .int .u64 u].toArray) (.agg [.string s', .int .u64 t', .int .u64 u'].toArray)).run Tryz.prog w = .ok (.bool (decide (s = s' ∧ t = t' ∧ u = u'))) w := by
  rw [run_eql_struct, eqEn]; rfl
theorem encs_len (l : List En) : (encs l).length = l.length * 3 := by rw [encs, ecells_len, List.length_map]
theorem encs_get {l : List En} {i : Nat} {x : En} (h : l[i]? = some x) : ((encs l).drop (0 + i * 3)).take 3 = ecell (some x) := ecells_get (by rw [List.getElem?_map, h]; rfl)
/-- The cells of an entry that a reader sees. -/
theorem encs_at {w : World} {b off : Nat} {l : List En} {i : Nat} {x : En} (d : ∀ j u, (encs l)[j]? = some u → w.cell? ⟨b, off + j, .none⟩ = some u) (h : l[i]? = some x) :
    ∀ j u, (ecell (some x))[j]? = some u → w.cell? ⟨b, off + i * 3 + j, .none⟩ = some u := by
  intro j u hu
  have h' := encs_get h
  rw [← h', List.getElem?_take] at hu
  split at hu
  · rw [List.getElem?_drop, Nat.zero_add] at hu
    have := d (i * 3 + j) u hu
    rwa [← Nat.add_assoc] at this
  · cases hu
theorem sameEntries_spec (v1 v2 : Value) (xs ys : List En) (w : World) (h1 : Rd w Nil 3 v1 xs.length (encs xs)) (h2 : Rd w Nil 3 v2 ys.length (encs ys)) (hx : xs.length ≤ 140737488355328) (hy : ys.length ≤ 140737488355328) :
    Spec Tryz.prog 18 [v1, v2] w Nil fun r H => r = .bool (decide (xs = ys)) ∧ H = [] := by
  obtain ⟨A1, c1, rfl, -, hc1', g1⟩ := h1
  obtain ⟨A2, c2, rfl, -, hc2', g2⟩ := h2
  refine enter (n := 26) Tryz.func18 rfl rfl [(0, _), (1, _)] rfl ⟨rfl, rfl, trivial⟩ (Holds.start _ _) ?_
  refine w_seq ?_
  refine w_reg ?_
  refine wl_f (f_assign rfl) ?_
  refine wl_end [(0, _), (1, _)] ⟨rfl, rfl, trivial⟩ ?_
  refine w_seq ?_
  refine w_seq ?_
  refine w_reg ?_
  refine wl_f (f_move rfl) ?_
  refine wl_f (f_len rfl Tryz.underlying45) ?_
  refine wl_f (f_move rfl) ?_
  refine wl_f (f_len rfl Tryz.underlying45) ?_
  refine wl_f (f_neq rfl rfl) ?_
  refine wl_end [(0, _), (1, _), (10, _)] ⟨rfl, rfl, rfl, trivial⟩ ?_
  refine w_ifd rfl (fun hc1 => ?_) (fun hc1 => ?_)
  · skip
    refine w_seq ?_
    refine w_reg ?_
    refine wl_f (f_assign rfl) ?_
    refine wl_end [(4, _)] ⟨rfl, trivial⟩ ?_
    refine w_ret ?_
    refine ⟨_, _, fun a ha hh => results_tmps Tryz.results18 rfl a ha _, List.Sublist.refl _, ?_⟩
    exact ⟨by rw [decide_eq_false (fun e => hc1 (by rw [e]))]; rfl, rfl⟩
  · skip
    refine w_skip ?_
    refine w_seq ?_
    refine w_seq ?_
    refine w_reg ?_
    refine wl_f (f_move rfl) ?_
    refine wl_f (f_len rfl Tryz.underlying45) ?_
    refine wl_f (f_move rfl) ?_
    refine wl_end [(0, _), (1, _), (12, _), (13, _)] ⟨rfl, rfl, rfl, rfl, trivial⟩ ?_
    refine w_block ?_
    refine w_loop (fun k m H w => ∃ i : Nat, m = [(0, .slice A1 xs.length c1), (1, .slice A2 ys.length c2), (12, .int .i64 xs.length), (13, .int .i64 i)] ∧ H = [] ∧ k + i = xs.length ∧ xs.take i = ys.take i) xs.length ⟨0, rfl, rfl, rfl, rfl⟩ ?_
    rintro k _ _ w' ⟨i, rfl, rfl, hk, ht⟩
    refine w_seq ?_
    refine w_reg ?_
    refine wl_f (f_lss rfl rfl) ?_
    refine wl_end [(0, _), (1, _), (12, _), (13, _), (14, _)] ⟨rfl, rfl, rfl, rfl, rfl, trivial⟩ ?_
    refine w_seq ?_
    refine w_ifd rfl (fun hc2 => ?_) (fun hc2 => ?_)
    · skip
      have hlen : xs.length = ys.length := by omega
      have hi1 : i < xs.length := by omega
      have hi2 : i < ys.length := by omega
      obtain ⟨b1, o1, rfl, -, -, d1⟩ := g1.resolve_left (by omega)
      obtain ⟨b2, o2, rfl, -, -, d2⟩ := g2.resolve_left (by omega)
      have e1 : xs[i]? = some xs[i] := List.getElem?_eq_getElem hi1
      have e2 : ys[i]? = some ys[i] := List.getElem?_eq_getElem hi2
      refine w_skip ?_
      refine w_seq ?_
      refine w_block ?_
      refine w_seq ?_
      refine w_reg ?_
      refine wl_f (f_move rfl) ?_
      refine wl_f (f_assign rfl) ?_
      refine wl_end [(0, _), (1, _), (5, _), (12, _), (13, _)] ⟨rfl, rfl, rfl, rfl, rfl, trivial⟩ ?_
      refine w_seq ?_
      refine w_draw [(0, true), (1, true), (2, true), (3, true), (4, true), (5, true), (6, true), (7, true), (8, true)] (_) ([]) mixed (by kernel_rfl) (by kernel_rfl) rfl (perm_all _) (fun w6_ => ?_)
      refine wd_f rfl (f_move rfl) ?_
      refine wd_f rfl (f_move rfl) ?_
      refine wd_f rfl (f_indexAddr 3 (i := i) rfl rfl Tryz.underlying45 (by kernel_rfl) rfl hi1) ?_
      refine wd_f rfl (f_loadso (cs := ecell (some xs[i])) rfl Tryz.underlying25 rfl (by kernel_rfl) (encs_at d1 e1) id) ?_
      refine wd_f rfl (f_move rfl) ?_
      refine wd_f rfl (f_move rfl) ?_
      refine wd_f rfl (f_indexAddr 3 (i := i) rfl rfl Tryz.underlying45 (by kernel_rfl) rfl hi2) ?_
      refine wd_f rfl (f_loadso (cs := ecell (some ys[i])) rfl Tryz.underlying25 rfl (by kernel_rfl) (encs_at d2 e2) id) ?_
      refine wd_f rfl (f_bin rfl rfl (fun w => run_eqGuard_agg w _ _ _ _ _ _ (by kernel_rfl)) (fun w => neqEn _ _ _ _ _ _ w)) ?_
      refine wd_end [(0, _), (1, _), (12, _), (13, _), (24, _)] ⟨rfl, rfl, rfl, rfl, rfl, trivial⟩ ?_
      refine w_ifb rfl (fun hc3 => ?_) (fun hc3 => ?_)
      · skip
        refine w_seq ?_
        refine w_reg ?_
        refine wl_f (f_assign rfl) ?_
        refine wl_end [(4, _)] ⟨rfl, trivial⟩ ?_
        refine w_ret ?_
        refine ⟨_, _, fun a ha hh => results_tmps Tryz.results18 rfl a ha _, List.Sublist.refl _, ?_⟩
        exact ⟨by rw [decide_eq_false (fun e => by subst e; simp at hc3)]; rfl, rfl⟩
      · skip
        refine w_skip ?_
        refine w_reg ?_
        refine wl_f (f_add rfl rfl (by omega)) ?_
        refine wl_f (f_move rfl) ?_
        refine wl_end [(0, _), (1, _), (12, _), (13, _)] ⟨rfl, rfl, rfl, rfl, trivial⟩ ?_
        refine ⟨k - 1, by omega, i + 1, rfl, rfl, by omega, ?_⟩
        have h3 : xs[i].1 = ys[i].1 ∧ (xs[i].2.1 : Int) = (ys[i].2.1 : Int) ∧ (xs[i].2.2 : Int) = (ys[i].2.2 : Int) := by simpa using hc3
        have : xs[i] = ys[i] := Prod.ext h3.1 (Prod.ext (by have := h3.2.1; omega) (by have := h3.2.2; omega))
        rw [List.take_succ_eq_append_getElem hi1, List.take_succ_eq_append_getElem hi2, ht, this]
    · skip
      refine w_exit0 ?_
      refine w_seq ?_
      refine w_reg ?_
      refine wl_f (f_assign rfl) ?_
      refine wl_end [(4, _)] ⟨rfl, trivial⟩ ?_
      refine w_ret ?_
      refine ⟨_, _, fun a ha hh => results_tmps Tryz.results18 rfl a ha _, List.Sublist.refl _, ?_⟩
      exact ⟨by rw [decide_eq_true (by rw [List.take_of_length_le (by omega), List.take_of_length_le (by omega)] at ht; exact ht)]; rfl, rfl⟩
end Go.Proofs.YtbcfdgnpdaaleaaGreat

/- The reference's tables: where a key is, a list without one, getting, taking out. -/
namespace Go.Proofs.YtbcfdgnpdaaleaaGreat
open Go.RowKit

def rts (q mode n : Nat) (l : List En) (v : Value) (base sum : Nat) : List Res :=
  [blk q [.int .i64 (mode : Int), .int .i64 (n : Int), v, .int .u64 (base : Int), .int .u64 (sum : Int)] 50, row v 25 3 l.length (encs l)]
def RtR (q mode n : Nat) (l : List En) (base sum : Nat) (r : Res) : Prop := ∃ v, r = bun (rts q mode n l v base sum)
def eks (l : List En) : List ByteArray := l.map Prod.fst
theorem eks_app (A B : List En) : eks (A ++ B) = eks A ++ eks B := by simp [eks]
def rplE (l : List En) (k : ByteArray) (y : Int) : Prop := (k ∉ eks l ∧ y = -1) ∨ ∃ A o s B, l = A ++ (k, o, s) :: B ∧ k ∉ eks A ∧ y = (A.length : Nat)
theorem rplE_at {l : List En} {k : ByteArray} {y : Int} (h : rplE l k y) (hy : ¬ y < 0) : ∃ A o s B, l = A ++ (k, o, s) :: B ∧ k ∉ eks A ∧ y = (A.length : Nat) := by
  rcases h with ⟨_, rfl⟩ | h
  · omega
  · exact h
theorem rplE_no {l : List En} {k : ByteArray} {y : Int} (h : rplE l k y) (hy : y < 0) : k ∉ eks l := by
  rcases h with ⟨h, _⟩ | ⟨A, o, s, B, _, _, rfl⟩
  · exact h
  · omega
theorem rplE_uniq {A B : List En} {k : ByteArray} {x : Nat × Nat} {y : Int} (hA : k ∉ eks A) (h : rplE (A ++ (k, x) :: B) k y) : y = (A.length : Nat) := by
  rcases h with ⟨h, _⟩ | ⟨A', o, s, B', h, hA', rfl⟩
  · exact absurd (by rw [eks_app]; simp [eks]) h
  · congr 1
    rcases List.append_eq_append_iff.1 h with ⟨C, rfl, h2⟩ | ⟨C, rfl, h2⟩
    · cases C with
      | nil => simp
      | cons c C =>
        rw [List.cons_append, List.cons.injEq] at h2
        exact absurd (by rw [eks_app, ← h2.1]; simp [eks]) hA'
    · cases C with
      | nil => simp
      | cons c C =>
        rw [List.cons_append, List.cons.injEq] at h2
        exact absurd (by rw [eks_app, ← h2.1]; simp [eks]) hA
theorem encs_one (l : List En) : ∀ u ∈ encs l, u.oneCell' = true := by
  intro u hu
  simp only [encs, ecells, List.mem_flatMap, List.mem_map] at hu
  obtain ⟨o, ⟨x, _, rfl⟩, hu⟩ := hu
  simp only [ecell, List.mem_cons, List.not_mem_nil, or_false] at hu
  rcases hu with rfl | rfl | rfl <;> rfl
theorem emid_one {l : List Value} (h : ∀ u ∈ l, u.oneCell' = true) (a b : Nat) : ∀ u ∈ (l.drop a).take b, u.oneCell' = true := fun u hu => h u (List.mem_of_mem_drop (List.mem_of_mem_take hu))
theorem encs_app (A B : List En) : encs (A ++ B) = encs A ++ encs B := by rw [encs, List.map_append, ecells_app]; rfl
theorem encs_take (l : List En) (i : Nat) : (encs l).take (i * 3) = encs (l.take i) := by
  by_cases h : i ≤ l.length
  · conv => lhs; rw [← List.take_append_drop i l, encs_app]
    rw [List.take_append_of_le_length (by rw [encs_len, List.length_take]; omega), List.take_of_length_le (by rw [encs_len, List.length_take]; omega)]
  · rw [List.take_of_length_le (by rw [encs_len]; omega), List.take_of_length_le (by omega)]
theorem encs_drop (l : List En) (i : Nat) : (encs l).drop (i * 3) = encs (l.drop i) := by
  by_cases h : i ≤ l.length
  · conv => lhs; rw [← List.take_append_drop i l, encs_app]
    have e : (encs (l.take i)).length = i * 3 := by rw [encs_len, List.length_take]; omega
    rw [← e, List.drop_left]
  · rw [List.drop_of_length_le (by rw [encs_len]; omega), List.drop_of_length_le (by omega)]; rfl
theorem encs_mid (l : List En) (a b : Nat) : ((encs l).drop (a * 3)).take (b * 3) = encs ((l.drop a).take b) := by rw [encs_drop, encs_take]

set_option maxHeartbeats 1000000 in
theorem rplace_spec (v : Value) (l : List En) (k : ByteArray) (w : World) (h1 : Rd w Nil 3 v l.length (encs l)) (hl : l.length ≤ 8192) :
    Spec Tryz.prog 36 [v, .string k] w Nil fun u H => H = [] ∧ ∃ y, u = .int .i64 y ∧ rplE l k y := by
  obtain ⟨A1, c1, rfl, -, hc1', g1⟩ := h1
  refine enter (n := 20) Tryz.func36 rfl rfl [(0, _), (1, _)] rfl ⟨rfl, rfl, trivial⟩ (Holds.start _ _) ?_
  refine w_seq ?_
  refine w_reg ?_
  refine wl_f (f_assign rfl) ?_
  refine wl_end [(0, _), (1, _)] ⟨rfl, rfl, trivial⟩ ?_
  refine w_seq ?_
  refine w_seq ?_
  refine w_reg ?_
  refine wl_f (f_move rfl) ?_
  refine wl_f (f_len rfl Tryz.underlying45) ?_
  refine wl_f (f_move rfl) ?_
  refine wl_end [(1, _), (7, _), (8, _), (9, _)] ⟨rfl, rfl, rfl, rfl, trivial⟩ ?_
  refine w_block ?_
  refine w_loop (fun j m H w => ∃ i : Nat, m = [(1, .string k), (7, .slice A1 l.length c1), (8, .int .i64 l.length), (9, .int .i64 i)] ∧ H = [] ∧ j + i = l.length ∧ k ∉ eks (l.take i)) l.length ⟨0, rfl, rfl, rfl, by simp [eks]⟩ ?_
  rintro j _ _ w' ⟨i, rfl, rfl, hj, hall⟩
  refine w_seq ?_
  refine w_reg ?_
  refine wl_f (f_lss rfl rfl) ?_
  refine wl_end [(1, _), (7, _), (8, _), (9, _), (10, _)] ⟨rfl, rfl, rfl, rfl, rfl, trivial⟩ ?_
  refine w_seq ?_
  refine w_ifd rfl (fun hc1 => ?_) (fun hc1 => ?_)
  · skip
    have hi : i < l.length := by omega
    obtain ⟨b1, o1, rfl, -, -, d1⟩ := g1.resolve_left (by omega)
    obtain ⟨p, hp⟩ : ∃ p, l[i]? = some p := ⟨_, List.getElem?_eq_getElem hi⟩
    refine w_skip ?_
    refine w_seq ?_
    refine w_block ?_
    refine w_seq ?_
    refine w_reg ?_
    refine wl_f (f_move rfl) ?_
    refine wl_f (f_indexAddr 3 (i := i) rfl rfl Tryz.underlying45 (by kernel_rfl) rfl hi) ?_
    refine wl_f (f_loadso (cs := ecell (some p)) rfl Tryz.underlying25 rfl (by kernel_rfl) (encs_at d1 hp) id) ?_
    refine wl_e (e_allocs [.string ByteArray.empty, .int .u64 0, .int .u64 0] (by kernel_rfl)) ?_
    rintro _ _ w3_3 ⟨b3_3, rfl, rfl⟩
    refine wl_f (f_assign rfl) ?_
    (first | refine wl_e0 (e_store0 (us := [_, _, _]) rfl rfl rfl (by kernel_rfl) (by simp [Value.oneCell']) rfl rfl) ?_ | refine wl_e0 (e_store1 (us := [_, _, _]) rfl rfl rfl (by kernel_rfl) (by simp [Value.oneCell']) rfl rfl) ?_ | refine wl_e0 (e_store2 (us := [_, _, _]) rfl rfl rfl (by kernel_rfl) (by simp [Value.oneCell']) rfl rfl) ?_ | refine wl_e0 (e_store3 (us := [_, _, _]) rfl rfl rfl (by kernel_rfl) (by simp [Value.oneCell']) rfl rfl) ?_)
    rintro _ _ w3_5 rfl
    refine wl_end [(1, _), (5, _), (6, _), (7, _), (8, _), (9, _)] ⟨rfl, rfl, rfl, rfl, rfl, rfl, trivial⟩ ?_
    refine w_seq ?_
    refine w_reg ?_
    refine wl_f (f_fieldAddr 0 rfl Tryz.underlying25 rfl rfl (by kernel_rfl)) ?_
    (first | refine wl_f (f_loadb 0 rfl Tryz.underlying9 rfl rfl rfl) ?_ | refine wl_f (f_loadb 1 rfl Tryz.underlying9 rfl rfl rfl) ?_ | refine wl_f (f_loadb 2 rfl Tryz.underlying9 rfl rfl rfl) ?_ | refine wl_f (f_loadb 3 rfl Tryz.underlying9 rfl rfl rfl) ?_ | refine wl_f (f_loadb 4 rfl Tryz.underlying9 rfl rfl rfl) ?_ | refine wl_f (f_loadb 5 rfl Tryz.underlying9 rfl rfl rfl) ?_ | refine wl_f (f_loadb 6 rfl Tryz.underlying9 rfl rfl rfl) ?_)
    refine wl_f (f_move rfl) ?_
    refine wl_f (f_eqls rfl rfl) ?_
    refine wl_pick [] rfl ?_
    refine wl_end [(1, _), (5, _), (7, _), (8, _), (9, _), (17, _)] ⟨rfl, rfl, rfl, rfl, rfl, rfl, trivial⟩ ?_
    refine w_ifd rfl (fun hc2 => ?_) (fun hc2 => ?_)
    · skip
      refine w_seq ?_
      refine w_reg ?_
      refine wl_f (f_move rfl) ?_
      refine wl_f (f_assign rfl) ?_
      refine wl_end [(4, _)] ⟨rfl, trivial⟩ ?_
      refine w_ret ?_
      refine ⟨_, _, fun a ha hh => results_tmps Tryz.results36 rfl a ha _, List.Sublist.refl _, ?_⟩
      refine ⟨rfl, i, rfl, .inr ⟨l.take i, p.2.1, p.2.2, l.drop (i + 1), ?_, hall, by rw [List.length_take]; omega⟩⟩
      obtain ⟨hlt, e⟩ := List.getElem?_eq_some_iff.1 hp
      have hz : (k, p.2.1, p.2.2) = l[i] := by rw [e, ← (show p.1 = k from hc2)]
      rw [hz, ← List.drop_eq_getElem_cons hlt, List.take_append_drop]
    · skip
      refine w_skip ?_
      refine w_reg ?_
      refine wl_f (f_add rfl rfl (by omega)) ?_
      refine wl_f (f_move rfl) ?_
      refine wl_end [(1, _), (7, _), (8, _), (9, _)] ⟨rfl, rfl, rfl, rfl, trivial⟩ ?_
      refine ⟨j - 1, by omega, i + 1, rfl, rfl, by omega, fun h => ?_⟩
      rw [List.take_add_one, hp, eks_app] at h
      rcases List.mem_append.1 h with h | h
      · exact hall h
      · simp [eks] at h; exact hc2 h.symm
  · skip
    refine w_exit0 ?_
    refine w_seq ?_
    refine w_reg ?_
    refine wl_f (f_assign rfl) ?_
    refine wl_end [(4, _)] ⟨rfl, trivial⟩ ?_
    refine w_ret ?_
    refine ⟨_, _, fun a ha hh => results_tmps Tryz.results36 rfl a ha _, List.Sublist.refl _, ?_⟩
    refine ⟨rfl, -1, rfl, .inl ⟨?_, rfl⟩⟩
    rw [List.take_of_length_le (by omega)] at hall
    exact hall
theorem rwithout_spec (A1 : Option Addr) (c1 : Nat) (A B : List En) (x : En) (w : World) (h1 : Rd w Nil 3 (.slice A1 (A ++ x :: B).length c1) (A ++ x :: B).length (encs (A ++ x :: B))) (hl : (A ++ x :: B).length ≤ 8192) :
    Spec Tryz.prog 37 [.slice A1 (A ++ x :: B).length c1, .int .i64 (A.length : Nat)] w Nil fun u H => ∃ U c, u = .slice U (A ++ B).length c ∧ H = [row (.slice U (A ++ B).length c) 25 3 (A ++ B).length (encs (A ++ B))] := by
  have hll : (A ++ x :: B).length = A.length + 1 + B.length := by simp; omega
  have hcap : (A ++ x :: B).length ≤ c1 := by
    obtain ⟨_, _, e, _, h, _⟩ := id h1
    injection e with _ _ e
    subst e
    exact h
  refine enter (n := 15) Tryz.func37 rfl rfl [(0, _), (1, _)] rfl ⟨rfl, rfl, trivial⟩ (Holds.start _ _) ?_
  refine w_seq ?_
  refine w_reg ?_
  refine wl_f (f_assign rfl) ?_
  refine wl_end [(0, _), (1, _)] ⟨rfl, rfl, trivial⟩ ?_
  refine w_seq ?_
  refine w_draw [(1, true), (2, true), (3, true), (5, true), (6, true), (7, true), (8, true), (0, false), (4, false), (9, false), (10, true)] ([]) ([]) mixed (by kernel_rfl) (by kernel_rfl) rfl (perm_all _) (fun w1_ => ?_)
  refine wd_f rfl (f_move rfl) ?_
  refine wd_f rfl (f_move rfl) ?_
  refine wd_f rfl (f_sliceA 3 (l := 0) (u := A.length) rfl Tryz.underlying45 (by kernel_rfl) rfl ⟨_, rfl⟩ (by omega) (by omega)) ?_
  refine wd_f rfl (f_move rfl) ?_
  refine wd_f rfl (f_move rfl) ?_
  refine wd_f rfl (f_eqv (v' := .int .i64 ((A.length + 1 : Nat) : Int)) (f_add rfl rfl (by omega)) (by congr 1)) ?_
  refine wd_f rfl (f_sliceA 3 (l := A.length + 1) (u := (A ++ x :: B).length) rfl Tryz.underlying45 (by kernel_rfl) ⟨_, rfl⟩ rfl (by omega) (by omega)) ?_
  refine wd_e rfl (e_lit0 t45) ?_
  rintro _ _ w1_0 ⟨b1_0, rfl, rfl⟩
  refine ⟨_, List.perm_middle.symm, ?_⟩
  refine wd_e rfl (e_appN 0 t45 rfl rfl rfl (fun w hh => (h1.old0 hh).cut (l := 0) (u := A.length) (by omega) (by omega)) (emid_one (encs_one _) _ _) (by omega) (by omega)) ?_
  rintro _ _ w2 ⟨⟨U1, a1, rfl⟩, rfl⟩
  refine ⟨_, List.Perm.refl _, ?_⟩
  refine wd_e rfl (e_appN 0 t45 rfl rfl rfl (fun w hh => (h1.old0 hh).cut (l := A.length + 1) (u := (A ++ x :: B).length) (by omega) (by omega)) (emid_one (encs_one _) _ _) (by omega) (by omega)) ?_
  rintro _ _ w3 ⟨⟨U2, a2, rfl⟩, rfl⟩
  refine ⟨_, List.Perm.refl _, ?_⟩
  refine wd_f rfl (f_assign rfl) ?_
  refine wd_end [(4, _)] ⟨rfl, trivial⟩ ?_
  refine w_ret ?_
  refine ⟨_, _, fun a ha hh => results_tmps Tryz.results37 rfl a ha _, List.Sublist.refl _, ?_⟩
  rw [encs_mid, encs_mid, List.drop_zero, Nat.sub_zero, List.take_left, List.take_of_length_le (by rw [List.length_drop]; omega)]
  rw [show (A ++ x :: B).drop (A.length + 1) = B by rw [← List.drop_drop, List.drop_left]; rfl]
  simp only [List.nil_append]
  rw [← encs_app, show 0 + A.length + ((A ++ x :: B).length - (A.length + 1)) = (A ++ B).length by have : (A ++ B).length = A.length + B.length := List.length_append; omega]
  exact ⟨U2, a2, rfl, rfl⟩
/-- What getting finds. -/
def RGet (mode : Nat) (l : List En) (base : Nat) (k k' : ByteArray) (o' s' : Nat) (is : Bool) : Prop :=
  (is = false ∧ k ∉ eks l ∧ k' = ByteArray.empty ∧ o' = 0 ∧ s' = 0) ∨ (is = true ∧ ∃ A s B, l = A ++ (k, o', s) :: B ∧ k ∉ eks A ∧ k' = k ∧ s' = if mode = 2 then base else s)
theorem encs_loc {A B : List En} {x : En} : (A ++ x :: B)[A.length]? = some x := by simp
set_option maxHeartbeats 2000000 in
theorem rget_spec (q mode n : Nat) (l : List En) (base sum : Nat) (r : Res) (k : ByteArray) (w : World) (hl : l.length ≤ 8192) (hr : RtR q mode n l base sum r) (hs : Holds w r.foot [r] w) :
    Spec Tryz.prog 17 [.pointer (some ⟨q, 0, .none⟩), .string k] w r.foot fun v H => H = [r] ∧ ∃ k' o' s' is, v = .tuple [enV k' o' s', .bool is].toArray ∧ RGet mode l base k k' o' s' is := by
  obtain ⟨LV, rfl⟩ := hr
  refine enter (n := 35) Tryz.func17 rfl rfl [(0, _), (1, _)] rfl ⟨rfl, rfl, trivial⟩ hs ?_
  refine w_seq ?_
  refine w_reg ?_
  refine wl_e (e_allocs [.string ByteArray.empty, .int .u64 0, .int .u64 0] (by kernel_rfl)) ?_
  rintro _ _ w0_0 ⟨b0_0, rfl, rfl⟩
  refine wl_f (f_assign rfl) ?_
  refine wl_end [(0, _), (1, _), (4, _)] ⟨rfl, rfl, rfl, trivial⟩ ?_
  refine w_seq ?_
  refine w_reg ?_
  refine wl_f (f_move rfl) ?_
  refine wl_f (f_nilCheck rfl) ?_
  refine wl_f (f_fieldAddr 2 rfl Tryz.underlying50 rfl rfl (by kernel_rfl)) ?_
  refine wl_f (f_loadB 1 0 rfl rfl rfl Tryz.underlying45 rfl rfl) ?_
  refine wl_f (f_move rfl) ?_
  refine wl_e (e_call0 rfl Tryz.func36 (by kernel_rfl) (fun w hh => rplace_spec LV l k w (Rd.heldB hh (i := 1) (j := 1) rfl rfl) hl)) ?_
  rintro _ _ w1 ⟨_, rfl, rfl, y, rfl, hy⟩
  refine wl_f (f_assign rfl) ?_
  refine wl_end [(0, _), (4, _), (6, _)] ⟨rfl, rfl, rfl, trivial⟩ ?_
  refine w_seq ?_
  refine w_seq ?_
  refine w_reg ?_
  refine wl_f (f_move rfl) ?_
  refine wl_f (f_lss rfl rfl) ?_
  refine wl_end [(0, _), (4, _), (6, _), (15, _)] ⟨rfl, rfl, rfl, rfl, trivial⟩ ?_
  refine w_ifd rfl (fun hc1 => ?_) (fun hc1 => ?_)
  · skip
    have hno := rplE_no hy hc1
    refine w_seq ?_
    refine w_reg ?_
    refine wl_f (f_build rfl build_entry0) ?_
    (first | refine wl_e0 (e_store0 (us := [_, _, _]) rfl rfl rfl (by kernel_rfl) (by simp [Value.oneCell']) rfl rfl) ?_ | refine wl_e0 (e_store1 (us := [_, _, _]) rfl rfl rfl (by kernel_rfl) (by simp [Value.oneCell']) rfl rfl) ?_ | refine wl_e0 (e_store2 (us := [_, _, _]) rfl rfl rfl (by kernel_rfl) (by simp [Value.oneCell']) rfl rfl) ?_ | refine wl_e0 (e_store3 (us := [_, _, _]) rfl rfl rfl (by kernel_rfl) (by simp [Value.oneCell']) rfl rfl) ?_)
    rintro _ _ w3_1 rfl
    refine wl_f (f_assign rfl) ?_
    refine wl_end [(4, _), (5, _)] ⟨rfl, rfl, trivial⟩ ?_
    refine w_pick [1, 0] rfl ?_
    refine w_ret ?_
    refine ⟨_, _, fun a ha hh => results_mix Tryz.results17 (rm_cell (cell_agg 1 rfl Tryz.underlying25 rfl (by kernel_rfl) rfl) (rm_tmp rfl rm_nil)) a ha _ hh, (List.nil_sublist _).cons_cons _, ?_⟩
    exact ⟨rfl, ByteArray.empty, 0, 0, false, rfl, .inl ⟨rfl, hno, rfl, rfl, rfl⟩⟩
  · skip
    obtain ⟨A, o, s, B, rfl, hA, rfl⟩ := rplE_at hy hc1
    have hAl : A.length < (A ++ (k, o, s) :: B).length := by simp
    refine w_with fun hh => ?_
    obtain ⟨g, cap, e⟩ := rowB_form hh (i := 1) (j := 1) rfl rfl (by omega)
    subst e
    clear hh
    refine w_skip ?_
    refine w_seq ?_
    refine w_reg ?_
    refine wl_f (f_move rfl) ?_
    refine wl_f (f_nilCheck rfl) ?_
    refine wl_f (f_fieldAddr 2 rfl Tryz.underlying50 rfl rfl (by kernel_rfl)) ?_
    refine wl_f (f_loadB 1 0 rfl rfl rfl Tryz.underlying45 rfl rfl) ?_
    refine wl_f (f_move rfl) ?_
    refine wl_f (f_indexAddr 3 (i := A.length) rfl rfl Tryz.underlying45 (by kernel_rfl) rfl hAl) ?_
    refine wl_f (f_loadsBr (cs := ecell (some (k, o, s))) 1 1 rfl rfl rfl Tryz.underlying25 rfl (by kernel_rfl) (encs_get encs_loc)) ?_
    refine wl_e (e_allocs [.string ByteArray.empty, .int .u64 0, .int .u64 0] (by kernel_rfl)) ?_
    rintro _ _ w4_7 ⟨b4_7, rfl, rfl⟩
    (first | refine wl_e0 (e_store0 (us := [_, _, _]) rfl rfl rfl (by kernel_rfl) (by simp [Value.oneCell']) rfl rfl) ?_ | refine wl_e0 (e_store1 (us := [_, _, _]) rfl rfl rfl (by kernel_rfl) (by simp [Value.oneCell']) rfl rfl) ?_ | refine wl_e0 (e_store2 (us := [_, _, _]) rfl rfl rfl (by kernel_rfl) (by simp [Value.oneCell']) rfl rfl) ?_ | refine wl_e0 (e_store3 (us := [_, _, _]) rfl rfl rfl (by kernel_rfl) (by simp [Value.oneCell']) rfl rfl) ?_)
    rintro _ _ w4_8 rfl
    refine wl_end [(0, _), (4, _), (7, _)] ⟨rfl, rfl, rfl, trivial⟩ ?_
    refine w_seq ?_
    refine w_seq ?_
    refine w_reg ?_
    refine wl_f (f_move rfl) ?_
    refine wl_f (f_nilCheck rfl) ?_
    refine wl_f (f_fieldAddr 0 rfl Tryz.underlying50 rfl rfl (by kernel_rfl)) ?_
    refine wl_f (f_loadB 2 0 rfl rfl rfl Tryz.underlying3 rfl rfl) ?_
    refine wl_f (f_eql rfl rfl) ?_
    refine wl_end [(0, _), (4, _), (7, _), (28, _)] ⟨rfl, rfl, rfl, rfl, trivial⟩ ?_
    refine w_post (fun m' H w' => m' = [(4, .pointer (some ⟨b0_0, 0, .none⟩)), (7, .pointer (some ⟨b4_7, 0, .none⟩))] ∧ H = [blk b4_7 [.string k, .int .u64 (o : Int), .int .u64 ((if mode = 2 then base else s : Nat) : Int)] 25, blk b0_0 [.string ByteArray.empty, .int .u64 0, .int .u64 0] 25, bun (rts q mode n (A ++ (k, o, s) :: B) (.slice (some ⟨g, 0, .none⟩) (A ++ (k, o, s) :: B).length cap) base sum)]) ?_ ?_
    · skip
      refine w_ifd rfl (fun hc2 => ?_) (fun hc2 => ?_)
      · skip
        have hm2 : mode = 2 := by have : (mode : Int) = 2 := hc2; omega
        refine w_reg ?_
        refine wl_f (f_move rfl) ?_
        refine wl_f (f_nilCheck rfl) ?_
        refine wl_f (f_fieldAddr 3 rfl Tryz.underlying50 rfl rfl (by kernel_rfl)) ?_
        refine wl_f (f_loadB 2 0 rfl rfl rfl Tryz.underlying23 rfl rfl) ?_
        refine wl_f (f_fieldAddr 2 rfl Tryz.underlying25 rfl rfl (by kernel_rfl)) ?_
        (first | refine wl_e0 (e_store0 (us := [_]) rfl rfl rfl (by kernel_rfl) (by simp [Value.oneCell']) rfl rfl) ?_ | refine wl_e0 (e_store1 (us := [_]) rfl rfl rfl (by kernel_rfl) (by simp [Value.oneCell']) rfl rfl) ?_ | refine wl_e0 (e_store2 (us := [_]) rfl rfl rfl (by kernel_rfl) (by simp [Value.oneCell']) rfl rfl) ?_ | refine wl_e0 (e_store3 (us := [_]) rfl rfl rfl (by kernel_rfl) (by simp [Value.oneCell']) rfl rfl) ?_)
        rintro _ _ w6_5 rfl
        refine wl_end [(4, _), (7, _)] ⟨rfl, rfl, trivial⟩ ?_
        rw [if_pos hm2]; exact ⟨rfl, rfl⟩
      · skip
        refine w_sub [(4, _), (7, _)] ⟨rfl, rfl, trivial⟩ (w_skip ?_)
        rw [if_neg (fun e => hc2 (by rw [e]; rfl))]; exact ⟨rfl, rfl⟩
    · rintro _ _ w4 ⟨rfl, rfl⟩
      refine w_seq ?_
      refine w_reg ?_
      (first | refine wl_f (f_loadsb (cs := [_, _, _]) 0 rfl Tryz.underlying25 rfl (by kernel_rfl) rfl rfl) ?_ | refine wl_f (f_loadsb (cs := [_, _, _]) 1 rfl Tryz.underlying25 rfl (by kernel_rfl) rfl rfl) ?_ | refine wl_f (f_loadsb (cs := [_, _, _]) 2 rfl Tryz.underlying25 rfl (by kernel_rfl) rfl rfl) ?_ | refine wl_f (f_loadsb (cs := [_, _, _]) 3 rfl Tryz.underlying25 rfl (by kernel_rfl) rfl rfl) ?_ | refine wl_f (f_loadsb (cs := [_, _, _]) 4 rfl Tryz.underlying25 rfl (by kernel_rfl) rfl rfl) ?_ | refine wl_f (f_loadsb (cs := [_, _, _]) 5 rfl Tryz.underlying25 rfl (by kernel_rfl) rfl rfl) ?_ | refine wl_f (f_loadsb (cs := [_, _, _]) 6 rfl Tryz.underlying25 rfl (by kernel_rfl) rfl rfl) ?_)
      (first | refine wl_e0 (e_store0 (us := [_, _, _]) rfl rfl rfl (by kernel_rfl) (by simp [Value.oneCell']) rfl rfl) ?_ | refine wl_e0 (e_store1 (us := [_, _, _]) rfl rfl rfl (by kernel_rfl) (by simp [Value.oneCell']) rfl rfl) ?_ | refine wl_e0 (e_store2 (us := [_, _, _]) rfl rfl rfl (by kernel_rfl) (by simp [Value.oneCell']) rfl rfl) ?_ | refine wl_e0 (e_store3 (us := [_, _, _]) rfl rfl rfl (by kernel_rfl) (by simp [Value.oneCell']) rfl rfl) ?_)
      rintro _ _ w7_1 rfl
      refine wl_f (f_assign rfl) ?_
      refine wl_end [(4, _), (5, _)] ⟨rfl, rfl, trivial⟩ ?_
      refine w_pick [2, 1] rfl ?_
      refine w_ret ?_
      refine ⟨_, _, fun a ha hh => results_mix Tryz.results17 (rm_cell (cell_agg 1 rfl Tryz.underlying25 rfl (by kernel_rfl) rfl) (rm_tmp rfl rm_nil)) a ha _ hh, (List.nil_sublist _).cons_cons _, ?_⟩
      exact ⟨rfl, k, o, _, true, rfl, .inr ⟨rfl, A, s, B, rfl, hA, rfl, rfl⟩⟩
/-- What is left after taking. -/
def RTake (l : List En) (k : ByteArray) (l' : List En) : Prop := (k ∉ eks l ∧ l' = l) ∨ ∃ A x B, l = A ++ x :: B ∧ x.1 = k ∧ k ∉ eks A ∧ l' = A ++ B
set_option maxHeartbeats 2000000 in
theorem rtake_spec (q mode n : Nat) (l : List En) (base sum : Nat) (r : Res) (k : ByteArray) (w : World) (hl : l.length ≤ 8192) (hr : RtR q mode n l base sum r) (hs : Holds w r.foot [r] w) :
    Spec Tryz.prog 12 [.pointer (some ⟨q, 0, .none⟩), .string k] w r.foot fun v H => ∃ k' o' s' is l' r', v = .tuple [enV k' o' s', .bool is].toArray ∧ RGet mode l base k k' o' s' is ∧ H = [r'] ∧ RtR q mode n l' base sum r' ∧ RTake l k l' := by
  obtain ⟨LV, rfl⟩ := id hr
  refine enter (n := 31) Tryz.func12 rfl rfl [(0, _), (1, _)] rfl ⟨rfl, rfl, trivial⟩ hs ?_
  refine w_seq ?_
  refine w_reg ?_
  refine wl_e (e_allocs [.string ByteArray.empty, .int .u64 0, .int .u64 0] (by kernel_rfl)) ?_
  rintro _ _ w0_0 ⟨b0_0, rfl, rfl⟩
  refine wl_f (f_assign rfl) ?_
  refine wl_end [(0, _), (1, _), (4, _)] ⟨rfl, rfl, rfl, trivial⟩ ?_
  refine w_seq ?_
  refine w_reg ?_
  refine wl_f (f_move rfl) ?_
  refine wl_f (f_move rfl) ?_
  refine wl_e (e_call1 _ [_] rfl Tryz.func17 (by kernel_rfl) (pk1 1 rfl) (fun w hh hs' => rget_spec q mode n l base sum _ k w hl hr hs')) ?_
  rintro _ _ w1 ⟨_, rfl, rfl, k', o', s', is, rfl, hG⟩
  refine wl_f (f_move rfl) ?_
  refine wl_f (f_extract rfl rfl) ?_
  refine wl_f (f_extract rfl rfl) ?_
  refine wl_e (e_allocs [.string ByteArray.empty, .int .u64 0, .int .u64 0] (by kernel_rfl)) ?_
  rintro _ _ w1_6 ⟨b1_6, rfl, rfl⟩
  (first | refine wl_e0 (e_store0 (us := [_, _, _]) rfl rfl rfl (by kernel_rfl) (by simp [Value.oneCell']) rfl rfl) ?_ | refine wl_e0 (e_store1 (us := [_, _, _]) rfl rfl rfl (by kernel_rfl) (by simp [Value.oneCell']) rfl rfl) ?_ | refine wl_e0 (e_store2 (us := [_, _, _]) rfl rfl rfl (by kernel_rfl) (by simp [Value.oneCell']) rfl rfl) ?_ | refine wl_e0 (e_store3 (us := [_, _, _]) rfl rfl rfl (by kernel_rfl) (by simp [Value.oneCell']) rfl rfl) ?_)
  rintro _ _ w1_7 rfl
  refine wl_f (f_assign rfl) ?_
  refine wl_end [(0, _), (1, _), (4, _), (6, _), (7, _)] ⟨rfl, rfl, rfl, rfl, rfl, trivial⟩ ?_
  refine w_seq ?_
  refine w_seq ?_
  refine w_reg ?_
  refine wl_f (f_move rfl) ?_
  refine wl_end [(0, _), (1, _), (4, _), (6, _), (7, _), (14, _)] ⟨rfl, rfl, rfl, rfl, rfl, rfl, trivial⟩ ?_
  refine w_post (fun m' H w' => m' = [(4, .pointer (some ⟨b0_0, 0, .none⟩)), (6, .pointer (some ⟨b1_6, 0, .none⟩)), (7, .bool is)] ∧ ∃ l' v', H = rts q mode n l' v' base sum ++ [blk b1_6 [.string k', .int .u64 (o' : Int), .int .u64 (s' : Int)] 25, blk b0_0 [.string ByteArray.empty, .int .u64 0, .int .u64 0] 25] ∧ RTake l k l') ?_ ?_
  · skip
    refine w_ifb rfl (fun hc1 => ?_) (fun hc1 => ?_)
    · skip
      obtain ⟨A, s, B, rfl, hA, _, _⟩ : ∃ A s B, l = A ++ (k, o', s) :: B ∧ k ∉ eks A ∧ k' = k ∧ s' = if mode = 2 then base else s := by
        rcases hG with ⟨h, _⟩ | ⟨_, h⟩
        · rw [h] at hc1; cases hc1
        · exact h
      have hAl : 0 < (A ++ (k, o', s) :: B).length := by simp; omega
      refine w_pick [1, 0, 0] rfl ?_
      refine w_with fun hh => ?_
      obtain ⟨g, cap, e⟩ := rowB_form hh (i := 0) (j := 1) rfl rfl (by omega)
      subst e
      clear hh
      refine w_unb [_, _] ?_
      refine w_drawk [(0, true), (1, true), (2, true), (3, true), (4, true), (5, true), (6, true), (7, true), (8, true), (9, true), (10, false), (11, false), (12, true), (13, true), (14, false)] ([(_, some 14), (_, none)]) ([_, _]) mixed (by kernel_rfl) (by kernel_rfl) rfl rfl (pick_perm [0, 0] _ rfl) (fun w3_ => ?_)
      refine wk_f rfl (f_move rfl) ?_
      refine wk_f rfl (f_move rfl) ?_
      refine wk_f rfl (f_nilCheck rfl) ?_
      refine wk_f rfl (f_fieldAddr 2 rfl Tryz.underlying50 rfl rfl (by kernel_rfl)) ?_
      (first | refine wk_f rfl (f_loadb 0 rfl Tryz.underlying45 rfl rfl rfl) ?_ | refine wk_f rfl (f_loadb 1 rfl Tryz.underlying45 rfl rfl rfl) ?_ | refine wk_f rfl (f_loadb 2 rfl Tryz.underlying45 rfl rfl rfl) ?_ | refine wk_f rfl (f_loadb 3 rfl Tryz.underlying45 rfl rfl rfl) ?_ | refine wk_f rfl (f_loadb 4 rfl Tryz.underlying45 rfl rfl rfl) ?_ | refine wk_f rfl (f_loadb 5 rfl Tryz.underlying45 rfl rfl rfl) ?_ | refine wk_f rfl (f_loadb 6 rfl Tryz.underlying45 rfl rfl rfl) ?_)
      refine wk_f rfl (f_move rfl) ?_
      refine wk_f rfl (f_nilCheck rfl) ?_
      refine wk_f rfl (f_fieldAddr 2 rfl Tryz.underlying50 rfl rfl (by kernel_rfl)) ?_
      (first | refine wk_f rfl (f_loadb 0 rfl Tryz.underlying45 rfl rfl rfl) ?_ | refine wk_f rfl (f_loadb 1 rfl Tryz.underlying45 rfl rfl rfl) ?_ | refine wk_f rfl (f_loadb 2 rfl Tryz.underlying45 rfl rfl rfl) ?_ | refine wk_f rfl (f_loadb 3 rfl Tryz.underlying45 rfl rfl rfl) ?_ | refine wk_f rfl (f_loadb 4 rfl Tryz.underlying45 rfl rfl rfl) ?_ | refine wk_f rfl (f_loadb 5 rfl Tryz.underlying45 rfl rfl rfl) ?_ | refine wk_f rfl (f_loadb 6 rfl Tryz.underlying45 rfl rfl rfl) ?_)
      refine wk_f rfl (f_move rfl) ?_
      refine wk_e rfl (e_call0 rfl Tryz.func36 (by kernel_rfl) (fun w hh => rplace_spec _ _ k w (Rd.held0 hh (i := 1) rfl) hl)) ?_
      rintro _ _ w2 ⟨_, rfl, rfl, y, rfl, hy⟩
      refine ⟨_, List.Perm.refl _, ?_⟩
      obtain rfl : y = (A.length : Nat) := rplE_uniq hA hy
      refine wk_e rfl (e_call0 rfl Tryz.func37 (by kernel_rfl) (fun w hh => rwithout_spec _ _ A B _ w (Rd.held0 hh (i := 1) rfl) hl)) ?_
      rintro _ _ w3 ⟨_, rfl, U2, u2, rfl, rfl⟩
      refine ⟨_, (List.Perm.swap ..).trans ((List.Perm.swap ..).cons _), ?_⟩
      refine wk_f rfl (f_nilCheck rfl) ?_
      refine wk_f rfl (f_fieldAddr 2 rfl Tryz.underlying50 rfl rfl (by kernel_rfl)) ?_
      refine wk_e0 rfl (e_storeN 0 (us := [_]) rfl rfl rfl rfl (by kernel_rfl) (by simp [Value.oneCell']) rfl rfl) ?_
      rintro _ _ w4 rfl
      refine ⟨_, List.Perm.swap .., ?_⟩
      refine wk_endp [(4, _), (6, _), (7, _)] [1, 1, 1, 1] ⟨rfl, rfl, rfl, trivial⟩ rfl ?_
      exact ⟨rfl, A ++ B, _, rfl, .inr ⟨A, _, B, rfl, rfl, hA, rfl⟩⟩
    · skip
      refine w_pick [1, 0, 0] rfl ?_
      refine w_unb [_, _] ?_
      refine w_sub [(4, _), (6, _), (7, _)] ⟨rfl, rfl, rfl, trivial⟩ (w_skip ?_)
      refine ⟨rfl, l, LV, rfl, .inl ⟨?_, rfl⟩⟩
      rcases hG with ⟨_, h, _⟩ | ⟨h, _⟩
      · exact h
      · exact absurd h hc1
  · rintro _ _ w5 ⟨rfl, l', v', rfl, hT⟩
    refine w_bun (H := [_, _]) [_, _] ?_
    refine w_seq ?_
    refine w_reg ?_
    (first | refine wl_f (f_loadsb (cs := [_, _, _]) 0 rfl Tryz.underlying25 rfl (by kernel_rfl) rfl rfl) ?_ | refine wl_f (f_loadsb (cs := [_, _, _]) 1 rfl Tryz.underlying25 rfl (by kernel_rfl) rfl rfl) ?_ | refine wl_f (f_loadsb (cs := [_, _, _]) 2 rfl Tryz.underlying25 rfl (by kernel_rfl) rfl rfl) ?_ | refine wl_f (f_loadsb (cs := [_, _, _]) 3 rfl Tryz.underlying25 rfl (by kernel_rfl) rfl rfl) ?_ | refine wl_f (f_loadsb (cs := [_, _, _]) 4 rfl Tryz.underlying25 rfl (by kernel_rfl) rfl rfl) ?_ | refine wl_f (f_loadsb (cs := [_, _, _]) 5 rfl Tryz.underlying25 rfl (by kernel_rfl) rfl rfl) ?_ | refine wl_f (f_loadsb (cs := [_, _, _]) 6 rfl Tryz.underlying25 rfl (by kernel_rfl) rfl rfl) ?_)
    refine wl_f (f_move rfl) ?_
    (first | refine wl_e0 (e_store0 (us := [_, _, _]) rfl rfl rfl (by kernel_rfl) (by simp [Value.oneCell']) rfl rfl) ?_ | refine wl_e0 (e_store1 (us := [_, _, _]) rfl rfl rfl (by kernel_rfl) (by simp [Value.oneCell']) rfl rfl) ?_ | refine wl_e0 (e_store2 (us := [_, _, _]) rfl rfl rfl (by kernel_rfl) (by simp [Value.oneCell']) rfl rfl) ?_ | refine wl_e0 (e_store3 (us := [_, _, _]) rfl rfl rfl (by kernel_rfl) (by simp [Value.oneCell']) rfl rfl) ?_)
    rintro _ _ w4_2 rfl
    refine wl_f (f_assign rfl) ?_
    refine wl_end [(4, _), (5, _)] ⟨rfl, rfl, trivial⟩ ?_
    refine w_pick [2, 0] rfl ?_
    refine w_ret ?_
    refine ⟨_, _, fun a ha hh => results_mix Tryz.results12 (rm_cell (cell_agg 0 rfl Tryz.underlying25 rfl (by kernel_rfl) rfl) (rm_tmp rfl rm_nil)) a ha _ hh, List.sublist_cons_self .., ?_⟩
    exact ⟨k', o', s', is, l', _, rfl, hG, rfl, ⟨v', rfl⟩, hT⟩
end Go.Proofs.YtbcfdgnpdaaleaaGreat

/- The reference's tables: sorting, all entries, sums. -/
namespace Go.Proofs.YtbcfdgnpdaaleaaGreat
open Go.RowKit

theorem eins_cells (out : List En) (a : Nat) (p : En) : [] ++ ((encs out).drop (0 * 3)).take ((a - 0) * 3) ++ [.string p.1, .int .u64 (p.2.1 : Int), .int .u64 (p.2.2 : Int)] ++ ((encs out).drop (a * 3)).take ((out.length - a) * 3) = encs (out.take a ++ p :: out.drop a) := by
  rw [encs_mid, encs_mid, List.drop_zero, Nat.sub_zero, List.take_of_length_le (i := out.length - a) (by rw [List.length_drop]; omega), encs_app, List.nil_append, List.append_assoc]
  rfl
theorem eks_get {l : List En} {i : Nat} {x : En} (h : l[i]? = some x) : (eks l)[i]? = some x.1 := by simp [eks, h]
theorem eks_mem {l : List En} {x : En} (h : x ∈ l) : x.1 ∈ eks l := List.mem_map_of_mem h
theorem srt_ins {out : List En} {a : Nat} {p : En} (hs : Srts (eks out)) (hp : p.1 ∉ eks out) (h1 : ∀ x ∈ out.take a, nlt x.1 p.1 = true) (h2 : ∀ x, out[a]? = some x → nlt x.1 p.1 = false) : Srts (eks (out.take a ++ p :: out.drop a)) := by
  have h3 : ∀ x ∈ out.drop a, nlt p.1 x.1 = true := by
    cases hd : out.drop a with
    | nil => simp
    | cons y B =>
      have hy : out[a]? = some y := by
        have := congrArg (·[0]?) hd
        simpa using this
      have hyp : nlt p.1 y.1 = true := by
        cases h : nlt p.1 y.1 with
        | true => rfl
        | false => exact absurd (by rw [nlt_total h (h2 y hy)]; exact eks_mem (List.mem_of_getElem? hy)) hp
      intro x hx
      rcases List.mem_cons.1 hx with rfl | hx
      · exact hyp
      · have h4 : Srts (eks (out.take a) ++ eks (y :: B)) := by rw [← hd, ← eks_app, List.take_append_drop]; exact hs
        have h5 := (List.pairwise_append.1 h4).2.1
        exact nlt_trans hyp ((List.pairwise_cons.1 h5).1 x.1 (eks_mem hx))
  have h4 : Srts (eks (out.take a) ++ eks (out.drop a)) := by rw [← eks_app, List.take_append_drop]; exact hs
  obtain ⟨h5, h6, h7⟩ := List.pairwise_append.1 h4
  rw [eks_app]
  refine List.pairwise_append.2 ⟨h5, List.pairwise_cons.2 ⟨fun y hy => ?_, h6⟩, fun x hx y hy => ?_⟩
  · obtain ⟨z, hz, rfl⟩ := List.mem_map.1 hy; exact h3 z hz
  · obtain ⟨z, hz, rfl⟩ := List.mem_map.1 hx
    rcases List.mem_cons.1 hy with rfl | hy
    · exact h1 z hz
    · exact h7 z.1 (eks_mem hz) y hy
set_option maxHeartbeats 4000000 in
theorem rsorted_spec (v : Value) (l : List En) (w : World) (h1 : Rd w Nil 3 v l.length (encs l)) (hl : l.length ≤ 64) (hnd : (eks l).Nodup) :
    Spec Tryz.prog 45 [v] w Nil fun u H => ∃ es : List En, es.Perm l ∧ Srts (eks es) ∧ H = [row u 25 3 es.length (encs es)] := by
  obtain ⟨A1, c1, rfl, -, hc1', g1⟩ := id h1
  refine enter (n := 43) Tryz.func45 rfl rfl [(0, _)] rfl ⟨rfl, trivial⟩ (Holds.start _ _) ?_
  refine w_seq ?_
  refine w_reg ?_
  refine wl_f (f_assign rfl) ?_
  refine wl_end [(0, _)] ⟨rfl, trivial⟩ ?_
  refine w_seq ?_
  refine w_reg ?_
  refine wl_f (f_assign rfl) ?_
  refine wl_end [(0, _), (3, _)] ⟨rfl, rfl, trivial⟩ ?_
  refine w_seq ?_
  refine w_seq ?_
  refine w_reg ?_
  refine wl_f (f_move rfl) ?_
  refine wl_f (f_len rfl Tryz.underlying45) ?_
  refine wl_f (f_move rfl) ?_
  refine wl_end [(3, _), (7, _), (8, _), (9, _)] ⟨rfl, rfl, rfl, rfl, trivial⟩ ?_
  refine w_block ?_
  refine w_nilrow 25 3 ?_
  refine w_loop (fun j m H w => ∃ (i : Nat) (out : List En) (O : Option Addr) (co : Nat), m = [(3, .slice O out.length co), (7, .slice A1 l.length c1), (8, .int .i64 l.length), (9, .int .i64 i)] ∧ H = [row (.slice O out.length co) 25 3 out.length (encs out)] ∧ j + i = l.length ∧ out.Perm (l.take i) ∧ Srts (eks out)) l.length
    ⟨0, [], .none, 0, rfl, rfl, rfl, List.Perm.refl _, List.Pairwise.nil⟩ ?_
  rintro j _ _ w1 ⟨i, out, O, co, rfl, rfl, hj, hp, hs⟩
  refine w_seq ?_
  refine w_reg ?_
  refine wl_f (f_lss rfl rfl) ?_
  refine wl_end [(3, _), (7, _), (8, _), (9, _), (10, _)] ⟨rfl, rfl, rfl, rfl, rfl, trivial⟩ ?_
  refine w_seq ?_
  refine w_ifd rfl (fun hc1 => ?_) (fun hc1 => ?_)
  · skip
    have hi : i < l.length := by omega
    obtain ⟨b1, o1, rfl, -, -, d1⟩ := g1.resolve_left (by omega)
    obtain ⟨p, hpi⟩ : ∃ p, l[i]? = some p := ⟨_, List.getElem?_eq_getElem hi⟩
    have hol : out.length = i := by rw [hp.length_eq, List.length_take]; omega
    have hpo : p.1 ∉ eks out := fun h => by
      have h2 : p.1 ∈ eks (l.take i) := (hp.map Prod.fst).mem_iff.1 h
      have h3 : (eks (l.take i) ++ eks (l.drop i)).Nodup := by rw [← eks_app, List.take_append_drop]; exact hnd
      have h4 : p.1 ∈ eks (l.drop i) := eks_mem (List.mem_of_getElem? (i := 0) (by rw [List.getElem?_drop]; exact hpi))
      exact (List.nodup_append.1 h3).2.2 _ h2 _ h4 rfl
    refine w_skip ?_
    refine w_seq ?_
    refine w_block ?_
    refine w_seq ?_
    refine w_reg ?_
    refine wl_f (f_indexAddr 3 (i := i) rfl rfl Tryz.underlying45 (by kernel_rfl) rfl hi) ?_
    refine wl_f (f_loadso (cs := ecell (some p)) rfl Tryz.underlying25 rfl (by kernel_rfl) (encs_at d1 hpi) id) ?_
    refine wl_e (e_allocs [.string ByteArray.empty, .int .u64 0, .int .u64 0] (by kernel_rfl)) ?_
    rintro _ _ w4_2 ⟨b4_2, rfl, rfl⟩
    (first | refine wl_e0 (e_store0 (us := [_, _, _]) rfl rfl rfl (by kernel_rfl) (by simp [Value.oneCell']) rfl rfl) ?_ | refine wl_e0 (e_store1 (us := [_, _, _]) rfl rfl rfl (by kernel_rfl) (by simp [Value.oneCell']) rfl rfl) ?_ | refine wl_e0 (e_store2 (us := [_, _, _]) rfl rfl rfl (by kernel_rfl) (by simp [Value.oneCell']) rfl rfl) ?_ | refine wl_e0 (e_store3 (us := [_, _, _]) rfl rfl rfl (by kernel_rfl) (by simp [Value.oneCell']) rfl rfl) ?_)
    rintro _ _ w4_3 rfl
    refine wl_end [(3, _), (5, _), (7, _), (8, _), (9, _)] ⟨rfl, rfl, rfl, rfl, rfl, trivial⟩ ?_
    refine w_seq ?_
    refine w_reg ?_
    refine wl_f (f_assign rfl) ?_
    refine wl_end [(3, _), (5, _), (6, _), (7, _), (8, _), (9, _)] ⟨rfl, rfl, rfl, rfl, rfl, rfl, trivial⟩ ?_
    refine w_seq ?_
    refine w_block ?_
    refine w_loop (fun jj m H w => ∃ a : Nat, m = [(3, .slice O out.length co), (5, .pointer (some ⟨b4_2, 0, .none⟩)), (6, .int .i64 a), (7, .slice (some ⟨b1, o1, .none⟩) l.length c1), (8, .int .i64 l.length), (9, .int .i64 i)] ∧ H = [blk b4_2 [.string p.1, .int .u64 (p.2.1 : Int), .int .u64 (p.2.2 : Int)] 25, row (.slice O out.length co) 25 3 out.length (encs out)] ∧ jj + a = out.length ∧ ∀ x ∈ out.take a, nlt x.1 p.1 = true) out.length ⟨0, rfl, rfl, rfl, by simp⟩ ?_
    rintro jj _ _ w2 ⟨a, rfl, rfl, hjj, hall⟩
    refine w_seq ?_
    refine w_seq ?_
    refine w_post (fun m H w' => ∃ c : Bool, m = [(3, .slice O out.length co), (5, .pointer (some ⟨b4_2, 0, .none⟩)), (6, .int .i64 a), (7, .slice (some ⟨b1, o1, .none⟩) l.length c1), (8, .int .i64 l.length), (9, .int .i64 i), (26, .bool c)] ∧ H = [blk b4_2 [.string p.1, .int .u64 (p.2.1 : Int), .int .u64 (p.2.2 : Int)] 25, row (.slice O out.length co) 25 3 out.length (encs out)] ∧ (c = true → ∃ x, out[a]? = some x ∧ nlt x.1 p.1 = true) ∧ (c = false → ∀ x, out[a]? = some x → nlt x.1 p.1 = false)) ?_ ?_
    · by_cases hG6 : (a : Int) < (out.length : Int)
      · skip
        have ha : a < out.length := by omega
        obtain ⟨x, hx⟩ : ∃ x, out[a]? = some x := ⟨_, List.getElem?_eq_getElem ha⟩
        refine w_with fun hh => ?_
        obtain ⟨g, cap, e⟩ := row_form hh (i := 1) rfl (by omega)
        injection e with e1 _ e3
        subst e1; subst e3
        clear hh
        refine w_draw [(0, true), (1, true), (2, true), (3, true), (4, true), (5, true), (6, true), (7, true), (8, true), (9, true), (10, true), (11, true), (12, true), (13, true)] (_) ([]) mixed (by kernel_rfl) (by kernel_rfl) rfl (perm_all _) (fun w6_ => ?_)
        refine wd_f rfl (f_move rfl) ?_
        refine wd_f rfl (f_move rfl) ?_
        refine wd_f rfl (f_len rfl Tryz.underlying45) ?_
        refine wd_f rfl (f_eqv (f_lss rfl rfl) (congrArg Value.bool (decide_eq_true hG6))) ?_
        refine wd_f rfl (f_move rfl) ?_
        refine wd_gf rfl rfl rfl (f_move rfl) ?_
        refine wd_gf rfl rfl rfl (f_move rfl) ?_
        refine wd_gf rfl rfl rfl (f_indexAddr 3 (i := a) rfl rfl Tryz.underlying45 (by kernel_rfl) rfl ha) ?_
        refine wd_gf rfl rfl rfl (f_fieldAddr 0 rfl Tryz.underlying25 rfl rfl (by kernel_rfl)) ?_
        refine wd_gf rfl rfl rfl (f_loadr (v := .string x.1) 1 rfl Tryz.underlying9 rfl rfl (ecells_j (o := some x) (by rw [List.getElem?_map, hx]; rfl) 0 rfl (by omega))) ?_
        refine wd_gf rfl rfl rfl (f_fieldAddr 0 rfl Tryz.underlying25 rfl rfl (by kernel_rfl)) ?_
        (first | refine wd_gf rfl rfl rfl (f_loadb 0 rfl Tryz.underlying9 rfl rfl rfl) ?_ | refine wd_gf rfl rfl rfl (f_loadb 1 rfl Tryz.underlying9 rfl rfl rfl) ?_ | refine wd_gf rfl rfl rfl (f_loadb 2 rfl Tryz.underlying9 rfl rfl rfl) ?_ | refine wd_gf rfl rfl rfl (f_loadb 3 rfl Tryz.underlying9 rfl rfl rfl) ?_ | refine wd_gf rfl rfl rfl (f_loadb 4 rfl Tryz.underlying9 rfl rfl rfl) ?_ | refine wd_gf rfl rfl rfl (f_loadb 5 rfl Tryz.underlying9 rfl rfl rfl) ?_ | refine wd_gf rfl rfl rfl (f_loadb 6 rfl Tryz.underlying9 rfl rfl rfl) ?_)
        refine wd_gf rfl rfl rfl (f_lsss rfl rfl) ?_
        refine wd_f rfl (f_pick rfl rfl rfl) ?_
        refine wd_end [(3, _), (5, _), (6, _), (7, _), (8, _), (9, _), (26, _)] ⟨rfl, rfl, rfl, rfl, rfl, rfl, rfl, trivial⟩ ?_
        refine ⟨nlt x.1 p.1, rfl, rfl, fun h => ⟨x, hx, h⟩, fun h y hy => ?_⟩
        rw [hx] at hy
        injection hy with hy
        subst hy
        exact h
      · skip
        refine w_draw [(0, true), (1, true), (2, true), (3, true), (4, true), (5, true), (6, true), (7, true), (8, true), (9, true), (10, true), (11, true), (12, true), (13, true)] (_) ([]) mixed (by kernel_rfl) (by kernel_rfl) rfl (perm_all _) (fun w6_ => ?_)
        refine wd_f rfl (f_move rfl) ?_
        refine wd_f rfl (f_move rfl) ?_
        refine wd_f rfl (f_len rfl Tryz.underlying45) ?_
        refine wd_f rfl (f_eqv (f_lss rfl rfl) (congrArg Value.bool (decide_eq_false hG6))) ?_
        refine wd_f rfl (f_move rfl) ?_
        refine wd_gs rfl rfl rfl ?_
        refine wd_gs rfl rfl rfl ?_
        refine wd_gs rfl rfl rfl ?_
        refine wd_gs rfl rfl rfl ?_
        refine wd_gs rfl rfl rfl ?_
        refine wd_gs rfl rfl rfl ?_
        refine wd_gs rfl rfl rfl ?_
        refine wd_gs rfl rfl rfl ?_
        refine wd_f rfl (f_pick rfl rfl rfl) ?_
        refine wd_end [(3, _), (5, _), (6, _), (7, _), (8, _), (9, _), (26, _)] ⟨rfl, rfl, rfl, rfl, rfl, rfl, rfl, trivial⟩ ?_
        refine ⟨false, rfl, rfl, fun h => (by cases h), fun _ x hx => absurd (List.getElem?_eq_some_iff.1 hx).1 (by omega)⟩
    rintro _ _ w5 ⟨is, rfl, rfl, h5, h6⟩
    refine w_ifb rfl (fun hc2 => ?_) (fun hc2 => ?_)
    · skip
      obtain ⟨x, hx, hlt⟩ := h5 hc2
      have ha : a < out.length := (List.getElem?_eq_some_iff.1 hx).1
      refine w_skip ?_
      refine w_block ?_
      refine w_reg ?_
      refine wl_f (f_move rfl) ?_
      refine wl_f (f_add rfl rfl (by omega)) ?_
      refine wl_f (f_assign rfl) ?_
      refine wl_end [(3, _), (5, _), (6, _), (7, _), (8, _), (9, _)] ⟨rfl, rfl, rfl, rfl, rfl, rfl, trivial⟩ ?_
      refine ⟨jj - 1, by omega, a + 1, rfl, rfl, by omega, fun y hy => ?_⟩
      rw [take_snoc' hx] at hy
      rcases List.mem_append.1 hy with h | h
      · exact hall y h
      · rw [List.mem_singleton] at h; subst h; exact hlt
    · skip
      have hle : a ≤ out.length := by omega
      have hsi := srt_ins hs hpo hall (h6 (by cases is with | true => exact absurd rfl hc2 | false => rfl))
      refine w_with fun hh => ?_
      have hco : out.length ≤ co := by
        obtain ⟨_, _, e, _, h, _⟩ := Rd.held0 hh (i := 1) rfl
        injection e with _ _ e
        subst e
        exact h
      clear hh
      refine w_exit0 ?_
      refine w_post (fun m H w' => ∃ (U : Option Addr) (cu : Nat), m = [(3, .slice U (out.length + 1) cu), (7, .slice (some ⟨b1, o1, .none⟩) l.length c1), (8, .int .i64 l.length), (9, .int .i64 i)] ∧ H = [row (.slice U (out.length + 1) cu) 25 3 (out.length + 1) (encs (out.take a ++ p :: out.drop a))]) ?_ ?_
      · skip
        refine w_drawx (.fl 1 (.fl 2 (.fl 3 (.fl 5 (.fl 8 (.fl 9 (.fl 10 (.two 0 (.two 4 (.ef 6 (.ef 7 (.ef 11 (.fl 12 .done)))) 6 (.ef 4 (.ef 7 (.ef 11 (.fl 12 .done))))) 6 (.ef 0 (.ef 4 (.ef 7 (.ef 11 (.fl 12 .done))))))))))))) ([(_, none), (_, none)]) ([]) mixed (by kernel_rfl) (by kernel_rfl) rfl rfl (List.Perm.refl _) (fun w8_ => ?_)
        refine wx_f rfl (f_move rfl) ?_
        refine wx_f rfl (f_move rfl) ?_
        refine wx_f rfl (f_sliceA 3 (l := 0) (u := a) rfl Tryz.underlying45 (by kernel_rfl) rfl ⟨_, rfl⟩ (by omega) (by omega)) ?_
        (first | refine wx_f rfl (f_loadsb (cs := [_, _, _]) 0 rfl Tryz.underlying25 rfl (by kernel_rfl) rfl rfl) ?_ | refine wx_f rfl (f_loadsb (cs := [_, _, _]) 1 rfl Tryz.underlying25 rfl (by kernel_rfl) rfl rfl) ?_ | refine wx_f rfl (f_loadsb (cs := [_, _, _]) 2 rfl Tryz.underlying25 rfl (by kernel_rfl) rfl rfl) ?_ | refine wx_f rfl (f_loadsb (cs := [_, _, _]) 3 rfl Tryz.underlying25 rfl (by kernel_rfl) rfl rfl) ?_ | refine wx_f rfl (f_loadsb (cs := [_, _, _]) 4 rfl Tryz.underlying25 rfl (by kernel_rfl) rfl rfl) ?_ | refine wx_f rfl (f_loadsb (cs := [_, _, _]) 5 rfl Tryz.underlying25 rfl (by kernel_rfl) rfl rfl) ?_ | refine wx_f rfl (f_loadsb (cs := [_, _, _]) 6 rfl Tryz.underlying25 rfl (by kernel_rfl) rfl rfl) ?_)
        refine wx_f rfl (f_move rfl) ?_
        refine wx_f rfl (f_move rfl) ?_
        refine wx_f rfl (f_sliceA 3 (l := a) (u := out.length) rfl Tryz.underlying45 (by kernel_rfl) ⟨_, rfl⟩ rfl (by omega) (by omega)) ?_
        refine wx_two ?_ ?_
        · skip
          refine ks_e rfl (e_lit0 t45) ?_
          rintro _ _ w8_0 ⟨b8_0, rfl, rfl⟩
          refine ⟨_, List.perm_middle.symm, ?_⟩
          refine wx_two ?_ ?_
          · skip
            refine ks_e rfl (e_appN 2 t45 rfl rfl rfl (fun w hh => (Rd.held0 hh (i := 1) rfl).cut (l := 0) (u := a) (by omega) (by omega)) (emid_one (encs_one _) _ _) (by omega) (by omega)) ?_
            rintro _ _ w8_4 ⟨⟨U1, a1, rfl⟩, rfl⟩
            refine ⟨_, List.Perm.refl _, ?_⟩
            refine wx_ef ?_
            refine ks_e rfl (e_lit1 (cs := [_, _, _]) t45 rfl rfl rfl (by omega)) ?_
            rintro _ _ w8_6 ⟨b8_6, rfl, rfl⟩
            refine ⟨_, List.perm_middle.symm, ?_⟩
            refine wx_ef ?_
            refine ks_e rfl (e_appN 3 t45 rfl rfl rfl (fun w hh => Rd.held0 hh (i := 2) rfl) (by simp [Value.oneCell']) (by omega) (by omega)) ?_
            rintro _ _ w8_7 ⟨⟨U2, a2, rfl⟩, rfl⟩
            refine ⟨_, List.Perm.refl _, ?_⟩
            refine wx_ef ?_
            refine ks_e rfl (e_appN 3 t45 rfl rfl rfl (fun w hh => (Rd.held0 hh (i := 1) rfl).cut (l := a) (u := out.length) (by omega) (by omega)) (emid_one (encs_one _) _ _) (by omega) (by omega)) ?_
            rintro _ _ w8_11 ⟨⟨U3, a3, rfl⟩, rfl⟩
            refine ⟨_, List.Perm.refl _, ?_⟩
            refine wx_f rfl (f_assign rfl) ?_
            refine wx_endp [(3, _), (7, _), (8, _), (9, _)] [3] ⟨rfl, rfl, rfl, rfl, trivial⟩ rfl ?_
            refine ⟨U3, a3, ?_, ?_⟩
            · rw [show 0 + (a - 0) + 1 + (out.length - a) = out.length + 1 by omega]
            · rw [show 0 + (a - 0) + 1 + (out.length - a) = out.length + 1 by omega, eins_cells]
          · skip
            refine ks_e rfl (e_lit1 (cs := [_, _, _]) t45 rfl rfl rfl (by omega)) ?_
            rintro _ _ w8_6 ⟨b8_6, rfl, rfl⟩
            refine ⟨_, List.perm_middle.symm, ?_⟩
            refine wx_ef ?_
            refine ks_e rfl (e_appN 3 t45 rfl rfl rfl (fun w hh => (Rd.held0 hh (i := 1) rfl).cut (l := 0) (u := a) (by omega) (by omega)) (emid_one (encs_one _) _ _) (by omega) (by omega)) ?_
            rintro _ _ w8_4 ⟨⟨U1, a1, rfl⟩, rfl⟩
            refine ⟨_, List.Perm.refl _, ?_⟩
            refine wx_ef ?_
            refine ks_e rfl (e_appN 3 t45 rfl rfl rfl (fun w hh => Rd.held0 hh (i := 2) rfl) (by simp [Value.oneCell']) (by omega) (by omega)) ?_
            rintro _ _ w8_7 ⟨⟨U2, a2, rfl⟩, rfl⟩
            refine ⟨_, List.Perm.refl _, ?_⟩
            refine wx_ef ?_
            refine ks_e rfl (e_appN 3 t45 rfl rfl rfl (fun w hh => (Rd.held0 hh (i := 1) rfl).cut (l := a) (u := out.length) (by omega) (by omega)) (emid_one (encs_one _) _ _) (by omega) (by omega)) ?_
            rintro _ _ w8_11 ⟨⟨U3, a3, rfl⟩, rfl⟩
            refine ⟨_, List.Perm.refl _, ?_⟩
            refine wx_f rfl (f_assign rfl) ?_
            refine wx_endp [(3, _), (7, _), (8, _), (9, _)] [3] ⟨rfl, rfl, rfl, rfl, trivial⟩ rfl ?_
            refine ⟨U3, a3, ?_, ?_⟩
            · rw [show 0 + (a - 0) + 1 + (out.length - a) = out.length + 1 by omega]
            · rw [show 0 + (a - 0) + 1 + (out.length - a) = out.length + 1 by omega, eins_cells]
        · skip
          refine ks_e rfl (e_lit1 (cs := [_, _, _]) t45 rfl rfl rfl (by omega)) ?_
          rintro _ _ w8_6 ⟨b8_6, rfl, rfl⟩
          refine ⟨_, List.perm_middle.symm, ?_⟩
          refine wx_ef ?_
          refine ks_e rfl (e_lit0 t45) ?_
          rintro _ _ w8_0 ⟨b8_0, rfl, rfl⟩
          refine ⟨_, List.perm_middle.symm, ?_⟩
          refine wx_ef ?_
          refine ks_e rfl (e_appN 2 t45 rfl rfl rfl (fun w hh => (Rd.held0 hh (i := 1) rfl).cut (l := 0) (u := a) (by omega) (by omega)) (emid_one (encs_one _) _ _) (by omega) (by omega)) ?_
          rintro _ _ w8_4 ⟨⟨U1, a1, rfl⟩, rfl⟩
          refine ⟨_, List.Perm.refl _, ?_⟩
          refine wx_ef ?_
          refine ks_e rfl (e_appN 2 t45 rfl rfl rfl (fun w hh => Rd.held0 hh (i := 3) rfl) (by simp [Value.oneCell']) (by omega) (by omega)) ?_
          rintro _ _ w8_7 ⟨⟨U2, a2, rfl⟩, rfl⟩
          refine ⟨_, List.Perm.refl _, ?_⟩
          refine wx_ef ?_
          refine ks_e rfl (e_appN 2 t45 rfl rfl rfl (fun w hh => (Rd.held0 hh (i := 1) rfl).cut (l := a) (u := out.length) (by omega) (by omega)) (emid_one (encs_one _) _ _) (by omega) (by omega)) ?_
          rintro _ _ w8_11 ⟨⟨U3, a3, rfl⟩, rfl⟩
          refine ⟨_, List.Perm.refl _, ?_⟩
          refine wx_f rfl (f_assign rfl) ?_
          refine wx_endp [(3, _), (7, _), (8, _), (9, _)] [2] ⟨rfl, rfl, rfl, rfl, trivial⟩ rfl ?_
          refine ⟨U3, a3, ?_, ?_⟩
          · rw [show 0 + (a - 0) + 1 + (out.length - a) = out.length + 1 by omega]
          · rw [show 0 + (a - 0) + 1 + (out.length - a) = out.length + 1 by omega, eins_cells]
      rintro _ _ w8_ ⟨U, cu, rfl, rfl⟩
      refine w_reg ?_
      refine wl_f (f_add rfl rfl (by omega)) ?_
      refine wl_f (f_move rfl) ?_
      refine wl_end [(3, _), (7, _), (8, _), (9, _)] ⟨rfl, rfl, rfl, rfl, trivial⟩ ?_
      refine ⟨j - 1, by omega, i + 1, out.take a ++ p :: out.drop a, U, cu, by rw [show (out.take a ++ p :: out.drop a).length = out.length + 1 by rw [List.length_append, List.length_cons, List.length_take, List.length_drop]; omega]; rfl, by rw [show (out.take a ++ p :: out.drop a).length = out.length + 1 by rw [List.length_append, List.length_cons, List.length_take, List.length_drop]; omega], by omega, ?_, hsi⟩
      rw [take_snoc' hpi]
      refine List.perm_middle.trans ?_
      rw [List.take_append_drop]
      exact (hp.cons p).trans (List.perm_append_singleton p _).symm
  · skip
    refine w_exit0 ?_
    refine w_seq ?_
    refine w_reg ?_
    refine wl_f (f_move rfl) ?_
    refine wl_f (f_assign rfl) ?_
    refine wl_end [(2, _)] ⟨rfl, trivial⟩ ?_
    refine w_ret ?_
    refine ⟨_, _, fun a ha hh => results_tmps Tryz.results45 rfl a ha _, List.Sublist.refl _, ?_⟩
    have hi : i = l.length := by omega
    subst hi
    rw [List.take_length] at hp
    exact ⟨out, hp, hs, rfl⟩
end Go.Proofs.YtbcfdgnpdaaleaaGreat

/- The reference's tables: all entries, sums, making one. -/
namespace Go.Proofs.YtbcfdgnpdaaleaaGreat
open Go.RowKit

theorem runtracked_spec (q mode n : Nat) (l : List En) (base sum : Nat) (r : Res) (w : World) (hr : RtR q mode n l base sum r) (hs : Holds w r.foot [r] w) :
    Spec Tryz.prog 22 [.pointer (some ⟨q, 0, .none⟩)] w r.foot fun v H => v = .int .u64 (base : Int) ∧ H = [r] := by
  obtain ⟨LV, rfl⟩ := hr
  refine enter (n := 7) Tryz.func22 rfl rfl [(0, _)] rfl ⟨rfl, trivial⟩ hs ?_
  refine w_seq ?_
  refine w_reg ?_
  refine wl_f (f_assign rfl) ?_
  refine wl_end [(0, _)] ⟨rfl, trivial⟩ ?_
  refine w_seq ?_
  refine w_reg ?_
  refine wl_f (f_move rfl) ?_
  refine wl_f (f_nilCheck rfl) ?_
  refine wl_f (f_fieldAddr 3 rfl Tryz.underlying50 rfl rfl (by kernel_rfl)) ?_
  refine wl_f (f_loadB 0 0 rfl rfl rfl Tryz.underlying23 rfl rfl) ?_
  refine wl_f (f_assign rfl) ?_
  refine wl_end [(2, _)] ⟨rfl, trivial⟩ ?_
  refine w_ret ?_
  refine ⟨_, _, fun a ha hh => results_tmps Tryz.results22 rfl a ha _, List.Sublist.refl _, ?_⟩
  exact ⟨rfl, rfl⟩
theorem rtotal_spec (q mode n : Nat) (l : List En) (base sum : Nat) (r : Res) (w : World) (hr : RtR q mode n l base sum r) (hs : Holds w r.foot [r] w) :
    Spec Tryz.prog 24 [.pointer (some ⟨q, 0, .none⟩)] w r.foot fun v H => v = .int .u64 (sum : Int) ∧ H = [r] := by
  obtain ⟨LV, rfl⟩ := hr
  refine enter (n := 7) Tryz.func24 rfl rfl [(0, _)] rfl ⟨rfl, trivial⟩ hs ?_
  refine w_seq ?_
  refine w_reg ?_
  refine wl_f (f_assign rfl) ?_
  refine wl_end [(0, _)] ⟨rfl, trivial⟩ ?_
  refine w_seq ?_
  refine w_reg ?_
  refine wl_f (f_move rfl) ?_
  refine wl_f (f_nilCheck rfl) ?_
  refine wl_f (f_fieldAddr 4 rfl Tryz.underlying50 rfl rfl (by kernel_rfl)) ?_
  refine wl_f (f_loadB 0 0 rfl rfl rfl Tryz.underlying23 rfl rfl) ?_
  refine wl_f (f_assign rfl) ?_
  refine wl_end [(2, _)] ⟨rfl, trivial⟩ ?_
  refine w_ret ?_
  refine ⟨_, _, fun a ha hh => results_tmps Tryz.results24 rfl a ha _, List.Sublist.refl _, ?_⟩
  exact ⟨rfl, rfl⟩
theorem loc_uniq {l : List En} (hn : (eks l).Nodup) {A B : List En} {k : ByteArray} {x y : Nat × Nat} (h : l = A ++ (k, x) :: B) (hm : (k, y) ∈ l) : x = y := by
  subst h
  have h1 : (k, x) ∈ A ++ (k, x) :: B := by simp
  rw [eks_app] at hn
  obtain ⟨_, h3, h4⟩ := List.nodup_append.1 hn
  rcases List.mem_append.1 hm with h | h
  · exact absurd rfl (h4 _ (eks_mem h) _ (by simp [eks]))
  · rcases List.mem_cons.1 h with h | h
    · injection h with _ h; exact h.symm
    · exact absurd (eks_mem h) (List.nodup_cons.1 h3).1
theorem RGet.here {mode : Nat} {l : List En} {base : Nat} {k k' : ByteArray} {o' s' : Nat} {is : Bool} (h : RGet mode l base k k' o' s' is) (hn : (eks l).Nodup) {o s : Nat} (hm : (k, o, s) ∈ l) :
    is = true ∧ k' = k ∧ o' = o ∧ s' = if mode = 2 then base else s := by
  rcases h with ⟨_, h, _⟩ | ⟨h1, A, s0, B, h2, _, h3, h4⟩
  · exact absurd (eks_mem hm) h
  · have := loc_uniq hn h2 hm
    injection this with e1 e2
    subst e1; subst e2
    exact ⟨h1, h3, rfl, h4⟩
def rent (mode base : Nat) (x : En) : En := (x.1, x.2.1, if mode = 2 then base else x.2.2)
theorem eks_rent (mode base : Nat) (l : List En) : eks (l.map (rent mode base)) = eks l := by rw [eks, List.map_map]; rfl
set_option maxHeartbeats 2000000 in
theorem rentries_spec (q mode n : Nat) (l : List En) (base sum : Nat) (r : Res) (w : World) (hl : l.length ≤ 64) (hnd : (eks l).Nodup) (hr : RtR q mode n l base sum r) (hs : Holds w r.foot [r] w) :
    Spec Tryz.prog 20 [.pointer (some ⟨q, 0, .none⟩)] w r.foot fun u H => ∃ es : List En, es.Perm (l.map (rent mode base)) ∧ Srts (eks es) ∧ H = [row u 25 3 es.length (encs es), r] := by
  have hr0 := hr
  obtain ⟨LV, rfl⟩ := hr
  refine enter (n := 31) Tryz.func20 rfl rfl [(0, _)] rfl ⟨rfl, trivial⟩ hs ?_
  refine w_with fun hh => ?_
  obtain ⟨L, cl, rfl⟩ := rowB_slice hh (i := 0) (j := 1) rfl rfl
  clear hh
  refine w_seq ?_
  refine w_reg ?_
  refine wl_f (f_assign rfl) ?_
  refine wl_end [(0, _)] ⟨rfl, trivial⟩ ?_
  refine w_seq ?_
  refine w_reg ?_
  refine wl_f (f_assign rfl) ?_
  refine wl_end [(0, _), (3, _)] ⟨rfl, rfl, trivial⟩ ?_
  refine w_seq ?_
  refine w_seq ?_
  refine w_reg ?_
  refine wl_f (f_move rfl) ?_
  refine wl_f (f_nilCheck rfl) ?_
  refine wl_f (f_fieldAddr 2 rfl Tryz.underlying50 rfl rfl (by kernel_rfl)) ?_
  refine wl_f (f_loadB 0 0 rfl rfl rfl Tryz.underlying45 rfl rfl) ?_
  refine wl_f (f_len rfl Tryz.underlying45) ?_
  refine wl_f (f_move rfl) ?_
  refine wl_end [(0, _), (3, _), (11, _), (12, _), (13, _)] ⟨rfl, rfl, rfl, rfl, rfl, trivial⟩ ?_
  refine w_block ?_
  refine w_nilrow 25 3 ?_
  refine w_loop (fun j m H w => ∃ (i : Nat) (O : Value), m = [(0, .pointer (some ⟨q, 0, .none⟩)), (3, O), (11, .slice L l.length cl), (12, .int .i64 l.length), (13, .int .i64 i)] ∧ H = [row O 25 3 ((l.take i).map (rent mode base)).length (encs ((l.take i).map (rent mode base))), bun (rts q mode n l (.slice L l.length cl) base sum)] ∧ j + i = l.length) l.length
    ⟨0, _, rfl, rfl, rfl⟩ ?_
  rintro j _ _ w1 ⟨i, O, rfl, rfl, hj⟩
  refine w_seq ?_
  refine w_reg ?_
  refine wl_f (f_lss rfl rfl) ?_
  refine wl_end [(0, _), (3, _), (11, _), (12, _), (13, _), (14, _)] ⟨rfl, rfl, rfl, rfl, rfl, rfl, trivial⟩ ?_
  refine w_seq ?_
  refine w_ifd rfl (fun hc1 => ?_) (fun hc1 => ?_)
  · skip
    have hi : i < l.length := by omega
    obtain ⟨p, hpi⟩ : ∃ p, l[i]? = some p := ⟨_, List.getElem?_eq_getElem hi⟩
    have hpm : (p.1, p.2.1, p.2.2) ∈ l := List.mem_of_getElem? hpi
    have hml : ((l.take i).map (rent mode base)).length = i := by rw [List.length_map, List.length_take]; omega
    refine w_with fun hh => ?_
    obtain ⟨g, cap, e⟩ := rowB_form hh (i := 1) (j := 1) rfl rfl (by omega)
    injection e with e1 _ e3
    subst e1; subst e3
    clear hh
    refine w_skip ?_
    refine w_seq ?_
    refine w_block ?_
    refine w_seq ?_
    refine w_reg ?_
    refine wl_f (f_indexAddr 3 (i := i) rfl rfl Tryz.underlying45 (by kernel_rfl) rfl hi) ?_
    refine wl_f (f_loadsBr (cs := ecell (some p)) 1 1 rfl rfl rfl Tryz.underlying25 rfl (by kernel_rfl) (encs_get hpi)) ?_
    refine wl_e (e_allocs [.string ByteArray.empty, .int .u64 0, .int .u64 0] (by kernel_rfl)) ?_
    rintro _ _ w4_2 ⟨b4_2, rfl, rfl⟩
    (first | refine wl_e0 (e_store0 (us := [_, _, _]) rfl rfl rfl (by kernel_rfl) (by simp [Value.oneCell']) rfl rfl) ?_ | refine wl_e0 (e_store1 (us := [_, _, _]) rfl rfl rfl (by kernel_rfl) (by simp [Value.oneCell']) rfl rfl) ?_ | refine wl_e0 (e_store2 (us := [_, _, _]) rfl rfl rfl (by kernel_rfl) (by simp [Value.oneCell']) rfl rfl) ?_ | refine wl_e0 (e_store3 (us := [_, _, _]) rfl rfl rfl (by kernel_rfl) (by simp [Value.oneCell']) rfl rfl) ?_)
    rintro _ _ w4_3 rfl
    refine wl_end [(0, _), (3, _), (5, _), (11, _), (12, _), (13, _)] ⟨rfl, rfl, rfl, rfl, rfl, rfl, trivial⟩ ?_
    refine w_seq ?_
    refine w_reg ?_
    refine wl_f (f_move rfl) ?_
    refine wl_f (f_fieldAddr 0 rfl Tryz.underlying25 rfl rfl (by kernel_rfl)) ?_
    (first | refine wl_f (f_loadb 0 rfl Tryz.underlying9 rfl rfl rfl) ?_ | refine wl_f (f_loadb 1 rfl Tryz.underlying9 rfl rfl rfl) ?_ | refine wl_f (f_loadb 2 rfl Tryz.underlying9 rfl rfl rfl) ?_ | refine wl_f (f_loadb 3 rfl Tryz.underlying9 rfl rfl rfl) ?_ | refine wl_f (f_loadb 4 rfl Tryz.underlying9 rfl rfl rfl) ?_ | refine wl_f (f_loadb 5 rfl Tryz.underlying9 rfl rfl rfl) ?_ | refine wl_f (f_loadb 6 rfl Tryz.underlying9 rfl rfl rfl) ?_)
    refine wl_e (e_call1 _ [_, _] rfl Tryz.func17 (by kernel_rfl) (pk1 2 rfl) (fun w hh hs' => rget_spec q mode n l base sum _ p.1 w (by omega) hr0 hs')) ?_
    rintro _ _ w2 ⟨_, rfl, rfl, k', o', s', is, rfl, hG⟩
    obtain ⟨rfl, rfl, rfl, rfl⟩ := hG.here hnd hpm
    refine wl_f (f_move rfl) ?_
    refine wl_f (f_extract rfl rfl) ?_
    refine wl_f (f_extract rfl rfl) ?_
    refine wl_e (e_allocs [.string ByteArray.empty, .int .u64 0, .int .u64 0] (by kernel_rfl)) ?_
    rintro _ _ w5_7 ⟨b5_7, rfl, rfl⟩
    (first | refine wl_e0 (e_store0 (us := [_, _, _]) rfl rfl rfl (by kernel_rfl) (by simp [Value.oneCell']) rfl rfl) ?_ | refine wl_e0 (e_store1 (us := [_, _, _]) rfl rfl rfl (by kernel_rfl) (by simp [Value.oneCell']) rfl rfl) ?_ | refine wl_e0 (e_store2 (us := [_, _, _]) rfl rfl rfl (by kernel_rfl) (by simp [Value.oneCell']) rfl rfl) ?_ | refine wl_e0 (e_store3 (us := [_, _, _]) rfl rfl rfl (by kernel_rfl) (by simp [Value.oneCell']) rfl rfl) ?_)
    rintro _ _ w5_8 rfl
    refine wl_f (f_assign rfl) ?_
    refine wl_pick [0, 2, 0] rfl ?_
    refine wl_end [(0, _), (3, _), (6, _), (11, _), (12, _), (13, _)] ⟨rfl, rfl, rfl, rfl, rfl, rfl, trivial⟩ ?_
    refine w_reg ?_
    refine wl_f (f_move rfl) ?_
    (first | refine wl_f (f_loadsb (cs := [_, _, _]) 0 rfl Tryz.underlying25 rfl (by kernel_rfl) rfl rfl) ?_ | refine wl_f (f_loadsb (cs := [_, _, _]) 1 rfl Tryz.underlying25 rfl (by kernel_rfl) rfl rfl) ?_ | refine wl_f (f_loadsb (cs := [_, _, _]) 2 rfl Tryz.underlying25 rfl (by kernel_rfl) rfl rfl) ?_ | refine wl_f (f_loadsb (cs := [_, _, _]) 3 rfl Tryz.underlying25 rfl (by kernel_rfl) rfl rfl) ?_ | refine wl_f (f_loadsb (cs := [_, _, _]) 4 rfl Tryz.underlying25 rfl (by kernel_rfl) rfl rfl) ?_ | refine wl_f (f_loadsb (cs := [_, _, _]) 5 rfl Tryz.underlying25 rfl (by kernel_rfl) rfl rfl) ?_ | refine wl_f (f_loadsb (cs := [_, _, _]) 6 rfl Tryz.underlying25 rfl (by kernel_rfl) rfl rfl) ?_)
    refine wl_e (e_lit1 (cs := [_, _, _]) t45 rfl rfl rfl (by omega)) ?_
    rintro _ _ w6_2 ⟨b6_2, rfl, rfl⟩
    refine wl_e (e_appN 2 t45 rfl rfl rfl (fun w hh => Rd.held0 hh (i := 0) rfl) (by simp [Value.oneCell']) (by omega) (by omega)) ?_
    rintro v2 _ w5 ⟨_, rfl⟩
    refine wl_f (f_assign rfl) ?_
    refine wl_pick [2, 2] rfl ?_
    refine wl_end [(0, _), (3, _), (11, _), (12, _), (13, _)] ⟨rfl, rfl, rfl, rfl, rfl, trivial⟩ ?_
    refine w_reg ?_
    refine wl_f (f_add rfl rfl (by omega)) ?_
    refine wl_f (f_move rfl) ?_
    refine wl_end [(0, _), (3, _), (11, _), (12, _), (13, _)] ⟨rfl, rfl, rfl, rfl, rfl, trivial⟩ ?_
    refine ⟨j - 1, by omega, i + 1, v2, rfl, ?_, by omega⟩
    rw [take_snoc' hpi, List.map_append, List.map_cons, List.map_nil, encs_snoc, List.length_append]
    rfl
  · skip
    refine w_exit0 ?_
    refine w_seq ?_
    refine w_reg ?_
    refine wl_f (f_move rfl) ?_
    refine wl_e (e_call0 rfl Tryz.func45 (by kernel_rfl) (fun w hh => rsorted_spec O (l.map (rent mode base)) w (by
      have h := Rd.held0 hh (i := 0) rfl
      rw [List.take_of_length_le (by omega)] at h
      exact h) (by rw [List.length_map]; exact hl) (by rw [eks_rent]; exact hnd))) ?_
    rintro v2 _ w5 ⟨_, rfl, es, hes, hse, rfl⟩
    refine wl_f (f_assign rfl) ?_
    refine wl_pick [0, 1] rfl ?_
    refine wl_end [(2, _)] ⟨rfl, trivial⟩ ?_
    refine w_ret ?_
    refine ⟨_, _, fun a ha hh => results_tmps Tryz.results20 rfl a ha _, List.Sublist.refl _, ?_⟩
    exact ⟨es, hes, hse, rfl⟩
theorem build_rtab (mode n : Int) (w : World) : (Instr.build 50 [(0, .int .i64 mode), (1, .int .i64 n)].toArray).run Tryz.prog w = .ok (.agg [.int .i64 mode, .int .i64 n, .slice .none 0 0, .int .u64 0, .int .u64 0].toArray) w := by kernel_rfl
theorem rtnew_ok (mode n : Nat) (w : World) (hm : mode = 1 ∨ mode = 2) (h1 : 1 ≤ n) (h2 : n ≤ 64) : Spec Tryz.prog 5 [.int .i64 mode, .int .i64 n] w Nil fun r H => ∃ q r', r = .tuple [.pointer (some ⟨q, 0, .none⟩), .int .i64 0].toArray ∧ H = [r'] ∧ RtR q mode n [] 0 0 r' := by
  refine enter (n := 22) Tryz.func5 rfl rfl [(0, _), (1, _)] rfl ⟨rfl, rfl, trivial⟩ (Holds.start _ _) ?_
  refine w_seq ?_
  refine w_reg ?_
  refine wl_f (f_assign rfl) ?_
  refine wl_f (f_assign rfl) ?_
  refine wl_end [(0, _), (1, _)] ⟨rfl, rfl, trivial⟩ ?_
  refine w_seq ?_
  refine w_seq ?_
  refine w_reg ?_
  refine wl_f (f_move rfl) ?_
  refine wl_f (f_neq rfl rfl) ?_
  refine wl_f (f_move rfl) ?_
  refine wl_and (j := 2) (c := decide ((mode : Int) ≠ 2)) 2 [(0, _), (1, _)] ⟨rfl, rfl, trivial⟩ rfl rfl rfl rfl rfl (fun hg1_5 => ?_) (fun w1_5 => ?_)
  · skip
    refine wl_gf rfl rfl (f_move rfl) ?_
    refine wl_gf rfl rfl (f_neq rfl rfl) ?_
    exact wl_pend rfl rfl ⟨rfl, rfl, trivial⟩ (List.Sublist.refl _)
  refine wl_end [(0, _), (1, _), (11, _)] ⟨rfl, rfl, rfl, trivial⟩ ?_
  refine w_ifb rfl (fun h => absurd h (by rcases hm with rfl | rfl <;> decide)) (fun _ => ?_)
  refine w_skip ?_
  refine w_seq ?_
  refine w_seq ?_
  refine w_reg ?_
  refine wl_f (f_move rfl) ?_
  refine wl_f (f_lss rfl rfl) ?_
  refine wl_f (f_move rfl) ?_
  refine wl_or (j := 2) (c := decide (64 < (n : Int))) 2 [(0, _), (1, _)] ⟨rfl, rfl, trivial⟩ rfl rfl rfl rfl rfl (fun hg3_5 => ?_) (fun w3_5 => ?_)
  · skip
    refine wl_gf rfl rfl (f_move rfl) ?_
    refine wl_gf rfl rfl (f_gtr rfl rfl) ?_
    exact wl_pend rfl rfl ⟨rfl, rfl, trivial⟩ (List.Sublist.refl _)
  refine wl_end [(0, _), (1, _), (17, _)] ⟨rfl, rfl, rfl, trivial⟩ ?_
  refine w_ifb rfl (fun h => absurd h (by simp; omega)) (fun _ => ?_)
  refine w_skip ?_
  refine w_seq ?_
  refine w_reg ?_
  refine wl_f (f_move rfl) ?_
  refine wl_f (f_move rfl) ?_
  refine wl_f (f_build rfl (fun w => build_rtab _ _ w)) ?_
  refine wl_e (e_box (cs := [_, _, _, _, _]) rfl rfl) ?_
  rintro _ _ w5_3 ⟨b5_3, rfl, rfl⟩
  refine wl_f (f_assign rfl) ?_
  refine wl_f (f_assign rfl) ?_
  refine wl_end [(4, _), (5, _)] ⟨rfl, rfl, trivial⟩ ?_
  refine w_nilrow 25 3 ?_
  refine w_pick [1, 0] rfl ?_
  refine w_bun (H := []) [_, _] ?_
  refine w_ret ?_
  refine ⟨_, _, fun a ha hh => results_tmps Tryz.results5 rfl a ha _, List.Sublist.refl _, ?_⟩
  exact ⟨b5_3, _, rfl, rfl, _, rfl⟩
end Go.Proofs.YtbcfdgnpdaaleaaGreat

/- The order of a table's entries against the reference's list, plain. -/
namespace Go.Proofs.YtbcfdgnpdaaleaaGreat
open Go.RowKit

def cnt (x : En) : Nat := x.2.1 + x.2.2
def insE : List En → En → List En
  | [], x => [x]
  | p :: l, x => if cnt p ≤ cnt x then p :: insE l x else x :: p :: l
def isort (L : List En) : List En := L.foldl insE []
def remE (l : List En) (k : ByteArray) : List En := l.filter fun x => !decide (x.1 = k)
def Asc (l : List En) : Prop := l.Pairwise fun a b => cnt a ≤ cnt b
theorem isort_snoc (L : List En) (x : En) : isort (L ++ [x]) = insE (isort L) x := by rw [isort, List.foldl_append]; rfl
theorem insE_perm (l : List En) (x : En) : (insE l x).Perm (x :: l) := by
  induction l with
  | nil => exact List.Perm.refl _
  | cons p l ih =>
    rw [insE]
    split
    · exact (ih.cons p).trans (List.Perm.swap ..)
    · exact List.Perm.refl _
theorem insE_asc {l : List En} (x : En) (h : Asc l) : Asc (insE l x) := by
  induction l with
  | nil => exact List.pairwise_singleton ..
  | cons p l ih =>
    obtain ⟨h1, h2⟩ := List.pairwise_cons.1 h
    rw [insE]
    split
    · rename_i hc
      refine List.pairwise_cons.2 ⟨fun y hy => ?_, ih h2⟩
      rcases List.mem_cons.1 ((insE_perm l x).mem_iff.1 hy) with rfl | hy
      · exact hc
      · exact h1 y hy
    · rename_i hc
      refine List.pairwise_cons.2 ⟨fun y hy => ?_, h⟩
      rcases List.mem_cons.1 hy with rfl | hy
      · omega
      · have := h1 y hy; omega
theorem foldl_perm : ∀ (L acc : List En), (L.foldl insE acc).Perm (acc ++ L)
  | [], acc => by simp
  | x :: L, acc => by
    rw [List.foldl_cons]
    refine (foldl_perm L _).trans ?_
    refine ((insE_perm acc x).append_right L).trans ?_
    exact List.perm_middle.symm
theorem isort_perm (L : List En) : (isort L).Perm L := (foldl_perm L []).trans (List.Perm.refl _)
theorem snoc_ind {P : List En → Prop} (h0 : P []) (h1 : ∀ L x, P L → P (L ++ [x])) (L : List En) : P L := by
  have : ∀ R : List En, P R.reverse := by
    intro R
    induction R with
    | nil => exact h0
    | cons x R ih => rw [List.reverse_cons]; exact h1 _ _ ih
  have h := this L.reverse
  rwa [List.reverse_reverse] at h
theorem isort_asc (L : List En) : Asc (isort L) := snoc_ind (P := fun L => Asc (isort L)) List.Pairwise.nil (fun L x h => by rw [isort_snoc]; exact insE_asc x h) L
theorem remE_none {l : List En} {k : ByteArray} (h : k ∉ eks l) : remE l k = l := by
  refine List.filter_eq_self.2 fun x hx => ?_
  have : x.1 ≠ k := fun e => h (e ▸ eks_mem hx)
  simp [this]
theorem remE_ins_self {l : List En} {x : En} (h : x.1 ∉ eks l) : remE (insE l x) x.1 = l := by
  induction l with
  | nil => simp [insE, remE]
  | cons p l ih =>
    have h1 : ¬ p.1 = x.1 := fun e => h (by simp [eks, e])
    have h2 : x.1 ∉ eks l := fun e => h (by simp only [eks, List.map_cons, List.mem_cons]; exact .inr e)
    rw [insE]
    split
    · rw [remE, List.filter_cons_of_pos (by simp [h1])]
      exact congrArg _ (ih h2)
    · rw [remE, List.filter_cons_of_neg (by simp)]
      exact remE_none h
theorem insE_front {l : List En} {y : En} (h : ∀ p ∈ l, cnt y < cnt p) : insE l y = y :: l := by
  cases l with
  | nil => rfl
  | cons p l => rw [insE, if_neg (by have := h p (List.mem_cons_self ..); omega)]
theorem remE_ins {l : List En} {k : ByteArray} {y : En} (ha : Asc l) (hy : y.1 ≠ k) : remE (insE l y) k = insE (remE l k) y := by
  induction l with
  | nil => simp [insE, remE, hy]
  | cons p l ih =>
    obtain ⟨h1, h2⟩ := List.pairwise_cons.1 ha
    have ih := ih h2
    rw [insE]
    split
    · rename_i hc
      by_cases hp : p.1 = k
      · rw [remE, List.filter_cons_of_neg (by simp [hp]), remE, List.filter_cons_of_neg (by simp [hp])]
        exact ih
      · rw [remE, List.filter_cons_of_pos (by simp [hp]), remE, List.filter_cons_of_pos (by simp [hp]), insE, if_pos hc]
        exact congrArg _ ih
    · rename_i hc
      rw [insE_front (l := remE (p :: l) k) (fun q hq => ?_)]
      · rw [remE, List.filter_cons_of_pos (by simp [hy])]; rfl
      · have hq := (List.mem_filter.1 hq).1
        rcases List.mem_cons.1 hq with rfl | hq
        · omega
        · have := h1 q hq; omega
/-- Taking one out of the list takes it out of the sorted list. -/
theorem isort_rem {A : List En} {x : En} (hA : x.1 ∉ eks A) (B : List En) : x.1 ∉ eks B → isort (A ++ B) = remE (isort (A ++ x :: B)) x.1 := by
  refine snoc_ind (P := fun B => x.1 ∉ eks B → isort (A ++ B) = remE (isort (A ++ x :: B)) x.1) (fun _ => ?_) (fun B y ih hB => ?_) B
  · rw [isort_snoc, List.append_nil, remE_ins_self]
    exact fun h => hA (((isort_perm A).map Prod.fst).mem_iff.1 h)
  · rw [eks_app] at hB
    have h1 : x.1 ∉ eks B := fun h => hB (List.mem_append_left _ h)
    have h2 : y.1 ≠ x.1 := fun e => hB (List.mem_append_right _ (by simp [eks, e]))
    rw [← List.append_assoc, isort_snoc, ih h1, ← List.cons_append, ← List.append_assoc, isort_snoc, remE_ins (isort_asc _) h2]
/-- The first of the least is the head. -/
theorem isort_least {A : List En} {y : En} (hA : ∀ a ∈ A, cnt y < cnt a) (B : List En) : (∀ b ∈ B, cnt y ≤ cnt b) → isort (A ++ y :: B) = y :: isort (A ++ B) := by
  refine snoc_ind (P := fun B => (∀ b ∈ B, cnt y ≤ cnt b) → isort (A ++ y :: B) = y :: isort (A ++ B)) (fun _ => ?_) (fun B b ih hB => ?_) B
  · rw [isort_snoc, List.append_nil]
    exact insE_front fun p hp => hA p ((isort_perm A).mem_iff.1 hp)
  · rw [← List.cons_append, ← List.append_assoc, isort_snoc, ih (fun c hc => hB c (List.mem_append_left _ hc)), insE, if_pos (hB b (by simp)), ← List.append_assoc, isort_snoc]
def gE (E : List (Option En)) (p : Int × Nat) : Option En × Nat := ((E[p.1.toNat]?).join, p.2)
def hE (x : En) : Option En × Nat := (some x, cnt x)
theorem ins_map {E : List (Option En)} {i c : Nat} {x : En} (hx : gE E ((i : Int), c) = hE x) : ∀ {l : Ord} {S : List En}, l.map (gE E) = S.map hE → (ins l i c).map (gE E) = (insE S x).map hE
  | [], [], _ => by simp [ins, insE, hx]
  | [], _ :: _, h => by simp at h
  | _ :: _, [], h => by simp at h
  | p :: l, y :: S, h => by
    simp only [List.map_cons, List.cons.injEq] at h
    have h1 : p.2 = cnt y := congrArg Prod.snd h.1
    have h2 : c = cnt x := congrArg Prod.snd hx
    rw [ins, insE, h1, h2]
    split
    · rw [List.map_cons, List.map_cons, h.1, ← h2, ins_map hx h.2]
    · rw [List.map_cons, List.map_cons, ← h2, hx, List.map_cons, List.map_cons, h.1, h.2]
theorem gE_set {E : List (Option En)} {i : Nat} {o : Option En} {l : Ord} (h : ∀ p ∈ l, p.1.toNat ≠ i) : l.map (gE (E.set i o)) = l.map (gE E) :=
  List.map_congr_left fun p hp => by
    unfold gE
    rw [List.getElem?_set_ne (fun e => h p hp e.symm)]
theorem gE_some {E : List (Option En)} {p : Int × Nat} {x : En} (h : gE E p = hE x) : E[p.1.toNat]? = some (some x) ∧ p.2 = cnt x := by
  have h1 : (E[p.1.toNat]?).join = some x := congrArg Prod.fst h
  refine ⟨?_, congrArg Prod.snd h⟩
  cases h2 : E[p.1.toNat]? with
  | none => rw [h2] at h1; cases h1
  | some o => rw [h2] at h1; exact congrArg _ h1
theorem gE_mk {E : List (Option En)} {i : Nat} {x : En} (h : E[i]? = some (some x)) : gE E ((i : Int), cnt x) = hE x := by
  unfold gE hE
  rw [show ((i : Int), cnt x).1.toNat = i from Int.toNat_natCast i, h]
  rfl
theorem rem_map {E : List (Option En)} {i : Nat} {x : En} (hx : E[i]? = some (some x)) (huq : ∀ (j : Nat) y, E[j]? = some (some y) → y.1 = x.1 → j = i) : ∀ {l : Ord} {S : List En}, (∀ p ∈ l, 0 ≤ p.1) → l.map (gE E) = S.map hE → (eks S).Nodup → (rem l i).map (gE E) = (remE S x.1).map hE
  | [], [], _, _, _ => rfl
  | [], _ :: _, _, h, _ => by simp at h
  | _ :: _, [], _, h, _ => by simp at h
  | p :: l, y :: S, h0, h, hn => by
    simp only [List.map_cons, List.cons.injEq] at h
    obtain ⟨h1, h2⟩ := gE_some h.1
    have hp0 := h0 p (List.mem_cons_self ..)
    have hn' : y.1 ∉ eks S ∧ (eks S).Nodup := List.nodup_cons.1 hn
    rw [rem]
    split
    · rename_i hpi
      rw [hpi, Int.toNat_natCast, hx] at h1
      injection h1 with h1
      injection h1 with h1
      subst h1
      rw [remE, List.filter_cons_of_neg (by simp)]
      rw [show (S.filter fun z => !decide (z.1 = x.1)) = S from remE_none hn'.1]
      exact h.2
    · rename_i hpi
      have hyx : y.1 ≠ x.1 := fun e => hpi (by have := huq _ y h1 e; omega)
      rw [remE, List.filter_cons_of_pos (by simp [hyx]), List.map_cons, List.map_cons, h.1]
      exact congrArg _ (rem_map hx huq (fun q hq => h0 q (List.mem_cons_of_mem _ hq)) h.2 hn'.2)
end Go.Proofs.YtbcfdgnpdaaleaaGreat

/- Saving's tables against the reference, plain. -/
namespace Go.Proofs.YtbcfdgnpdaaleaaGreat
open Go.RowKit

structure SFact (m : Nat) (E : List (Option En)) (l : Ord) : Prop where
  len : E.length = m
  nd : (ids l).Nodup
  rng : ∀ p ∈ l, 0 ≤ p.1
  ord : ∀ (i : Nat) (c : Nat), ((i : Int), c) ∈ l ↔ ∃ (k : ByteArray) (o s : Nat), E[i]? = some (some (k, o, s)) ∧ c = o + s
  uq : ∀ (i j : Nat) (x y : En), E[i]? = some (some x) → E[j]? = some (some y) → y.1 = x.1 → j = i
  cnt : l.length = (E.filterMap id).length
  ne : ∀ (i : Nat) (x : En), E[i]? = some (some x) → x.1 ≠ ByteArray.empty
theorem SvR.fact {t m base total : Nat} {E : List (Option En)} {l : Ord} {r : Res} (h : SvR t m E l base total r) : SFact m E l := by
  obtain ⟨L, rfl, hm1, hm2, bR, bX, eV, rR, rX, M, T, rfl, hR, hX, hI⟩ := h
  have hO := hR.inv
  refine ⟨hI.len, hO.nd, fun p hp => (hO.rng p.1 (List.mem_map_of_mem hp)).1, fun i c => hI.ord i c, fun i j x y hi hj e => ?_, hI.cnt hO hX.nd, fun i x hi => (hI.sm i x.1 x.2.1 x.2.2 hi).2⟩
  obtain ⟨k, o, s⟩ := x
  obtain ⟨k', o', s'⟩ := y
  have e : k' = k := e
  subst e
  exact hI.uniq hX.nd hj hi
/-- The entries by the order are the reference's list, sorted by counts. -/
def SRel (E : List (Option En)) (l : Ord) (L : List En) : Prop := l.map (gE E) = (isort L).map hE ∧ (eks L).Nodup
section
variable {m : Nat} {E E' : List (Option En)} {l l' : Ord} {L L' : List En} {k : ByteArray} {i o s : Nat}
theorem hE_inj {x y : En} (h : hE x = hE y) : x = y := by
  have := congrArg Prod.fst h
  simpa [hE] using this
theorem SRel.mem (h : SRel E l L) (hf : SFact m E l) {x : En} : x ∈ L ↔ ∃ i : Nat, E[i]? = some (some x) := by
  constructor
  · intro hx
    have h1 : hE x ∈ l.map (gE E) := by rw [h.1]; exact List.mem_map_of_mem ((isort_perm L).mem_iff.2 hx)
    obtain ⟨p, _, hp⟩ := List.mem_map.1 h1
    exact ⟨_, (gE_some hp).1⟩
  · rintro ⟨i, hi⟩
    have h1 : ((i : Int), Go.Proofs.YtbcfdgnpdaaleaaGreat.cnt x) ∈ l := (hf.ord i _).2 ⟨x.1, x.2.1, x.2.2, hi, rfl⟩
    have h2 : hE x ∈ (isort L).map hE := by rw [← h.1, ← gE_mk hi]; exact List.mem_map_of_mem h1
    obtain ⟨z, hz, he⟩ := List.mem_map.1 h2
    rw [hE_inj he] at hz
    exact (isort_perm L).mem_iff.1 hz
theorem SRel.len (h : SRel E l L) : L.length = l.length := by
  have := congrArg List.length h.1
  rw [List.length_map, List.length_map, (isort_perm L).length_eq] at this
  exact this.symm
theorem SRel.hasnt (h : SRel E l L) (hf : SFact m E l) : k ∉ eks L ↔ Hasnt E k := by
  constructor
  · intro hk i o s hi
    exact hk (eks_mem ((h.mem hf).2 ⟨i, hi⟩))
  · intro hk hm
    obtain ⟨x, hx, rfl⟩ := List.mem_map.1 hm
    obtain ⟨i, hi⟩ := (h.mem hf).1 hx
    exact hk i x.2.1 x.2.2 hi
theorem SRel.at {A B : List En} (h : SRel E l L) (hf : SFact m E l) (hi : Has E k i o s) {o' s' : Nat} (he : L = A ++ (k, o', s') :: B) : o' = o ∧ s' = s := by
  obtain ⟨j, hj⟩ := (h.mem hf (x := (k, o', s'))).1 (by rw [he]; simp)
  have := hf.uq i j _ _ hi hj rfl
  subst this
  have hi' : E[j]? = some (some (k, o, s)) := hi
  rw [hi'] at hj
  simp at hj
  exact ⟨hj.1.symm, hj.2.symm⟩
theorem rem_ne {l : Ord} (hn : (ids l).Nodup) {i : Int} {p : Int × Nat} (hp : p ∈ rem l i) : p ∈ l ∧ p.1 ≠ i := (mem_rem_iff hn).1 hp
theorem nd_split {A B : List En} {x : En} (h : (eks (A ++ x :: B)).Nodup) : x.1 ∉ eks A ∧ x.1 ∉ eks B ∧ (eks (A ++ B)).Nodup := by
  rw [eks_app] at h
  obtain ⟨h1, h2, h3⟩ := List.nodup_append.1 h
  have h4 : x.1 ∉ eks B ∧ (eks B).Nodup := List.nodup_cons.1 h2
  refine ⟨fun hx => h3 _ hx _ (by simp [eks]) rfl, h4.1, ?_⟩
  rw [eks_app]
  exact List.nodup_append.2 ⟨h1, h4.2, fun a ha b hb => h3 a ha b (by simp only [eks, List.map_cons, List.mem_cons] at hb ⊢; exact .inr hb)⟩
theorem SRel.del {A B : List En} (h : SRel E l L) (hf : SFact m E l) (hi : Has E k i o s) (he : L = A ++ (k, o, s) :: B) : SRel (E.set i none) (rem l i) (A ++ B) := by
  have hi' : E[i]? = some (some (k, o, s)) := hi
  have hnd := h.2
  rw [he] at hnd
  obtain ⟨h1, h2, h3⟩ := nd_split hnd
  refine ⟨?_, h3⟩
  rw [gE_set (fun p hp e => by
    obtain ⟨hp1, hp2⟩ := rem_ne hf.nd hp
    have := hf.rng p hp1
    exact hp2 (by omega)), isort_rem h1 B h2, ← he]
  refine rem_map hi' (fun j y hj e => hf.uq i j _ y hi' hj e) hf.rng h.1 ?_
  exact ((isort_perm L).map Prod.fst).nodup_iff.2 h.2
theorem SRel.put {n : Nat} {x : En} (h : SRel E l L) (hn : n < E.length) (hl : ∀ p ∈ l, p.1.toNat ≠ n) (hx : x.1 ∉ eks L) : SRel (E.set n (some x)) (ins l n (cnt x)) (L ++ [x]) := by
  refine ⟨?_, ?_⟩
  · rw [isort_snoc]
    refine ins_map (gE_mk (List.getElem?_set_self hn)) ?_
    rw [gE_set hl]
    exact h.1
  · rw [eks_app]
    exact List.nodup_append.2 ⟨h.2, by simp [eks], fun a ha b hb e => hx (by simp [eks] at hb; rw [← hb, ← e]; exact ha)⟩
theorem SRel.least {n c : Nat} {l1 : Ord} {A B : List En} {y : En} (h : SRel E (((n : Int), c) :: l1) L) (he : L = A ++ y :: B) (hA : ∀ a ∈ A, cnt y < cnt a) (hB : ∀ b ∈ B, cnt y ≤ cnt b) :
    E[n]? = some (some y) ∧ c = cnt y ∧ l1.map (gE E) = (isort (A ++ B)).map hE := by
  have h1 := h.1
  rw [he, isort_least hA B hB, List.map_cons, List.map_cons, List.cons.injEq] at h1
  obtain ⟨h2, h3⟩ := gE_some h1.1
  rw [show (((n : Int), c) : Int × Nat).1.toNat = n from Int.toNat_natCast n] at h2
  exact ⟨h2, h3, h1.2⟩
/-- The reference's adding in the mode Saving. -/
def RsAddG (n : Nat) (l : List En) (base sum : Nat) (k : ByteArray) (v : Nat) (e : Int) (l' : List En) (base' sum' : Nat) : Prop :=
  (e ≠ 0 ∧ l' = l ∧ base' = base ∧ sum' = sum ∧ (k = ByteArray.empty ∧ e = 3 ∨ k ≠ ByteArray.empty ∧ v = 0 ∧ e = 1 ∨ k ≠ ByteArray.empty ∧ v ≠ 0 ∧ 9223372036854775808 < sum + v ∧ e = 12)) ∨
  (e = 0 ∧ k ≠ ByteArray.empty ∧ v ≠ 0 ∧ sum + v ≤ 9223372036854775808 ∧ sum' = sum + v ∧ ((∃ A o s B, l = A ++ (k, o, s) :: B ∧ k ∉ eks A ∧ l' = A ++ B ++ [(k, o + v, s)] ∧ base' = base) ∨
    (k ∉ eks l ∧ l.length ≠ n ∧ l' = l ++ [(k, v, base)] ∧ base' = base) ∨
    (k ∉ eks l ∧ l.length = n ∧ ∃ A y B, l = A ++ y :: B ∧ (∀ a ∈ A, cnt y < cnt a) ∧ (∀ b ∈ B, cnt y ≤ cnt b) ∧ base' = cnt y ∧ l' = A ++ B ++ [(k, v, cnt y)])))
theorem slot_free {n : Nat} (hf : SFact m E l) (hn : E[n]? = some none) : ∀ p ∈ l, p.1.toNat ≠ n := fun p hp e => by
  have h1 := hf.rng p hp
  have h2 : ((n : Int), p.2) ∈ l := by rw [← e, Int.toNat_of_nonneg h1]; exact hp
  obtain ⟨k, o, s, h3, _⟩ := (hf.ord n p.2).1 h2
  rw [hn] at h3
  cases h3
theorem SRel.add {base base' rbase' total total' sum' v : Nat} {e e' : Int} (h : SRel E l L) (hf : SFact m E l) (hA : AddG m E base total k v e E' base' total') (hO : AddL m E l base k v e E' l' base') (hR : RsAddG m L base total k v e' L' rbase' sum') :
    e' = e ∧ rbase' = base' ∧ sum' = total' ∧ SRel E' l' L' := by
  rcases hA with ⟨he, rfl, rfl, rfl, hE⟩ | ⟨rfl, hk, hv, ht, rfl, hA⟩
  · rcases hO with ⟨_, rfl⟩ | ⟨he', _⟩
    · rcases hR with ⟨_, rfl, rfl, rfl, hE'⟩ | ⟨_, hk, hv, ht, _⟩
      · refine ⟨?_, rfl, rfl, h⟩
        rcases hE with ⟨h1, rfl⟩ | ⟨h1, h2, rfl⟩ | ⟨h1, h2, h3, rfl⟩ <;> rcases hE' with ⟨h4, rfl⟩ | ⟨h4, h5, rfl⟩ | ⟨h4, h5, h6, rfl⟩ <;> first | rfl | exact absurd h1 h4 | exact absurd h4 h1 | exact absurd h2 h5 | exact absurd h5 h2
      · rcases hE with ⟨h1, _⟩ | ⟨_, h2, _⟩ | ⟨_, _, h3, _⟩
        · exact absurd h1 hk
        · exact absurd h2 hv
        · omega
    · exact absurd he' he
  · rcases hO with ⟨h0, _⟩ | ⟨_, hO⟩
    · exact absurd rfl h0
    · rcases hR with ⟨_, _, _, _, hE'⟩ | ⟨rfl, _, _, _, rfl, hR⟩
      · rcases hE' with ⟨h1, _⟩ | ⟨_, h2, _⟩ | ⟨_, _, h3, _⟩
        · exact absurd h1 hk
        · exact absurd h2 hv
        · omega
      · rcases hO with ⟨i, o, s, hi, rfl, rfl⟩ | ⟨hno, n, E1, l1, hfr, hfl, rfl, rfl⟩
        · have hyes : ¬ Hasnt E k := fun hn => hn i o s hi
          rcases hR with ⟨A, o', s', B, he, hkA, rfl, rfl⟩ | ⟨hn, _⟩ | ⟨hn, _⟩
          · obtain ⟨rfl, rfl⟩ := h.at hf hi he
            have hbase : rbase' = base' := by
              rcases hA with ⟨_, _, _, _, _, hb⟩ | ⟨hn, _⟩
              · exact hb.symm
              · exact absurd hn hyes
            refine ⟨rfl, hbase, rfl, ?_⟩
            have h1 := h.del hf hi he
            have hil : i < E.length := (List.getElem?_eq_some_iff.1 hi).1
            have h2 := h1.put (n := i) (x := (k, o' + v, s')) (by rw [List.length_set]; exact hil) (fun p hp e => by
              obtain ⟨hp1, hp2⟩ := rem_ne hf.nd hp
              have := hf.rng p hp1
              exact hp2 (by omega)) (by
                have hnd := h.2
                rw [he] at hnd
                obtain ⟨h3, h4, _⟩ := nd_split hnd
                rw [eks_app]
                exact fun hm => (List.mem_append.1 hm).elim h3 h4)
            rw [List.set_set] at h2
            exact h2
          · exact absurd ((h.hasnt hf).1 hn) hyes
          · exact absurd ((h.hasnt hf).1 hn) hyes
        · have hkL := (h.hasnt hf).2 hno
          have hbase : ∃ n' E2, FreeG m E base n' E2 base' ∧ E1.set n (some (k, v, base')) = E2.set n' (some (k, v, base')) := by
            rcases hA with ⟨i, o, s, hi, _⟩ | ⟨_, n', E2, h1, h2⟩
            · exact absurd hi (hno i o s)
            · exact ⟨n', E2, h1, h2⟩
          have hcnt := fr_cnt E
          have hlen := h.len
          have hfl' := hf.len
          have hfc := hf.cnt
          have hnm := hfr.1
          rcases hR with ⟨A, o', s', B, he, hkA, rfl, rfl⟩ | ⟨_, hlm, rfl, rfl⟩ | ⟨_, hlm, A, y, B, he, hyA, hyB, rfl, rfl⟩
          · exact absurd (by rw [he, eks_app]; simp [eks]) hkL
          · rcases hfr with ⟨_, hE1n, ⟨rfl, rfl, _⟩ | ⟨hall, _⟩⟩
            · rcases hfl with ⟨_, rfl⟩ | ⟨hall, _⟩
              · refine ⟨rfl, rfl, rfl, ?_⟩
                exact h.put (x := (k, v, base')) (by omega) (slot_free hf hE1n) hkL
              · obtain ⟨x, hx⟩ := hall n hnm
                rw [hE1n] at hx; cases hx
            · have := fr_full (E := E) (fun i hi => hall i (by omega))
              omega
          · rcases hfr with ⟨_, hE1n, ⟨rfl, rfl, _⟩ | ⟨hall, kn, on, sn, hn, rfl, rfl, _⟩⟩
            · exfalso
              have : fr E1 ≠ 0 := by
                obtain ⟨A', B', rfl, _⟩ := split_at hE1n
                simp [fr, efr]
              omega
            · rcases hfl with ⟨hn', _⟩ | ⟨_, c, rfl⟩
              · rw [hn] at hn'; cases hn'
              · obtain ⟨h1, h2, h3⟩ := h.least he hyA hyB
                rw [hn] at h1
                injection h1 with h1
                injection h1 with h1
                subst h1
                refine ⟨rfl, rfl, rfl, ?_⟩
                have hnd := h.2
                rw [he] at hnd
                obtain ⟨h4, h5, h6⟩ := nd_split hnd
                have hnl : ∀ p ∈ l1, p.1.toNat ≠ n := fun p hp e => by
                  have h7 := hf.rng p (List.mem_cons_of_mem _ hp)
                  have h8 : (n : Int) ∉ ids l1 := (List.nodup_cons.1 hf.nd).1
                  exact h8 (by rw [← e, Int.toNat_of_nonneg h7]; exact List.mem_map_of_mem hp)
                have h9 : SRel (E.set n none) l1 (A ++ B) := ⟨by rw [gE_set hnl]; exact h3, h6⟩
                exact h9.put (x := (k, v, on + sn)) (by rw [List.length_set]; omega) hnl (by
                  rw [eks_app]
                  rw [he, eks_app] at hkL
                  exact fun hm => (List.mem_append.1 hm).elim (fun hm => hkL (List.mem_append_left _ hm)) (fun hm => hkL (List.mem_append_right _ (by simp only [eks, List.map_cons, List.mem_cons] at hm ⊢; exact .inr hm))))
theorem SRel.take {base : Nat} {v : Value} (h : SRel E l L) (hf : SFact m E l) (hT : (∃ i o s, Has E k i o s ∧ E' = E.set i none ∧ l' = rem l i ∧ v = .tuple [enV k o s, .bool true].toArray) ∨ (Hasnt E k ∧ E' = E ∧ l' = l)) (hR : RTake L k L') : SRel E' l' L' := by
  rcases hT with ⟨i, o, s, hi, rfl, rfl, _⟩ | ⟨hn, rfl, rfl⟩
  · rcases hR with ⟨hk, _⟩ | ⟨A, x, B, he, hx, _, rfl⟩
    · exact absurd hi ((h.hasnt hf).1 hk i o s)
    · obtain ⟨kx, ox, sx⟩ := x
      have hx : kx = k := hx
      subst hx
      obtain ⟨rfl, rfl⟩ := h.at hf hi he
      exact h.del hf hi he
  · rcases hR with ⟨_, rfl⟩ | ⟨A, x, B, he, hx, _, rfl⟩
    · exact h
    · exact absurd (by rw [he, eks_app, ← hx]; simp [eks]) ((h.hasnt hf).2 hn)
theorem SRel.get {base : Nat} {v : Value} {k' : ByteArray} {o' s' : Nat} {is : Bool} (h : SRel E l L) (hf : SFact m E l) (hG : GetG E k v) (hR : RGet 1 L base k k' o' s' is) : v = .tuple [enV k' o' s', .bool is].toArray := by
  rcases hG with ⟨i, o, s, hi, rfl⟩ | ⟨hn, rfl⟩
  · rcases hR with ⟨_, hk, _⟩ | ⟨rfl, A, s0, B, he, _, rfl, rfl⟩
    · exact absurd hi ((h.hasnt hf).1 hk i o s)
    · obtain ⟨rfl, rfl⟩ := h.at hf hi he
      rfl
  · rcases hR with ⟨rfl, _, rfl, rfl, rfl⟩ | ⟨_, A, s0, B, he, _, _, _⟩
    · rfl
    · exact absurd (by rw [he, eks_app]; simp [eks]) ((h.hasnt hf).2 hn)
end
theorem ents_eq {a b : List En} (ha : Srts (eks a)) (hb : Srts (eks b)) (hp : a.Perm b) : a = b := by
  have h1 : eks a = eks b := srts_unique ha hb (hp.map Prod.fst)
  have hbn : (eks b).Nodup := hb.imp fun h => nlt_ne h
  refine List.ext_getElem? fun i => ?_
  have h2 : (eks a)[i]? = (eks b)[i]? := by rw [h1]
  simp only [eks, List.getElem?_map] at h2
  cases ha' : a[i]? with
  | none =>
    cases hb' : b[i]? with
    | none => rfl
    | some y => rw [ha', hb'] at h2; cases h2
  | some x =>
    cases hb' : b[i]? with
    | none => rw [ha', hb'] at h2; cases h2
    | some y =>
      rw [ha', hb'] at h2
      simp only [Option.map_some, Option.some.injEq] at h2
      have hxb : x ∈ b := hp.mem_iff.1 (List.mem_of_getElem? ha')
      obtain ⟨A, B, hAB⟩ := List.append_of_mem (List.mem_of_getElem? hb')
      obtain ⟨k, x2⟩ := x
      obtain ⟨k', y2⟩ := y
      have h2 : k = k' := h2
      subst h2
      rw [loc_uniq hbn hAB hxb]
theorem SRel.ents {m : Nat} {E : List (Option En)} {l : Ord} {L es es' : List En} {base : Nat} (h : SRel E l L) (hf : SFact m E l) (hE : E.length = m) (h1 : es.Perm (E.filterMap id)) (h2 : Srts (es.map Prod.fst)) (h3 : es'.Perm (L.map (rent 1 base))) (h4 : Srts (eks es')) : es = es' := by
  have e : L.map (rent 1 base) = L := (List.map_congr_left fun x _ => rfl).trans (List.map_id L)
  rw [e] at h3
  refine ents_eq h2 h4 ?_
  have n1 : es.Nodup := List.Pairwise.of_map Prod.fst (fun a b hab e => hab (by rw [e])) (h2.imp fun h => nlt_ne h)
  have n2 : es'.Nodup := List.Pairwise.of_map Prod.fst (fun a b hab e => hab (by rw [e])) (h4.imp fun h => nlt_ne h)
  refine (List.perm_ext_iff_of_nodup n1 n2).2 fun x => ?_
  rw [h1.mem_iff, h3.mem_iff, h.mem hf]
  simp only [List.mem_filterMap, id]
  constructor
  · rintro ⟨o, ho, rfl⟩
    obtain ⟨i, hi⟩ := List.mem_iff_getElem?.1 ho
    exact ⟨i, hi⟩
  · rintro ⟨i, hi⟩
    exact ⟨some x, List.mem_of_getElem? hi, rfl⟩
end Go.Proofs.YtbcfdgnpdaaleaaGreat

/- The reference's tables by the method of Misra and Gries: adding, exchanging. -/
namespace Go.Proofs.YtbcfdgnpdaaleaaGreat
open Go.RowKit

theorem rfits_spec (a b : Nat) (w : World) : Spec Tryz.prog 35 [.int .u64 (a : Int), .int .u64 (b : Int)] w Nil fun r H => r = .bool (decide (a + b ≤ 9223372036854775808)) ∧ H = [] := by
  refine enter (n := 13) Tryz.func35 rfl rfl [(0, _), (1, _)] rfl ⟨rfl, rfl, trivial⟩ (Holds.start _ _) ?_
  refine w_seq ?_
  refine w_reg ?_
  refine wl_f (f_assign rfl) ?_
  refine wl_end [(0, _), (1, _)] ⟨rfl, rfl, trivial⟩ ?_
  refine w_seq ?_
  refine w_reg ?_
  refine wl_f (f_move rfl) ?_
  refine wl_f (f_leq rfl rfl) ?_
  refine wl_f (f_move rfl) ?_
  refine wl_and (j := 2) (c := decide ((b : Int) ≤ 9223372036854775808 - (a : Int))) 4 [] trivial rfl rfl rfl rfl rfl (fun hg1_7 => ?_) (fun w1_7 => ?_)
  · skip
    refine wl_gf rfl rfl (f_move rfl) ?_
    refine wl_gf rfl rfl (f_move rfl) ?_
    refine wl_gf rfl rfl (f_subu rfl rfl (by have := of_decide_eq_true hg1_7; omega)) ?_
    refine wl_gf rfl rfl (f_leq rfl rfl) ?_
    exact wl_pend rfl rfl trivial (List.Sublist.refl _)
  refine wl_f (f_assign rfl) ?_
  refine wl_end [(4, _)] ⟨rfl, trivial⟩ ?_
  refine w_ret ?_
  refine ⟨_, _, fun a ha hh => results_tmps Tryz.results35 rfl a ha _, List.Sublist.refl _, ?_⟩
  refine ⟨congrArg Value.bool ?_, rfl⟩
  rw [← Bool.decide_and, decide_eq_decide]
  omega
def rmin (v : Nat) (l : List En) : Nat := l.foldl (fun d x => min d x.2.1) v
theorem rmin_snoc {v : Nat} {l : List En} {x : En} : rmin v (l ++ [x]) = min (rmin v l) x.2.1 := by simp [rmin]
theorem rmin_le (v : Nat) (l : List En) : rmin v l ≤ v := by
  induction l generalizing v with
  | nil => exact Nat.le_refl _
  | cons x l ih => exact Nat.le_trans (ih (min v x.2.1)) (Nat.min_le_left ..)
theorem rmin_mem {l : List En} {x : En} (v : Nat) (h : x ∈ l) : rmin v l ≤ x.2.1 := by
  induction l generalizing v with
  | nil => cases h
  | cons y l ih =>
    rcases List.mem_cons.1 h with rfl | h
    · exact Nat.le_trans (rmin_le _ l) (Nat.min_le_right ..)
    · exact ih _ h
def red1 (d : Nat) (x : En) : Option En := if x.2.1 - d = 0 then none else some (x.1, x.2.1 - d, x.2.2)
def red (d : Nat) (l : List En) : List En := l.filterMap (red1 d)
theorem red_snoc (d : Nat) (l : List En) (x : En) : red d (l ++ [x]) = red d l ++ (if x.2.1 - d = 0 then [] else [(x.1, x.2.1 - d, x.2.2)]) := by
  rw [red, List.filterMap_append]
  congr 1
  unfold red1
  split <;> rename_i h <;> simp [h]
theorem red_len (d : Nat) (l : List En) : (red d l).length ≤ l.length := List.length_filterMap_le ..
theorem build_entry2 (k : ByteArray) (o : Int) (w : World) : (Instr.build 25 [(0, .string k), (1, .int .u64 o)].toArray).run Tryz.prog w = .ok (.agg [.string k, .int .u64 o, .int .u64 0].toArray) w := by kernel_rfl
def RDed (n : Nat) (l : List En) (base : Nat) (k : ByteArray) (v : Nat) (l' : List En) (base' : Nat) : Prop :=
  (l.length ≠ n ∧ l' = l ++ [(k, v, 0)] ∧ base' = base) ∨ (l.length = n ∧ base' = base + rmin v l ∧ l' = red (rmin v l) l ++ if rmin v l < v then [(k, v - rmin v l, 0)] else [])
set_option maxHeartbeats 8000000 in
theorem rdeduct_spec (q n : Nat) (l : List En) (base sum : Nat) (r : Res) (k : ByteArray) (v : Nat) (w : World) (hn : n ≤ 64) (hl : l.length ≤ n) (hv0 : v ≠ 0) (hb : base + v < 18446744073709551616) (hls : ∀ x ∈ l, x.2.1 < 18446744073709551616) (hr : RtR q 2 n l base sum r) (hs : Holds w r.foot [r] w) :
    Spec Tryz.prog 38 [.pointer (some ⟨q, 0, .none⟩), .string k, .int .u64 (v : Int)] w r.foot fun _ H => ∃ l' base' O, H = rts q 2 n l' O base' sum ∧ RDed n l base k v l' base' := by
  obtain ⟨LV, rfl⟩ := hr
  refine enter (n := 88) Tryz.func38 rfl rfl [(0, _), (1, _), (2, _)] rfl ⟨rfl, rfl, rfl, trivial⟩ hs ?_
  refine w_with fun hh => ?_
  obtain ⟨L, cl, rfl⟩ := rowB_slice hh (i := 0) (j := 1) rfl rfl
  clear hh
  refine w_unb (H := []) (rts q 2 n l (.slice L l.length cl) base sum) ?_
  refine w_seq ?_
  refine w_seq ?_
  refine w_draw [(0, true), (1, true), (2, true), (3, true), (4, true), (5, true), (6, true), (7, true), (8, true), (9, true)] (_) ([]) mixed (by kernel_rfl) (by kernel_rfl) rfl (perm_all _) (fun w0_ => ?_)
  refine wd_f rfl (f_move rfl) ?_
  refine wd_f rfl (f_nilCheck rfl) ?_
  refine wd_f rfl (f_fieldAddr 2 rfl Tryz.underlying50 rfl rfl (by kernel_rfl)) ?_
  (first | refine wd_f rfl (f_loadb 0 rfl Tryz.underlying45 rfl rfl rfl) ?_ | refine wd_f rfl (f_loadb 1 rfl Tryz.underlying45 rfl rfl rfl) ?_ | refine wd_f rfl (f_loadb 2 rfl Tryz.underlying45 rfl rfl rfl) ?_ | refine wd_f rfl (f_loadb 3 rfl Tryz.underlying45 rfl rfl rfl) ?_ | refine wd_f rfl (f_loadb 4 rfl Tryz.underlying45 rfl rfl rfl) ?_ | refine wd_f rfl (f_loadb 5 rfl Tryz.underlying45 rfl rfl rfl) ?_ | refine wd_f rfl (f_loadb 6 rfl Tryz.underlying45 rfl rfl rfl) ?_)
  refine wd_f rfl (f_len rfl Tryz.underlying45) ?_
  refine wd_f rfl (f_move rfl) ?_
  refine wd_f rfl (f_nilCheck rfl) ?_
  refine wd_f rfl (f_fieldAddr 1 rfl Tryz.underlying50 rfl rfl (by kernel_rfl)) ?_
  (first | refine wd_f rfl (f_loadb 0 rfl Tryz.underlying3 rfl rfl rfl) ?_ | refine wd_f rfl (f_loadb 1 rfl Tryz.underlying3 rfl rfl rfl) ?_ | refine wd_f rfl (f_loadb 2 rfl Tryz.underlying3 rfl rfl rfl) ?_ | refine wd_f rfl (f_loadb 3 rfl Tryz.underlying3 rfl rfl rfl) ?_ | refine wd_f rfl (f_loadb 4 rfl Tryz.underlying3 rfl rfl rfl) ?_ | refine wd_f rfl (f_loadb 5 rfl Tryz.underlying3 rfl rfl rfl) ?_ | refine wd_f rfl (f_loadb 6 rfl Tryz.underlying3 rfl rfl rfl) ?_)
  refine wd_f rfl (f_eql rfl rfl) ?_
  refine wd_end [(0, _), (1, _), (2, _), (21, _)] ⟨rfl, rfl, rfl, rfl, trivial⟩ ?_
  refine w_post (fun m' H w' => ∃ (l1 : List En) (v1 base1 : Nat) (O : Value), m' = [(0, .pointer (some ⟨q, 0, .none⟩)), (1, .string k), (2, .int .u64 (v1 : Int))] ∧ H = rts q 2 n l1 O base1 sum ∧ l1.length ≤ 64 ∧ ((l.length ≠ n ∧ l1 = l ∧ base1 = base ∧ v1 = v) ∨ (l.length = n ∧ base1 = base + rmin v l ∧ v1 = v - rmin v l ∧ l1 = red (rmin v l) l))) ?_ ?_
  · skip
    refine w_ifd rfl (fun hc1 => ?_) (fun hc1 => ?_)
    · skip
      refine w_seq ?_
      refine w_reg ?_
      refine wl_f (f_move rfl) ?_
      refine wl_f (f_assign rfl) ?_
      refine wl_end [(0, _), (1, _), (2, _), (6, _)] ⟨rfl, rfl, rfl, rfl, trivial⟩ ?_
      refine w_seq ?_
      refine w_seq ?_
      refine w_reg ?_
      refine wl_f (f_move rfl) ?_
      refine wl_f (f_nilCheck rfl) ?_
      refine wl_f (f_fieldAddr 2 rfl Tryz.underlying50 rfl rfl (by kernel_rfl)) ?_
      (first | refine wl_f (f_loadb 0 rfl Tryz.underlying45 rfl rfl rfl) ?_ | refine wl_f (f_loadb 1 rfl Tryz.underlying45 rfl rfl rfl) ?_ | refine wl_f (f_loadb 2 rfl Tryz.underlying45 rfl rfl rfl) ?_ | refine wl_f (f_loadb 3 rfl Tryz.underlying45 rfl rfl rfl) ?_ | refine wl_f (f_loadb 4 rfl Tryz.underlying45 rfl rfl rfl) ?_ | refine wl_f (f_loadb 5 rfl Tryz.underlying45 rfl rfl rfl) ?_ | refine wl_f (f_loadb 6 rfl Tryz.underlying45 rfl rfl rfl) ?_)
      refine wl_f (f_len rfl Tryz.underlying45) ?_
      refine wl_f (f_move rfl) ?_
      refine wl_end [(0, _), (1, _), (2, _), (6, _), (26, _), (27, _), (28, _)] ⟨rfl, rfl, rfl, rfl, rfl, rfl, rfl, trivial⟩ ?_
      refine w_block ?_
      refine w_loop (fun j m H w => ∃ i : Nat, m = [(0, .pointer (some ⟨q, 0, .none⟩)), (1, .string k), (2, .int .u64 (v : Int)), (6, .int .u64 ((rmin v (l.take i) : Nat) : Int)), (26, .slice L l.length cl), (27, .int .i64 l.length), (28, .int .i64 i)] ∧ H = rts q 2 n l (.slice L l.length cl) base sum ∧ j + i = l.length) l.length ⟨0, rfl, rfl, rfl⟩ ?_
      rintro j _ _ w1 ⟨i, rfl, rfl, hj⟩
      refine w_seq ?_
      refine w_reg ?_
      refine wl_f (f_lss rfl rfl) ?_
      refine wl_end [(0, _), (1, _), (2, _), (6, _), (26, _), (27, _), (28, _), (29, _)] ⟨rfl, rfl, rfl, rfl, rfl, rfl, rfl, rfl, trivial⟩ ?_
      refine w_seq ?_
      refine w_ifd rfl (fun hc2 => ?_) (fun hc2 => ?_)
      · skip
        have hi : i < l.length := by
          have : (i : Int) < (l.length : Int) := hc2
          omega
        obtain ⟨p, hpi⟩ : ∃ p, l[i]? = some p := ⟨_, List.getElem?_eq_getElem hi⟩
        refine w_with fun hh => ?_
        obtain ⟨g, cap, e⟩ := row_form hh (i := 1) rfl (by omega)
        injection e with e1 _ e3
        subst e1; subst e3
        clear hh
        refine w_skip ?_
        refine w_seq ?_
        refine w_block ?_
        refine w_seq ?_
        refine w_reg ?_
        refine wl_f (f_indexAddr 3 (i := i) rfl rfl Tryz.underlying45 (by kernel_rfl) rfl hi) ?_
        refine wl_f (f_loadsr (cs := ecell (some p)) 1 rfl Tryz.underlying25 rfl (by kernel_rfl) rfl (encs_get hpi)) ?_
        refine wl_e (e_allocs [.string ByteArray.empty, .int .u64 0, .int .u64 0] (by kernel_rfl)) ?_
        rintro _ _ w4_2 ⟨b4_2, rfl, rfl⟩
        (first | refine wl_e0 (e_store0 (us := [_, _, _]) rfl rfl rfl (by kernel_rfl) (by simp [Value.oneCell']) rfl rfl) ?_ | refine wl_e0 (e_store1 (us := [_, _, _]) rfl rfl rfl (by kernel_rfl) (by simp [Value.oneCell']) rfl rfl) ?_ | refine wl_e0 (e_store2 (us := [_, _, _]) rfl rfl rfl (by kernel_rfl) (by simp [Value.oneCell']) rfl rfl) ?_ | refine wl_e0 (e_store3 (us := [_, _, _]) rfl rfl rfl (by kernel_rfl) (by simp [Value.oneCell']) rfl rfl) ?_)
        rintro _ _ w4_3 rfl
        refine wl_end [(0, _), (1, _), (2, _), (6, _), (8, _), (26, _), (27, _), (28, _)] ⟨rfl, rfl, rfl, rfl, rfl, rfl, rfl, rfl, trivial⟩ ?_
        refine w_reg ?_
        refine wl_f (f_move rfl) ?_
        refine wl_f (f_fieldAddr 1 rfl Tryz.underlying25 rfl rfl (by kernel_rfl)) ?_
        (first | refine wl_f (f_loadb 0 rfl Tryz.underlying23 rfl rfl rfl) ?_ | refine wl_f (f_loadb 1 rfl Tryz.underlying23 rfl rfl rfl) ?_ | refine wl_f (f_loadb 2 rfl Tryz.underlying23 rfl rfl rfl) ?_ | refine wl_f (f_loadb 3 rfl Tryz.underlying23 rfl rfl rfl) ?_ | refine wl_f (f_loadb 4 rfl Tryz.underlying23 rfl rfl rfl) ?_ | refine wl_f (f_loadb 5 rfl Tryz.underlying23 rfl rfl rfl) ?_ | refine wl_f (f_loadb 6 rfl Tryz.underlying23 rfl rfl rfl) ?_)
        refine wl_f (f_min (r := ((rmin v (l.take (i + 1)) : Nat) : Int)) rfl rfl (by rw [take_snoc' hpi, rmin_snoc]; split <;> omega)) ?_
        refine wl_f (f_assign rfl) ?_
        refine wl_pick [1, 1] rfl ?_
        refine wl_end [(0, _), (1, _), (2, _), (6, _), (26, _), (27, _), (28, _)] ⟨rfl, rfl, rfl, rfl, rfl, rfl, rfl, trivial⟩ ?_
        refine w_reg ?_
        refine wl_f (f_add rfl rfl (by omega)) ?_
        refine wl_f (f_move rfl) ?_
        refine wl_end [(0, _), (1, _), (2, _), (6, _), (26, _), (27, _), (28, _)] ⟨rfl, rfl, rfl, rfl, rfl, rfl, rfl, trivial⟩ ?_
        exact ⟨j - 1, by omega, i + 1, rfl, rfl, by omega⟩
      · skip
        have hi : i = l.length := by
          have : ¬ (i : Int) < (l.length : Int) := hc2
          omega
        subst hi
        rw [List.take_length]
        have hdv := rmin_le v l
        obtain ⟨d, hd⟩ : ∃ d, rmin v l = d := ⟨_, rfl⟩
        rw [hd] at hdv ⊢
        refine w_exit0 ?_
        refine w_seq ?_
        refine w_reg ?_
        refine wl_f (f_move rfl) ?_
        refine wl_f (f_nilCheck rfl) ?_
        refine wl_f (f_fieldAddr 3 rfl Tryz.underlying50 rfl rfl (by kernel_rfl)) ?_
        (first | refine wl_f (f_loadb 0 rfl Tryz.underlying23 rfl rfl rfl) ?_ | refine wl_f (f_loadb 1 rfl Tryz.underlying23 rfl rfl rfl) ?_ | refine wl_f (f_loadb 2 rfl Tryz.underlying23 rfl rfl rfl) ?_ | refine wl_f (f_loadb 3 rfl Tryz.underlying23 rfl rfl rfl) ?_ | refine wl_f (f_loadb 4 rfl Tryz.underlying23 rfl rfl rfl) ?_ | refine wl_f (f_loadb 5 rfl Tryz.underlying23 rfl rfl rfl) ?_ | refine wl_f (f_loadb 6 rfl Tryz.underlying23 rfl rfl rfl) ?_)
        refine wl_f (f_move rfl) ?_
        refine wl_f (f_eqv (v' := .int .u64 ((base + d : Nat) : Int)) (f_addu rfl rfl (by omega)) (by rw [Int.natCast_add])) ?_
        refine wl_f (f_nilCheck rfl) ?_
        refine wl_f (f_fieldAddr 3 rfl Tryz.underlying50 rfl rfl (by kernel_rfl)) ?_
        (first | refine wl_e0 (e_store0 (us := [_]) rfl rfl rfl (by kernel_rfl) (by simp [Value.oneCell']) rfl rfl) ?_ | refine wl_e0 (e_store1 (us := [_]) rfl rfl rfl (by kernel_rfl) (by simp [Value.oneCell']) rfl rfl) ?_ | refine wl_e0 (e_store2 (us := [_]) rfl rfl rfl (by kernel_rfl) (by simp [Value.oneCell']) rfl rfl) ?_ | refine wl_e0 (e_store3 (us := [_]) rfl rfl rfl (by kernel_rfl) (by simp [Value.oneCell']) rfl rfl) ?_)
        rintro _ _ w7_8 rfl
        refine wl_end [(0, _), (1, _), (2, _), (6, _)] ⟨rfl, rfl, rfl, rfl, trivial⟩ ?_
        refine w_seq ?_
        refine w_reg ?_
        refine wl_f (f_move rfl) ?_
        refine wl_f (f_move rfl) ?_
        refine wl_f (f_eqv (v' := .int .u64 ((v - d : Nat) : Int)) (f_subu rfl rfl (by omega)) (by congr 1; omega)) ?_
        refine wl_f (f_assign rfl) ?_
        refine wl_end [(0, _), (1, _), (2, _), (6, _)] ⟨rfl, rfl, rfl, rfl, trivial⟩ ?_
        refine w_seq ?_
        refine w_reg ?_
        refine wl_f (f_assign rfl) ?_
        refine wl_end [(0, _), (1, _), (2, _), (6, _), (9, _)] ⟨rfl, rfl, rfl, rfl, rfl, trivial⟩ ?_
        refine w_seq ?_
        refine w_seq ?_
        refine w_reg ?_
        refine wl_f (f_move rfl) ?_
        refine wl_f (f_nilCheck rfl) ?_
        refine wl_f (f_fieldAddr 2 rfl Tryz.underlying50 rfl rfl (by kernel_rfl)) ?_
        (first | refine wl_f (f_loadb 0 rfl Tryz.underlying45 rfl rfl rfl) ?_ | refine wl_f (f_loadb 1 rfl Tryz.underlying45 rfl rfl rfl) ?_ | refine wl_f (f_loadb 2 rfl Tryz.underlying45 rfl rfl rfl) ?_ | refine wl_f (f_loadb 3 rfl Tryz.underlying45 rfl rfl rfl) ?_ | refine wl_f (f_loadb 4 rfl Tryz.underlying45 rfl rfl rfl) ?_ | refine wl_f (f_loadb 5 rfl Tryz.underlying45 rfl rfl rfl) ?_ | refine wl_f (f_loadb 6 rfl Tryz.underlying45 rfl rfl rfl) ?_)
        refine wl_f (f_len rfl Tryz.underlying45) ?_
        refine wl_f (f_move rfl) ?_
        refine wl_end [(0, _), (1, _), (2, _), (6, _), (9, _), (51, _), (52, _), (53, _)] ⟨rfl, rfl, rfl, rfl, rfl, rfl, rfl, rfl, trivial⟩ ?_
        refine w_block ?_
        refine w_nilrow 25 3 ?_
        refine w_loop (fun j m H w => ∃ (i : Nat) (O : Value), m = [(0, .pointer (some ⟨q, 0, .none⟩)), (1, .string k), (2, .int .u64 ((v - d : Nat) : Int)), (6, .int .u64 (d : Int)), (9, O), (51, .slice L l.length cl), (52, .int .i64 l.length), (53, .int .i64 i)] ∧ H = row O 25 3 (red d (l.take i)).length (encs (red d (l.take i))) :: rts q 2 n l (.slice L l.length cl) (base + d) sum ∧ j + i = l.length) l.length ⟨0, _, rfl, rfl, rfl⟩ ?_
        rintro j _ _ w1 ⟨i, O, rfl, rfl, hj⟩
        refine w_seq ?_
        refine w_reg ?_
        refine wl_f (f_lss rfl rfl) ?_
        refine wl_end [(0, _), (1, _), (2, _), (6, _), (9, _), (51, _), (52, _), (53, _), (54, _)] ⟨rfl, rfl, rfl, rfl, rfl, rfl, rfl, rfl, rfl, trivial⟩ ?_
        refine w_seq ?_
        refine w_ifd rfl (fun hc3 => ?_) (fun hc3 => ?_)
        · skip
          have hi : i < l.length := by
            have : (i : Int) < (l.length : Int) := hc3
            omega
          obtain ⟨p, hpi⟩ : ∃ p, l[i]? = some p := ⟨_, List.getElem?_eq_getElem hi⟩
          have hpu := hls p (List.mem_of_getElem? hpi)
          have hdp : d ≤ p.2.1 := by rw [← hd]; exact rmin_mem v (List.mem_of_getElem? hpi)
          have hrl : (red d (l.take i)).length ≤ 64 := by
            have := red_len d (l.take i)
            rw [List.length_take] at this
            omega
          refine w_with fun hh => ?_
          obtain ⟨g, cap, e⟩ := row_form hh (i := 2) rfl (by omega)
          injection e with e1 _ e3
          subst e1; subst e3
          clear hh
          refine w_skip ?_
          refine w_seq ?_
          refine w_post (fun m' H w' => ∃ O', m' = [(0, .pointer (some ⟨q, 0, .none⟩)), (1, .string k), (2, .int .u64 ((v - d : Nat) : Int)), (6, .int .u64 (d : Int)), (9, O'), (51, .slice (some ⟨g, 0, .none⟩) l.length cl), (52, .int .i64 l.length), (53, .int .i64 i)] ∧ H = row O' 25 3 (red d (l.take (i + 1))).length (encs (red d (l.take (i + 1)))) :: rts q 2 n l (.slice (some ⟨g, 0, .none⟩) l.length cl) (base + d) sum) ?_ ?_
          · skip
            refine w_block ?_
            refine w_seq ?_
            refine w_reg ?_
            refine wl_f (f_indexAddr 3 (i := i) rfl rfl Tryz.underlying45 (by kernel_rfl) rfl hi) ?_
            refine wl_f (f_loadsr (cs := ecell (some p)) 2 rfl Tryz.underlying25 rfl (by kernel_rfl) rfl (encs_get hpi)) ?_
            refine wl_e (e_allocs [.string ByteArray.empty, .int .u64 0, .int .u64 0] (by kernel_rfl)) ?_
            rintro _ _ w12_2 ⟨b12_2, rfl, rfl⟩
            (first | refine wl_e0 (e_store0 (us := [_, _, _]) rfl rfl rfl (by kernel_rfl) (by simp [Value.oneCell']) rfl rfl) ?_ | refine wl_e0 (e_store1 (us := [_, _, _]) rfl rfl rfl (by kernel_rfl) (by simp [Value.oneCell']) rfl rfl) ?_ | refine wl_e0 (e_store2 (us := [_, _, _]) rfl rfl rfl (by kernel_rfl) (by simp [Value.oneCell']) rfl rfl) ?_ | refine wl_e0 (e_store3 (us := [_, _, _]) rfl rfl rfl (by kernel_rfl) (by simp [Value.oneCell']) rfl rfl) ?_)
            rintro _ _ w12_3 rfl
            refine wl_end [(0, _), (1, _), (2, _), (6, _), (9, _), (11, _), (51, _), (52, _), (53, _)] ⟨rfl, rfl, rfl, rfl, rfl, rfl, rfl, rfl, rfl, trivial⟩ ?_
            refine w_seq ?_
            refine w_reg ?_
            refine wl_f (f_fieldAddr 1 rfl Tryz.underlying25 rfl rfl (by kernel_rfl)) ?_
            (first | refine wl_f (f_loadb 0 rfl Tryz.underlying23 rfl rfl rfl) ?_ | refine wl_f (f_loadb 1 rfl Tryz.underlying23 rfl rfl rfl) ?_ | refine wl_f (f_loadb 2 rfl Tryz.underlying23 rfl rfl rfl) ?_ | refine wl_f (f_loadb 3 rfl Tryz.underlying23 rfl rfl rfl) ?_ | refine wl_f (f_loadb 4 rfl Tryz.underlying23 rfl rfl rfl) ?_ | refine wl_f (f_loadb 5 rfl Tryz.underlying23 rfl rfl rfl) ?_ | refine wl_f (f_loadb 6 rfl Tryz.underlying23 rfl rfl rfl) ?_)
            refine wl_f (f_move rfl) ?_
            refine wl_f (f_eqv (v' := .int .u64 ((p.2.1 - d : Nat) : Int)) (f_subu rfl rfl (by omega)) (by congr 1; omega)) ?_
            refine wl_f (f_fieldAddr 1 rfl Tryz.underlying25 rfl rfl (by kernel_rfl)) ?_
            (first | refine wl_e0 (e_store0 (us := [_]) rfl rfl rfl (by kernel_rfl) (by simp [Value.oneCell']) rfl rfl) ?_ | refine wl_e0 (e_store1 (us := [_]) rfl rfl rfl (by kernel_rfl) (by simp [Value.oneCell']) rfl rfl) ?_ | refine wl_e0 (e_store2 (us := [_]) rfl rfl rfl (by kernel_rfl) (by simp [Value.oneCell']) rfl rfl) ?_ | refine wl_e0 (e_store3 (us := [_]) rfl rfl rfl (by kernel_rfl) (by simp [Value.oneCell']) rfl rfl) ?_)
            rintro _ _ w13_5 rfl
            refine wl_end [(0, _), (1, _), (2, _), (6, _), (9, _), (11, _), (51, _), (52, _), (53, _)] ⟨rfl, rfl, rfl, rfl, rfl, rfl, rfl, rfl, rfl, trivial⟩ ?_
            refine w_seq ?_
            refine w_reg ?_
            refine wl_f (f_fieldAddr 1 rfl Tryz.underlying25 rfl rfl (by kernel_rfl)) ?_
            (first | refine wl_f (f_loadb 0 rfl Tryz.underlying23 rfl rfl rfl) ?_ | refine wl_f (f_loadb 1 rfl Tryz.underlying23 rfl rfl rfl) ?_ | refine wl_f (f_loadb 2 rfl Tryz.underlying23 rfl rfl rfl) ?_ | refine wl_f (f_loadb 3 rfl Tryz.underlying23 rfl rfl rfl) ?_ | refine wl_f (f_loadb 4 rfl Tryz.underlying23 rfl rfl rfl) ?_ | refine wl_f (f_loadb 5 rfl Tryz.underlying23 rfl rfl rfl) ?_ | refine wl_f (f_loadb 6 rfl Tryz.underlying23 rfl rfl rfl) ?_)
            refine wl_f (f_gtr rfl rfl) ?_
            refine wl_end [(0, _), (1, _), (2, _), (6, _), (9, _), (11, _), (51, _), (52, _), (53, _), (64, _)] ⟨rfl, rfl, rfl, rfl, rfl, rfl, rfl, rfl, rfl, rfl, trivial⟩ ?_
            refine w_ifd rfl (fun hc4 => ?_) (fun hc4 => ?_)
            · skip
              have hpd : ¬ p.2.1 - d = 0 := by
                have : (0 : Int) < ((p.2.1 - d : Nat) : Int) := hc4
                omega
              refine w_reg ?_
              refine wl_f (f_move rfl) ?_
              (first | refine wl_f (f_loadsb (cs := [_, _, _]) 0 rfl Tryz.underlying25 rfl (by kernel_rfl) rfl rfl) ?_ | refine wl_f (f_loadsb (cs := [_, _, _]) 1 rfl Tryz.underlying25 rfl (by kernel_rfl) rfl rfl) ?_ | refine wl_f (f_loadsb (cs := [_, _, _]) 2 rfl Tryz.underlying25 rfl (by kernel_rfl) rfl rfl) ?_ | refine wl_f (f_loadsb (cs := [_, _, _]) 3 rfl Tryz.underlying25 rfl (by kernel_rfl) rfl rfl) ?_ | refine wl_f (f_loadsb (cs := [_, _, _]) 4 rfl Tryz.underlying25 rfl (by kernel_rfl) rfl rfl) ?_ | refine wl_f (f_loadsb (cs := [_, _, _]) 5 rfl Tryz.underlying25 rfl (by kernel_rfl) rfl rfl) ?_ | refine wl_f (f_loadsb (cs := [_, _, _]) 6 rfl Tryz.underlying25 rfl (by kernel_rfl) rfl rfl) ?_)
              refine wl_e (e_lit1 (cs := [_, _, _]) t45 rfl rfl rfl (by omega)) ?_
              rintro _ _ w15_2 ⟨b15_2, rfl, rfl⟩
              refine wl_e (e_appN 2 t45 rfl rfl rfl (fun w hh => Rd.held0 hh (i := 0) rfl) (by simp [Value.oneCell']) (by omega) (by omega)) ?_
              rintro v2 _ w5 ⟨_, rfl⟩
              refine wl_f (f_assign rfl) ?_
              refine wl_pick [2, 2, 2] rfl ?_
              refine wl_end [(0, _), (1, _), (2, _), (6, _), (9, _), (51, _), (52, _), (53, _)] ⟨rfl, rfl, rfl, rfl, rfl, rfl, rfl, rfl, trivial⟩ ?_
              refine ⟨v2, rfl, ?_⟩
              rw [take_snoc' hpi, red_snoc, if_neg hpd, encs_snoc, List.length_append]
              rfl
            · skip
              have hpd : p.2.1 - d = 0 := by
                have : ¬ (0 : Int) < ((p.2.1 - d : Nat) : Int) := hc4
                omega
              refine w_pick [1, 1, 1] rfl ?_
              refine w_sub [(0, _), (1, _), (2, _), (6, _), (9, _), (51, _), (52, _), (53, _)] ⟨rfl, rfl, rfl, rfl, rfl, rfl, rfl, rfl, trivial⟩ (w_skip ?_)
              refine ⟨O, rfl, ?_⟩
              rw [take_snoc' hpi, red_snoc, if_pos hpd, List.append_nil]
              rfl
          · rintro _ _ w9 ⟨O', rfl, rfl⟩
            refine w_reg ?_
            refine wl_f (f_add rfl rfl (by omega)) ?_
            refine wl_f (f_move rfl) ?_
            refine wl_end [(0, _), (1, _), (2, _), (6, _), (9, _), (51, _), (52, _), (53, _)] ⟨rfl, rfl, rfl, rfl, rfl, rfl, rfl, rfl, trivial⟩ ?_
            exact ⟨j - 1, by omega, i + 1, O', rfl, rfl, by omega⟩
        · skip
          have hi : i = l.length := by
            have : ¬ (i : Int) < (l.length : Int) := hc3
            omega
          subst hi
          rw [List.take_length]
          have hrl := red_len d l
          refine w_with fun hh => ?_
          obtain ⟨O1, o1, rfl⟩ := row_slice hh (i := 0) rfl
          clear hh
          refine w_exit0 ?_
          refine w_reg ?_
          refine wl_f (f_move rfl) ?_
          refine wl_f (f_move rfl) ?_
          refine wl_f (f_nilCheck rfl) ?_
          refine wl_f (f_fieldAddr 2 rfl Tryz.underlying50 rfl rfl (by kernel_rfl)) ?_
          (first | refine wl_e0 (e_store0 (us := [_]) rfl rfl rfl (by kernel_rfl) (by simp [Value.oneCell']) rfl rfl) ?_ | refine wl_e0 (e_store1 (us := [_]) rfl rfl rfl (by kernel_rfl) (by simp [Value.oneCell']) rfl rfl) ?_ | refine wl_e0 (e_store2 (us := [_]) rfl rfl rfl (by kernel_rfl) (by simp [Value.oneCell']) rfl rfl) ?_ | refine wl_e0 (e_store3 (us := [_]) rfl rfl rfl (by kernel_rfl) (by simp [Value.oneCell']) rfl rfl) ?_)
          rintro _ _ w17_4 rfl
          refine wl_pick [1, 0] rfl ?_
          refine wl_end [(0, _), (1, _), (2, _)] ⟨rfl, rfl, rfl, trivial⟩ ?_
          subst hd
          exact ⟨_, _, _, _, rfl, rfl, by omega, .inr ⟨by omega, rfl, rfl, rfl⟩⟩
    · skip
      refine w_sub [(0, _), (1, _), (2, _)] ⟨rfl, rfl, rfl, trivial⟩ (w_skip ?_)
      exact ⟨l, v, base, _, rfl, rfl, by omega, .inl ⟨fun h => hc1 (by rw [h]), rfl, rfl, rfl⟩⟩
  · rintro _ _ w9 ⟨l1, v1, base1, O, rfl, rfl, hl1, hD⟩
    refine w_seq ?_
    refine w_reg ?_
    refine wl_f (f_move rfl) ?_
    refine wl_f (f_gtr rfl rfl) ?_
    refine wl_end [(0, _), (1, _), (2, _), (75, _)] ⟨rfl, rfl, rfl, rfl, trivial⟩ ?_
    refine w_ifd rfl (fun hc5 => ?_) (fun hc5 => ?_)
    · skip
      have hv1 : 0 < v1 := by
        have : (0 : Int) < (v1 : Int) := hc5
        omega
      refine w_reg ?_
      refine wl_f (f_move rfl) ?_
      refine wl_f (f_move rfl) ?_
      refine wl_f (f_nilCheck rfl) ?_
      refine wl_f (f_fieldAddr 2 rfl Tryz.underlying50 rfl rfl (by kernel_rfl)) ?_
      (first | refine wl_f (f_loadb 0 rfl Tryz.underlying45 rfl rfl rfl) ?_ | refine wl_f (f_loadb 1 rfl Tryz.underlying45 rfl rfl rfl) ?_ | refine wl_f (f_loadb 2 rfl Tryz.underlying45 rfl rfl rfl) ?_ | refine wl_f (f_loadb 3 rfl Tryz.underlying45 rfl rfl rfl) ?_ | refine wl_f (f_loadb 4 rfl Tryz.underlying45 rfl rfl rfl) ?_ | refine wl_f (f_loadb 5 rfl Tryz.underlying45 rfl rfl rfl) ?_ | refine wl_f (f_loadb 6 rfl Tryz.underlying45 rfl rfl rfl) ?_)
      refine wl_f (f_move rfl) ?_
      refine wl_f (f_move rfl) ?_
      refine wl_f (f_build rfl (fun w => build_entry2 _ _ w)) ?_
      refine wl_e (e_lit1 (cs := [_, _, _]) t45 rfl rfl rfl (by omega)) ?_
      rintro _ _ w19_8 ⟨b19_8, rfl, rfl⟩
      refine wl_e (e_appN 2 t45 rfl rfl rfl (fun w hh => Rd.held0 hh (i := 0) rfl) (by simp [Value.oneCell']) (by omega) (by omega)) ?_
      rintro _ _ w5 ⟨⟨U2, u2, rfl⟩, rfl⟩
      refine wl_f (f_nilCheck rfl) ?_
      refine wl_f (f_fieldAddr 2 rfl Tryz.underlying50 rfl rfl (by kernel_rfl)) ?_
      (first | refine wl_e0 (e_store0 (us := [_]) rfl rfl rfl (by kernel_rfl) (by simp [Value.oneCell']) rfl rfl) ?_ | refine wl_e0 (e_store1 (us := [_]) rfl rfl rfl (by kernel_rfl) (by simp [Value.oneCell']) rfl rfl) ?_ | refine wl_e0 (e_store2 (us := [_]) rfl rfl rfl (by kernel_rfl) (by simp [Value.oneCell']) rfl rfl) ?_ | refine wl_e0 (e_store3 (us := [_]) rfl rfl rfl (by kernel_rfl) (by simp [Value.oneCell']) rfl rfl) ?_)
      rintro _ _ w19_12 rfl
      refine wl_pick [1, 1] rfl ?_
      refine wl_end [] trivial ?_
      refine ⟨_, _, fun a ha hh => results_tmps (l := []) Tryz.results38 rfl a ha _, List.Sublist.refl _, ?_⟩
      refine ⟨l1 ++ [(k, v1, 0)], base1, .slice U2 (l1.length + 1) u2, ?_, ?_⟩
      · rw [rts, encs_snoc, List.length_append]
        rfl
      · rcases hD with ⟨h1, rfl, rfl, rfl⟩ | ⟨h1, rfl, rfl, rfl⟩
        · exact .inl ⟨h1, rfl, rfl⟩
        · exact .inr ⟨h1, rfl, by rw [if_pos (by omega)]⟩
    · skip
      have hv1 : v1 = 0 := by
        have : ¬ (0 : Int) < (v1 : Int) := hc5
        omega
      refine w_skip ?_
      refine ⟨_, _, fun a ha hh => results_tmps (l := []) Tryz.results38 rfl a ha _, List.Sublist.refl _, ?_⟩
      refine ⟨l1, base1, O, rfl, ?_⟩
      rcases hD with ⟨h1, rfl, rfl, rfl⟩ | ⟨h1, rfl, rfl, rfl⟩
      · exact absurd hv1 hv0
      · exact .inr ⟨h1, rfl, by rw [if_neg (by omega), List.append_nil]⟩
end Go.Proofs.YtbcfdgnpdaaleaaGreat
