/- The proof kit, sixth part: what comes in with a call of a law, and the step to the given row. -/
import Derived.Test.YtkoklfagmbaapaaK5
import Derived.ProofKit
import Derived.Deep.Slices
namespace Go.Proofs.Ytkoklfagmbaapaa
open Go.RowKit Go.WideShapes Go.ChangeShapes

/-! ### Sizes -/
section
variable {H : Type} {P : Program}

theorem weightsAll_mem {e : TypeId} : ∀ {ds : List (DataW H)} {d : DataW H} {x : Nat}, d ∈ ds → x ∈ d.weights P e → x ∈ DataW.weightsAll P e ds
  | [], _, _, h, _ => by cases h
  | c :: ds, d, x, h, hx => by
    rw [DataW.weightsAll, List.mem_append]
    rcases List.mem_cons.1 h with rfl | h
    · exact .inl hx
    · exact .inr (weightsAll_mem h hx)

theorem weightsEach_mem : ∀ {ts : List TypeId} {ds : List (DataW H)} {i : Nat} {t : TypeId} {d : DataW H} {x : Nat}, ts[i]? = some t → ds[i]? = some d → x ∈ d.weights P t → x ∈ DataW.weightsEach P ts ds
  | [], _, _, _, _, _, h, _, _ => by simp at h
  | _ :: _, [], _, _, _, _, _, h, _ => by simp at h
  | s :: ts, c :: ds, 0, t, d, x, h1, h2, hx => by
    simp at h1 h2
    subst h1; subst h2
    rw [DataW.weightsEach, List.mem_append]
    exact .inl hx
  | s :: ts, c :: ds, i + 1, t, d, x, h1, h2, hx => by
    rw [DataW.weightsEach, List.mem_append]
    exact .inr (weightsEach_mem (by simpa using h1) (by simpa using h2) hx)
end

/-! ### What a value reads as -/
section
variable {H : Type} (enc : TypeId × Value → H) (P : Program) (w : World)

/-- The cells read as a value of the type, no part of which is too large. -/
def Arg (t : TypeId) (cs : List Value) : Prop :=
  ∃ (fuel : Nat) (d : DataW H) (ps : List MemPlace), DataW.trod enc P w 0 (fun _ => true) true fuel t cs = some (d, ps) ∧ ∀ x ∈ d.weights P t, x ≤ reachBytes

variable {enc} {P} {w}

theorem arg_int {t : TypeId} {k : IntKind} {cs : List Value} (ht : P.underlying t = some (.int k)) (h : Arg enc P w t cs) : ∃ n, cs = [.int k n] ∧ (Lit.int k n).wf = true := by
  obtain ⟨fuel, d, ps, h, _⟩ := h
  obtain ⟨n, h1, _, h3⟩ := DataW.trod_int ht h
  exact ⟨n, h1, h3⟩
theorem arg_bool {t : TypeId} {cs : List Value} (ht : P.underlying t = some .bool) (h : Arg enc P w t cs) : ∃ b, cs = [.bool b] := by
  obtain ⟨fuel, d, ps, h, _⟩ := h
  obtain ⟨n, h1, _⟩ := DataW.trod_bool ht h
  exact ⟨n, h1⟩
theorem arg_string {t : TypeId} {cs : List Value} (ht : P.underlying t = some .string) (h : Arg enc P w t cs) : ∃ s : ByteArray, cs = [.string s] ∧ s.size ≤ 140737488351232 := by
  obtain ⟨fuel, d, ps, h, hw⟩ := h
  obtain ⟨s, h1, h2, _⟩ := DataW.trod_string ht h
  simp only [Prod.mk.injEq] at h2
  refine ⟨s, h1, ?_⟩
  have := hw s.data.toList.length (by rw [h2.1]; simp [DataW.weights])
  simp only [reachBytes, Array.length_toList] at this
  exact this
theorem arg_struct {t : TypeId} {fs : Array Field} {cs : List Value} (ht : P.underlying t = some (.struct fs)) (h : Arg enc P w t cs) :
    cs.length = P.cellsOf t ∧ ∀ (i : Nat) (f : Field), fs[i]? = some f → Arg enc P w f.type ((cs.drop f.offset).take (P.cellsOf f.type)) := by
  obtain ⟨fuel, d, ps, h, hw⟩ := h
  obtain ⟨xs, n, _, hx, hl, hlen, hg⟩ := DataW.trod_struct ht h
  simp only [Prod.mk.injEq] at hx
  refine ⟨hl, fun i f hf => ?_⟩
  have hi : i < xs.length := by have := (Array.getElem?_eq_some_iff.1 hf).1; omega
  refine ⟨n, xs[i].1, xs[i].2, by rw [hg i f hf, List.getElem?_eq_getElem hi], fun x hx' => hw x ?_⟩
  rw [hx.1]
  simp only [DataW.weights, ht]
  exact weightsEach_mem (i := i) (t := f.type) (d := xs[i].1) (by simp [hf]) (by simp [hi]) hx'

/-- A slice: n elements of sz cells. -/
theorem arg_slice {t e : TypeId} {sz bytes : Nat} {cs : List Value} (ht : P.underlying t = some (.slice e)) (hsz : P.cellsOf e = sz) (hpos : 0 < sz) (hby : P.bytesOf e = bytes) (h : Arg enc P w t cs) :
    ∃ A n c xs, cs = [.slice A n c] ∧ Rd w Nil sz (.slice A n c) n xs ∧ n * bytes ≤ 140737488351232 ∧ n ≤ maxLen ∧ ∀ i, i < n → Arg enc P w e ((xs.drop (i * sz)).take sz) := by
  obtain ⟨fuel, d, ps, h, hw⟩ := h
  rcases Go.Deep.open_slice ht h with ⟨rfl, _⟩ | ⟨a, len, cap, m, n, D, Pl, rfl, _, hl, hm, hmm, hx, hi⟩
  · exact ⟨.none, 0, 0, [], rfl, Rd.nil _ _ _, by omega, by simp [maxLen], by simp⟩
  · simp only [if_true] at hmm
    subst hmm
    rw [hsz] at hi
    simp only [Prod.mk.injEq] at hx
    have hlw : ∀ x ∈ (DataW.slice ((List.range len).map D) ((List.range (m - len)).map fun j => D (len + j))).weights P t, x ≤ reachBytes := by rw [← hx.1]; exact hw
    simp only [DataW.weights, ht] at hlw
    have hb := hlw _ (List.mem_cons_self ..)
    simp only [List.length_map, List.length_range, reachBytes, hby] at hb
    have hcell : ∀ j, j < len * sz → ∃ u, w.cell? (a.add j) = some u := fun j hj => by
      obtain ⟨cs', h1, _⟩ := hi (j / sz) (Nat.lt_of_lt_of_le ((Nat.div_lt_iff_lt_mul hpos).2 hj) hl)
      obtain ⟨_, h2, h3⟩ := World.cells?_some h1
      have h4 := h3 (j % sz) (Nat.mod_lt _ hpos)
      rw [Go.Deep.add_add, Nat.mul_comm, Nat.div_add_mod] at h4
      rw [h4, List.getElem?_eq_getElem (by rw [h2]; exact Nat.mod_lt _ hpos)]
      exact ⟨_, rfl⟩
    refine ⟨some a, len, m, (List.range (len * sz)).map fun j => (w.cell? (a.add j)).getD undef, rfl, ⟨some a, m, rfl, by simp, hl, ?_⟩, ?_, by omega, fun i hil => ?_⟩
    · rcases Nat.eq_zero_or_pos len with h0 | h0
      · exact .inl h0
      · right
        obtain ⟨u0, hu0⟩ := hcell 0 (Nat.mul_pos h0 hpos)
        have hspot : a.spot = .none := by
          rw [show a.add 0 = a by unfold Addr.add; simp] at hu0
          unfold World.cell? at hu0
          split at hu0
          · split at hu0
            · cases hu0
            · rename_i hs; simpa using hs
          · cases hu0
        obtain ⟨ab, ao, as⟩ := a
        simp only at hspot
        subst hspot
        refine ⟨ab, ao, rfl, id, ?_, fun j u hu => ?_⟩
        · rw [show (⟨ab, ao, .none⟩ : Addr).add 0 = ⟨ab, ao, .none⟩ by unfold Addr.add; simp] at hu0
          exact World.block_lt_of_cell? w _ hu0
        · have hj : j < len * sz := by
            have := (List.getElem?_eq_some_iff.1 hu).1
            simpa using this
          obtain ⟨u', hu'⟩ := hcell j hj
          simp [hj, hu'] at hu
          subst hu
          rwa [add_eq] at hu'
    · have : len * bytes ≤ (len + (m - len)) * bytes := Nat.mul_le_mul_right _ (by omega)
      omega
    · obtain ⟨cs', h1, h2⟩ := hi i (by omega)
      obtain ⟨_, hcl, hat⟩ := World.cells?_some h1
      have he : (((List.range (len * sz)).map fun j => (w.cell? (a.add j)).getD undef).drop (i * sz)).take sz = cs' := by
        apply List.ext_getElem?
        intro j
        rw [List.getElem?_take]
        by_cases hj : j < sz
        · rw [if_pos hj, List.getElem?_drop]
          have hlt : i * sz + j < len * sz := by
            have : (i + 1) * sz ≤ len * sz := Nat.mul_le_mul_right _ hil
            rw [Nat.add_mul] at this
            omega
          have h3 := hat j hj
          rw [Go.Deep.add_add] at h3
          rw [List.getElem?_eq_getElem (show j < cs'.length by omega)] at h3 ⊢
          simp [hlt, h3]
        · rw [if_neg hj, List.getElem?_eq_none (by omega)]
      rw [he]
      refine ⟨n, D i, Pl i, h2, fun x hx' => hlw x ?_⟩
      refine List.mem_cons_of_mem _ (List.mem_append_left _ (weightsAll_mem ?_ hx'))
      simp only [List.mem_map, List.mem_range]
      exact ⟨i, hil, rfl⟩

/-- .. of elements of one cell each. -/
theorem arg_slice1 {t e : TypeId} {bytes : Nat} {cs : List Value} (ht : P.underlying t = some (.slice e)) (hsz : P.cellsOf e = 1) (hby : P.bytesOf e = bytes) (h : Arg enc P w t cs) :
    ∃ A n c xs, cs = [.slice A n c] ∧ Rd w Nil 1 (.slice A n c) n xs ∧ xs.length = n ∧ n * bytes ≤ 140737488351232 ∧ n ≤ maxLen ∧ ∀ u ∈ xs, Arg enc P w e [u] := by
  obtain ⟨A, n, c, xs, h1, h2, h3, h4, h5⟩ := arg_slice ht hsz (by omega) hby h
  have hl : xs.length = n := by obtain ⟨_, _, _, h, _⟩ := h2; omega
  refine ⟨A, n, c, xs, h1, h2, hl, h3, h4, fun u hu => ?_⟩
  obtain ⟨i, hi, rfl⟩ := List.getElem_of_mem hu
  have := h5 i (by omega)
  rw [Nat.mul_one] at this
  rwa [List.drop_eq_getElem_cons hi] at this

/-- A slice of integers. -/
theorem arg_ints {t e : TypeId} {bytes : Nat} {k : IntKind} {cs : List Value} (ht : P.underlying t = some (.slice e)) (he : P.underlying e = some (.int k)) (hsz : P.cellsOf e = 1) (hby : P.bytesOf e = bytes) (h : Arg enc P w t cs) :
    ∃ A c zs, cs = [.slice A (zs : List Int).length c] ∧ Rd w Nil 1 (.slice A zs.length c) zs.length (zs.map (Value.int k)) ∧ zs.length * bytes ≤ 140737488351232 ∧ zs.length ≤ maxLen ∧ ∀ z ∈ zs, (Lit.int k z).wf = true := by
  obtain ⟨A, n, c, xs, h1, h2, h3, h4, h5, h6⟩ := arg_slice1 ht hsz hby h
  have : ∀ xs : List Value, (∀ u ∈ xs, Arg enc P w e [u]) → ∃ zs : List Int, xs = zs.map (Value.int k) ∧ ∀ z ∈ zs, (Lit.int k z).wf = true := by
    intro xs
    induction xs with
    | nil => exact fun _ => ⟨[], rfl, by simp⟩
    | cons u xs ih =>
      intro hu
      obtain ⟨z, hz, hwf⟩ := arg_int he (hu u (List.mem_cons_self ..))
      obtain ⟨zs, rfl, hzs⟩ := ih fun v hv => hu v (List.mem_cons_of_mem _ hv)
      simp at hz
      subst hz
      exact ⟨z :: zs, rfl, fun y hy => (List.mem_cons.1 hy).elim (fun e => e ▸ hwf) (hzs y)⟩
  obtain ⟨zs, rfl, hzs⟩ := this xs h6
  simp only [List.length_map] at h3
  subst h3
  exact ⟨A, c, zs, h1, h2, h4, h5, hzs⟩

/-- A slice of strings. -/
theorem arg_strings {t e : TypeId} {cs : List Value} (ht : P.underlying t = some (.slice e)) (he : P.underlying e = some .string) (hsz : P.cellsOf e = 1) (hby : P.bytesOf e = 16) (h : Arg enc P w t cs) :
    ∃ A c l, cs = [.slice A (l : List ByteArray).length c] ∧ Rd w Nil 1 (.slice A l.length c) l.length (l.map Value.string) ∧ l.length * 16 ≤ 140737488351232 ∧ ∀ s ∈ l, s.size ≤ 140737488351232 := by
  obtain ⟨A, n, c, xs, h1, h2, h3, h4, _, h6⟩ := arg_slice1 ht hsz hby h
  have : ∀ xs : List Value, (∀ u ∈ xs, Arg enc P w e [u]) → ∃ l : List ByteArray, xs = l.map Value.string ∧ ∀ s ∈ l, s.size ≤ 140737488351232 := by
    intro xs
    induction xs with
    | nil => exact fun _ => ⟨[], rfl, by simp⟩
    | cons u xs ih =>
      intro hu
      obtain ⟨z, hz, hwf⟩ := arg_string he (hu u (List.mem_cons_self ..))
      obtain ⟨zs, rfl, hzs⟩ := ih fun v hv => hu v (List.mem_cons_of_mem _ hv)
      simp at hz
      subst hz
      exact ⟨z :: zs, rfl, fun y hy => (List.mem_cons.1 hy).elim (fun e => e ▸ hwf) (hzs y)⟩
  obtain ⟨l, rfl, hl⟩ := this xs h6
  simp only [List.length_map] at h3
  subst h3
  exact ⟨A, c, l, h1, h2, h4, hl⟩

/-- A slice of structs of two strings each. -/
theorem arg_pairs {t e : TypeId} {f0 f1 : Field} {cs : List Value} (ht : P.underlying t = some (.slice e)) (he : P.underlying e = some (.struct #[f0, f1])) (hsz : P.cellsOf e = 2) (hby : P.bytesOf e = 32)
    (k0 : P.underlying f0.type = some .string) (k1 : P.underlying f1.type = some .string) (o0 : f0.offset = 0) (o1 : f1.offset = 1) (c0 : P.cellsOf f0.type = 1) (c1 : P.cellsOf f1.type = 1) (h : Arg enc P w t cs) :
    ∃ A c l, cs = [.slice A (l : List (ByteArray × ByteArray)).length c] ∧ Rd w Nil 2 (.slice A l.length c) l.length (l.flatMap fun t => [.string t.1, .string t.2]) ∧ l.length * 32 ≤ 140737488351232 ∧
      ∀ s ∈ l, s.1.size ≤ 140737488351232 ∧ s.2.size ≤ 140737488351232 := by
  obtain ⟨A, n, c, xs, h1, h2, h4, _, h6⟩ := arg_slice ht hsz (by omega) hby h
  have hxl : xs.length = n * 2 := by obtain ⟨_, _, _, h, _⟩ := h2; exact h
  have : ∀ (n : Nat) (xs : List Value), xs.length = n * 2 → (∀ i, i < n → Arg enc P w e ((xs.drop (i * 2)).take 2)) → ∃ l : List (ByteArray × ByteArray), l.length = n ∧ xs = (l.flatMap fun t => [.string t.1, .string t.2]) ∧
      ∀ s ∈ l, s.1.size ≤ 140737488351232 ∧ s.2.size ≤ 140737488351232 := by
    intro n
    induction n with
    | zero => exact fun xs hx _ => ⟨[], rfl, by simpa using hx, by simp⟩
    | succ n ih =>
      intro xs hx hu
      match xs, hx with
      | [_], hx => simp at hx; omega
      | a :: b :: xs, hx =>
        obtain ⟨l, hl, hxs, hs⟩ := ih xs (by simp at hx; omega) fun i hi => by
          have := hu (i + 1) (by omega)
          rwa [show (i + 1) * 2 = i * 2 + 1 + 1 by omega, List.drop_succ_cons, List.drop_succ_cons] at this
        have h0 := hu 0 (by omega)
        simp only [Nat.zero_mul, List.drop_zero, List.take_succ_cons, List.take_zero] at h0
        obtain ⟨_, hf⟩ := arg_struct he h0
        obtain ⟨s, e1, e2⟩ := arg_string k0 (by simpa [o0, c0] using hf 0 f0 rfl)
        obtain ⟨r, e3, e4⟩ := arg_string k1 (by simpa [o1, c1] using hf 1 f1 rfl)
        simp at e1 e3
        subst e1; subst e3
        exact ⟨(s, r) :: l, by simp [hl], by simp [hxs], fun y hy => (List.mem_cons.1 hy).elim (fun e => e ▸ ⟨e2, e4⟩) (hs y)⟩
  obtain ⟨l, hl, rfl, hs⟩ := this n xs hxl h6
  subst hl
  exact ⟨A, c, l, h1, h2, h4, hs⟩
end

/-! ### The parameters -/
section
variable {H : Type} (enc : TypeId × Value → H) (P : Program) (w : World)

def Par (t : TypeId) (v : Value) : Prop := (∃ b, Value.okWide P w .any b t v) ∧ Arg enc P w t v.cells.toList
def Pars : List TypeId → List Value → Prop
  | [], [] => True
  | t :: ts, v :: vs => Par enc P w t v ∧ Pars ts vs
  | _, _ => False

variable {enc} {P} {w}
theorem pars_cons {t : TypeId} {ts : List TypeId} {vs : List Value} (h : Pars enc P w (t :: ts) vs) : ∃ v vs', vs = v :: vs' ∧ Par enc P w t v ∧ Pars enc P w ts vs' := by
  cases vs with
  | nil => cases h
  | cons v vs => exact ⟨v, vs, rfl, h⟩
theorem pars_nil {vs : List Value} (h : Pars enc P w [] vs) : vs = [] := by
  cases vs with
  | nil => rfl
  | cons v vs => cases h

theorem par_cell {t : TypeId} {v u : Value} (h : Par enc P w t v) (hs : ∀ fs, P.underlying t ≠ some (.struct fs)) (ha : ∀ n e, P.underlying t ≠ some (.array n e)) (hu : v.cells.toList = [u]) : v = u := by
  obtain ⟨⟨b, hv⟩, _⟩ := h
  unfold Value.okWide at hv
  split at hv
  · exact absurd ‹_› (hs _)
  · exact absurd ‹_› (ha _ _)
  · cases v with
    | agg cs =>
      exfalso
      unfold Cell.okWide at hv
      split at hv <;> simp_all [Cell.ok]
    | _ => simpa [Value.cells] using hu
theorem par_int {t : TypeId} {k : IntKind} {v : Value} (ht : P.underlying t = some (.int k)) (h : Par enc P w t v) : ∃ n, v = .int k n ∧ (Lit.int k n).wf = true := by
  obtain ⟨n, h1, h2⟩ := arg_int ht h.2
  exact ⟨n, par_cell h (by simp [ht]) (by simp [ht]) h1, h2⟩
theorem par_bool {t : TypeId} {v : Value} (ht : P.underlying t = some .bool) (h : Par enc P w t v) : ∃ b, v = .bool b := by
  obtain ⟨n, h1⟩ := arg_bool ht h.2
  exact ⟨n, par_cell h (by simp [ht]) (by simp [ht]) h1⟩
theorem par_string {t : TypeId} {v : Value} (ht : P.underlying t = some .string) (h : Par enc P w t v) : ∃ s : ByteArray, v = .string s ∧ s.size ≤ 140737488351232 := by
  obtain ⟨n, h1, h2⟩ := arg_string ht h.2
  exact ⟨n, par_cell h (by simp [ht]) (by simp [ht]) h1, h2⟩
theorem par_slice {t e : TypeId} {v u : Value} (ht : P.underlying t = some (.slice e)) (h : Par enc P w t v) (hu : v.cells.toList = [u]) : v = u := par_cell h (by simp [ht]) (by simp [ht]) hu
theorem par_struct {t : TypeId} {fs : Array Field} {v : Value} (ht : P.underlying t = some (.struct fs)) (h : Par enc P w t v) : ∃ cs : Array Value, v = .agg cs ∧ cs.size = P.cellsOf t ∧
    ∀ (i : Nat) (f : Field), fs[i]? = some f → Arg enc P w f.type ((cs.toList.drop f.offset).take (P.cellsOf f.type)) := by
  obtain ⟨⟨b, hv⟩, ha⟩ := h
  obtain ⟨cs, rfl, hs⟩ := okWide_struct ht hv
  exact ⟨cs, rfl, hs, (arg_struct ht ha).2⟩
theorem par_ints {t e : TypeId} {bytes : Nat} {k : IntKind} {v : Value} (ht : P.underlying t = some (.slice e)) (he : P.underlying e = some (.int k)) (hsz : P.cellsOf e = 1) (hby : P.bytesOf e = bytes) (h : Par enc P w t v) :
    ∃ A c zs, v = .slice A (zs : List Int).length c ∧ Rd w Nil 1 (.slice A zs.length c) zs.length (zs.map (Value.int k)) ∧ zs.length * bytes ≤ 140737488351232 ∧ zs.length ≤ maxLen ∧ ∀ z ∈ zs, (Lit.int k z).wf = true := by
  obtain ⟨A, c, zs, h1, h2⟩ := arg_ints ht he hsz hby h.2
  exact ⟨A, c, zs, par_slice ht h h1, h2⟩
theorem par_strings {t e : TypeId} {v : Value} (ht : P.underlying t = some (.slice e)) (he : P.underlying e = some .string) (hsz : P.cellsOf e = 1) (hby : P.bytesOf e = 16) (h : Par enc P w t v) :
    ∃ A c l, v = .slice A (l : List ByteArray).length c ∧ Rd w Nil 1 (.slice A l.length c) l.length (l.map Value.string) ∧ l.length * 16 ≤ 140737488351232 ∧ ∀ s ∈ l, s.size ≤ 140737488351232 := by
  obtain ⟨A, c, zs, h1, h2⟩ := arg_strings ht he hsz hby h.2
  exact ⟨A, c, zs, par_slice ht h h1, h2⟩
theorem par_pairs {t e : TypeId} {f0 f1 : Field} {v : Value} (ht : P.underlying t = some (.slice e)) (he : P.underlying e = some (.struct #[f0, f1])) (hsz : P.cellsOf e = 2) (hby : P.bytesOf e = 32)
    (k0 : P.underlying f0.type = some .string) (k1 : P.underlying f1.type = some .string) (o0 : f0.offset = 0) (o1 : f1.offset = 1) (c0 : P.cellsOf f0.type = 1) (c1 : P.cellsOf f1.type = 1) (h : Par enc P w t v) :
    ∃ A c l, v = .slice A (l : List (ByteArray × ByteArray)).length c ∧ Rd w Nil 2 (.slice A l.length c) l.length (l.flatMap fun t => [.string t.1, .string t.2]) ∧ l.length * 32 ≤ 140737488351232 ∧
      ∀ s ∈ l, s.1.size ≤ 140737488351232 ∧ s.2.size ≤ 140737488351232 := by
  obtain ⟨A, c, zs, h1, h2⟩ := arg_pairs ht he hsz hby k0 k1 o0 o1 c0 c1 h.2
  exact ⟨A, c, zs, par_slice ht h h1, h2⟩

/-- Bytes, as numbers. -/
theorem u8_nats : ∀ zs : List Int, (∀ z ∈ zs, (Lit.int .u8 z).wf = true) → ∃ l : List Nat, zs = l.map Int.ofNat ∧ l.length = zs.length ∧ ∀ b ∈ l, b < 256
  | [], _ => ⟨[], rfl, rfl, by simp⟩
  | z :: zs, h => by
    obtain ⟨l, hl, hn, hb⟩ := u8_nats zs fun y hy => h y (List.mem_cons_of_mem _ hy)
    have hz := h z (List.mem_cons_self ..)
    simp [Lit.wf, IntKind.min, IntKind.max, IntKind.signed, IntKind.bits] at hz
    refine ⟨z.toNat :: l, ?_, by simp [hn], fun y hy => ?_⟩
    · rw [hl, List.map_cons]
      congr 1
      show z = (z.toNat : Int)
      omega
    · rcases List.mem_cons.1 hy with rfl | hy
      · omega
      · exact hb y hy
end

/-! ### The row -/
section
variable {H : Type} {enc : TypeId × Value → H}

theorem pars_of {P : Program} {w : World} : ∀ {ts : List TypeId} {vs : List Value} {ds : List (DataW H)} {ps : List MemPlace},
    (∀ (j : Nat) t v, ts[j]? = some t → vs[j]? = some v → ∃ b, Value.okWide P w .any b t v) → DataW.TrodAll enc P w 0 (fun _ => true) true ts vs ds ps → (∀ x ∈ DataW.weightsEach P ts ds, x ≤ reachBytes) → Pars enc P w ts vs
  | [], vs, ds, ps, _, h, _ => by
    obtain ⟨rfl, _, _⟩ := trodAll_nil h
    trivial
  | t :: ts, vs, ds, ps, hv, h, hx => by
    obtain ⟨v, vs', d, ds', p, q, rfl, rfl, rfl, ⟨fuel, h1⟩, h2⟩ := trodAll_cons h
    rw [DataW.weightsEach] at hx
    exact ⟨⟨hv 0 t v rfl rfl, fuel, d, p, h1, fun x h => hx x (List.mem_append_left _ h)⟩,
      pars_of (fun j t' v' e1 e2 => hv (j + 1) t' v' (by simpa using e1) (by simpa using e2)) h2 fun x h => hx x (List.mem_append_right _ h)⟩

theorem trodAll_stays {P : Program} (hl : laidOutB P = true) {W W' : World} (hb : Below W.heap.size W W') {sp : Nat → Bool} : ∀ {ts : List TypeId} {vs : List Value} {ds : List (DataW H)} {ps : List MemPlace},
    (∀ t ∈ ts, P.readableRec t = true ∧ t < P.types.size) → DataW.TrodAll enc P W 0 (fun _ => true) true ts vs ds ps → (∀ x ∈ ps, x.block < W.heap.size) → (∀ x ∈ ps, sp x.block = true) → DataW.TrodAll enc P W' 0 sp true ts vs ds ps
  | [], vs, ds, ps, _, h, _, _ => by
    obtain ⟨rfl, rfl, rfl⟩ := trodAll_nil h
    rfl
  | t :: ts, vs, ds, ps, hr, h, hlt, hs => by
    obtain ⟨v, vs', d, ds', p, q, rfl, rfl, rfl, h1, h2⟩ := trodAll_cons h
    obtain ⟨r1, r2⟩ := hr t (List.mem_cons_self ..)
    exact ⟨p, q, WideElems.Trod_stays hl r1 r2 h1 (fun x hx => hb.same (hlt x (List.mem_append_left _ hx))) (fun x hx => hs x (List.mem_append_left _ hx)),
      trodAll_stays hl hb (fun t ht => hr t (List.mem_cons_of_mem _ ht)) h2 (fun x hx => hlt x (List.mem_append_right _ hx)) (fun x hx => hs x (List.mem_append_right _ hx)), rfl⟩

/-- A law that is true whatever comes in, and leaves what came in as it was. -/
theorem lifted_true {C : Checked} {os : Os} {n : FuncId} {fn : Func} {s : ChangeSpec} {fresh handsOn : Bool} {tb : TypeId}
    (own : ownKnob C.prog.godebug = none) (started : os.Started) (noInit : C.prog.inits.idxOf? n = none) (hfn : C.prog.funcs[n]? = some fn)
    (witness : ∃ (w : World) (tape : Tape) (i : Input), w.os = os ∧ (w.forCall tape i).Shaped C.prog ∧ i.vars = [] ∧ Input.okWide C.prog (w.forCall tape i) .any w.heap.size n i ∧
      s.pre6 enc C.prog fn [] false (w.forCall tape i).memory i.args ∧ ({} : Assume).holds C.prog (lone (Frame.enter C.prog n i.args .normal) [] (w.forCall tape i)))
    (hvars : s.vars = []) (hs : ∀ ds : List (DataW H), ds.length = fn.params.size → s.fn H ds = { results := [.lit (.bool true)], args := ds })
    (hl : laidOutB C.prog = true) (hr : fn.params.toList.all (fun t => C.prog.readableRec t && decide (t < C.prog.types.size)) = true) (hres : fn.resultTypes = #[tb]) (htb : C.prog.underlying tb = some .bool)
    (h : ∀ (W : World) (args : List Value), Pars enc C.prog W fn.params.toList args → Spec C.prog n args W Nil fun r _ => r = .bool true) :
    ReturnsInHanded {} C os n .any (s.pre6 enc C.prog fn [] false) (s.post enc C.prog fn false fresh handsOn false) := by
  refine returnsInHanded_of_change_sized own started noInit hfn witness ?_
  intro W base args ds gs before hval hW _ hsz _
  have hW' := hW
  obtain ⟨p, q, hA, hV, rfl, hfz, hnd⟩ := hW
  rw [hvars] at hV
  obtain ⟨rfl, rfl⟩ := trodVars_none hV
  have hvt : s.plain.varTypes C.prog = [] := by simp [DataSpec.varTypes, ChangeSpec.plain, hvars]
  rw [hvt, List.append_nil, List.append_nil] at hsz
  have hP : Pars enc C.prog W fn.params.toList args.toList :=
    pars_of (fun j t v e1 e2 => ⟨base, hval j t v (by simpa using e1) (by simpa using e2)⟩) hA fun x hx => by
      have := List.all_eq_true.1 hsz x hx
      simpa using this
  have hlt : ∀ x ∈ p, x.block < W.heap.size := fun x hx => hW'.lt x (List.mem_append_left _ hx)
  have hspec := h W args.toList hP
  unfold Spec at hspec
  rw [show args.toList.toArray = args from rfl] at hspec
  refine hspec.mono fun e W' ⟨v, H1, he, hh, hv⟩ => ⟨v, he, ?_⟩
  subst hv
  have hb : Below W.heap.size W W' := hh.1.below
  have hdl : ds.length = fn.params.size := by
    have : ∀ {ts : List TypeId} {vs : List Value} {ds : List (DataW H)} {ps : List MemPlace}, DataW.TrodAll enc C.prog W 0 (fun _ => true) true ts vs ds ps → ds.length = ts.length := by
      intro ts
      induction ts with
      | nil => intro vs ds ps h; obtain ⟨_, rfl, _⟩ := trodAll_nil h; rfl
      | cons t ts ih => intro vs ds ps h; obtain ⟨_, _, _, _, _, _, _, rfl, _, _, h2⟩ := trodAll_cons h; simp [ih h2]
    simpa using this hA
  have hrl : (Value.bool true).resultList fn.resultTypes.size = [.bool true] := by rw [hres]; rfl
  refine ⟨ds, [], p ++ [], [], p, [], hW', ?_, ?_, ?_, ?_, fun h => by cases h⟩
  · rw [List.append_nil, hs ds hdl, hrl, hres]
    exact trodAll_mk1 (shut_bool htb true)
  · rw [List.append_nil, hs ds hdl]
    exact trodAll_stays hl hb (fun t ht => by simpa only [Bool.and_eq_true, decide_eq_true_eq] using List.all_eq_true.1 hr t ht) hA hlt fun x hx => by simpa using hlt x hx
  · rw [List.append_nil, hs ds hdl, hvars]
    rfl
  · exact World.keptBut_mono (fun x hx => ⟨hx, .inr (.inl (by simpa using hx))⟩) (hb.frame (· ∈ p ++ []))
end
end Go.Proofs.Ytkoklfagmbaapaa
