/- The proof kit, eighth part: rows that are read alone: bytes that were made of a text. -/
import Derived.Test.YtkoklfagmbaapaaK4
import Derived.Lib.ConvBytes
namespace Go.Proofs.Ytkoklfagmbaapaa
open Go.RowKit

/-- A slice of the call's own that is read alone. -/
def ror (v : Value) (sz n : Nat) (xs : List Value) : Res where
  foot := fun k => v.ownBlock = some k
  ok := fun w => xs.length = n * sz ∧ ∃ g c cs t fr, v = .slice (some ⟨g, 0, .none⟩) n c ∧ n ≤ c ∧ w.heap[g]? = some (.cells cs t fr) ∧ ∀ (j : Nat) (u : Value), xs[j]? = some u → cs[j]? = some u
  loc := fun w w' h hw => by
    obtain ⟨h1, g, c, cs, t, fr, rfl, h2, h3, h4⟩ := hw
    exact ⟨h1, g, c, cs, t, fr, rfl, h2, (h g rfl).trans h3, h4⟩

theorem Rd.ror {w0 w : World} {F0 : Nat → Prop} {H : List Res} {sz n : Nat} {v : Value} {xs : List Value} (hh : Holds w0 F0 H w) {i : Nat} (hi : H[i]? = some (ror v sz n xs)) : Rd w Nil sz v n xs := by
  obtain ⟨h1, g, c, cs, t, fr, rfl, h2, h3, h4⟩ := hh.ok hi
  refine ⟨_, _, rfl, h1, h2, .inr ⟨g, 0, rfl, id, (Array.getElem?_eq_some_iff.1 h3).1, fun j u hu => ?_⟩⟩
  simp [World.cell?, h3, h4 j u hu]
theorem ror_form {w0 w : World} {F0 : Nat → Prop} {H : List Res} {sz n : Nat} {v : Value} {xs : List Value} (hh : Holds w0 F0 H w) {i : Nat} (hi : H[i]? = some (ror v sz n xs)) : ∃ g c, v = .slice (some ⟨g, 0, .none⟩) n c := by
  obtain ⟨h1, g, c, cs, t, fr, h, _⟩ := hh.ok hi
  exact ⟨g, c, h⟩

/-- One block more. -/
theorem Holds.more {w0 w w' : World} {F0 : Nat → Prop} {H : List Res} {r : Res} (h : Holds w0 F0 H w) (hf : Frm (fun _ => False) w w') (hr : r.ok w') (hfoot : ∀ k, r.foot k → w.heap.size ≤ k ∧ k < w'.heap.size) : Holds w0 F0 (r :: H) w' := by
  refine ⟨h.1.trans hf (fun _ hx => hx.elim), ⟨hr, ?_, ?_⟩, ?_⟩
  · intro k hk
    exact ⟨(hfoot k hk).2, .inl (Nat.le_trans h.1.size (hfoot k hk).1)⟩
  · intro s hs k hk hf'
    have := ((h.2.mem s hs).2 k hf').1
    have := (hfoot k hk).1
    omega
  · exact h.2.keep (fun s hs k hk => hf.block k ((h.2.mem s hs).2 k hk).1 id) hf.size

theorem freeze_mod (w : World) (a : Addr) (k : Nat) (h : k ≠ 0) : ∃ f : Obj → Obj, w.freeze a k = { w with heap := w.heap.modify a.block f } ∧ ∀ c e, f (.cells c e (0, 0)) = .cells c e (a.off, a.off + k) := by
  unfold World.freeze
  rw [if_neg h]
  exact ⟨_, rfl, fun _ _ => rfl⟩

section
variable {P : Program} {n : Nat} {w0 : World} {F0 : Nat → Prop} {m : Env} {H : List Res} {w : World} {ty : TypeId} {x : Operand}

/-- '[]byte(s)'. -/
theorem e_s2b {src dst e : TypeId} {s : ByteArray} {u : TypeDesc} (hx : ev m x = some (.string s)) (hs : P.underlying src = some u) (hd : P.underlying dst = some (.slice e)) (he : P.underlying e = some (.int .u8)) :
    Eff P n w0 F0 (.convert src dst x) ty m H w (fun v H' => (∃ g c, v = .slice (some ⟨g, 0, .none⟩) s.size c) ∧ H' = ror v 1 s.size ((s.data.toList.map UInt8.toNat).map fun b : Nat => Value.int .u8 (b : Int)) :: H) := fun o a K Q h1 h2 ha hh hk => by
  unfold Oper.wp
  have : (execOp a.eval o).run P w = .ok (.value (.slice (some ⟨w.heap.size, 0, none⟩) s.size (grownCap w s.size 0 e))) (Lib.bytesWorld w e s) := by
    simp only [execOp, h1, ha.eval hx, Sem.run_bind, Lib.run_convert_string_bytes w src dst e s hs hd he, Result.andThen_ok, Sem.run_pure]
  rw [this, Oper.upon_value]
  have hcap : s.size ≤ grownCap w s.size 0 e := grownCap_ge w _ _ _
  refine hk _ _ _ ⟨⟨_, _, rfl⟩, rfl⟩ (hh.more ⟨rfl, rfl, rfl, by rw [Lib.bytesWorld_size]; omega, fun k hk _ => Lib.bytesWorld_at_old w e s k hk⟩ ?_ ?_)
  · refine ⟨by simp, _, _, _, _, _, rfl, hcap, Lib.bytesWorld_at_new w e s, fun j u hu => ?_⟩
    have hj : j < s.data.size := by
      have := (List.getElem?_eq_some_iff.1 hu).1
      simpa using this
    simp only [List.map_map, List.getElem?_map, Array.getElem?_toList, Array.getElem?_eq_getElem hj, Option.map_some, Option.some.injEq, Function.comp_apply] at hu
    subst hu
    have hj' : j < s.size := hj
    simp [Lib.bytesCells, Array.getElem?_append, hj', Array.getElem?_eq_getElem hj]
  · intro k hk'
    simp only [ror, Value.ownBlock, Option.some.injEq] at hk'
    subst hk'
    rw [Lib.bytesWorld_size]
    omega

/-- '[]byte("..")' of a constant: its row is read alone from here on. -/
theorem e_constb {t e : TypeId} {g k sz : Nat} {xs : List Value} (hx : ev m x = some (.slice (some ⟨g, 0, .none⟩) k k)) (ht : P.underlying t = some (.slice e)) (he : P.underlying e = some (.int .u8)) :
    Eff P n w0 F0 (.convert t t x) ty m (row (.slice (some ⟨g, 0, .none⟩) k k) e sz k xs :: H) w (fun v H' => v = .slice (some ⟨g, 0, .none⟩) k k ∧ H' = ror (.slice (some ⟨g, 0, .none⟩) k k) sz k xs :: H) := fun o a K Q h1 h2 ha hh hk => by
  have hok : w.ownsRow 0 e sz (.slice (some ⟨g, 0, .none⟩) k k) k xs := hh.ok (i := 0) rfl
  rcases hok.2 with ⟨h, _⟩ | ⟨g', cap', cur, h, _, hg, hnc, hcm, hcsz, htake⟩
  · cases h
  injection h with hga _ hcap
  injection hga with hga
  injection hga with hga _ _
  subst hga; subst hcap
  have hsh : w.shape? g = some (e, cur.size) := by unfold World.shape?; rw [hg]
  have hcv : (convert t t (.slice (some ⟨g, 0, none⟩) k k)).run P w = .ok (.slice (some ⟨g, 0, none⟩) k k) (w.freeze ⟨g, cur.size, none⟩ 1) := by
    simp [convert, run_underlying ht, run_underlying he, markStringish, hsh]
  unfold Oper.wp
  have : (execOp a.eval o).run P w = .ok (.value (.slice (some ⟨g, 0, none⟩) k k)) (w.freeze ⟨g, cur.size, none⟩ 1) := by
    simp only [execOp, h1, ha.eval hx, Sem.run_bind, hcv, Result.andThen_ok, Sem.run_pure]
  rw [this, Oper.upon_value]
  obtain ⟨f, hw, hf⟩ := freeze_mod w ⟨g, cur.size, .none⟩ 1 (by omega)
  have hglt := (Array.getElem?_eq_some_iff.1 hg).1
  have hnew : (w.freeze ⟨g, cur.size, none⟩ 1).heap[g]? = some (.cells cur e (cur.size, cur.size + 1)) := by
    rw [hw]
    simp only [Array.getElem?_modify, if_true, hg, Option.map_some, hf]
  refine hk _ _ _ ⟨rfl, rfl⟩ (hh.change (H1 := []) (r' := ror (.slice (some ⟨g, 0, .none⟩) k k) sz k xs) ⟨?_, ?_, ?_, ?_, ?_⟩ ⟨hok.1, _, _, _, _, _, rfl, Nat.le_refl _, hnew, ?_⟩ (fun q hq => .inl hq))
  · rw [hw]
  · rw [hw]
  · rw [hw]
  · rw [hw]; simp
  · intro q hq hnf
    rw [hw]
    have hne : g ≠ q := fun e => hnf (by simp [row, Value.ownBlock, e])
    simp only [Array.getElem?_modify, if_neg hne]
  · intro j u hu
    rw [← htake, List.getElem?_take] at hu
    split at hu
    · simpa using hu
    · cases hu

/-! ### Results of which some are cells -/
def ResM (P : Program) (w0 : World) (F0 : Nat → Prop) (m : Env) (H : List Res) : List ResultVar → List Value → Prop
  | [], [] => True
  | .tmp t :: l, v :: vs => lk m t = some v ∧ ResM P w0 F0 m H l vs
  | .cell s t :: l, v :: vs => (∃ b, lk m s = some (.pointer (some ⟨b, 0, .none⟩)) ∧ ∀ w, Holds w0 F0 H w → (loadVar t ⟨b, 0, .none⟩).run P w = .ok v w) ∧ ResM P w0 F0 m H l vs
  | _, _ => False
theorem rm_nil : ResM P w0 F0 m H [] [] := trivial
theorem rm_tmp {t : Nat} {v : Value} {l : List ResultVar} {vs : List Value} (h : lk m t = some v) (h2 : ResM P w0 F0 m H l vs) : ResM P w0 F0 m H (.tmp t :: l) (v :: vs) := ⟨h, h2⟩
theorem rm_cell {s t : Nat} {v : Value} {l : List ResultVar} {vs : List Value} (h : ∃ b, lk m s = some (.pointer (some ⟨b, 0, .none⟩)) ∧ ∀ w, Holds w0 F0 H w → (loadVar t ⟨b, 0, .none⟩).run P w = .ok v w) (h2 : ResM P w0 F0 m H l vs) :
    ResM P w0 F0 m H (.cell s t :: l) (v :: vs) := ⟨h, h2⟩
theorem cell_agg {s b tb t : Nat} {cs : List Value} {d : TypeDesc} (i : Nat) (hv : lk m s = some (.pointer (some ⟨b, 0, .none⟩))) (hd : P.underlying t = some d)
    (hagg : (match d with | .struct _ | .array _ _ => true | _ => false) = true) (hsz : (P.info? t).map (·.size) = some cs.length) (hi : H[i]? = some (blk b cs tb)) :
    ∃ b, lk m s = some (.pointer (some ⟨b, 0, .none⟩)) ∧ ∀ w, Holds w0 F0 H w → (loadVar t ⟨b, 0, .none⟩).run P w = .ok (.agg cs.toArray) w := by
  refine ⟨b, hv, fun w hh => ?_⟩
  obtain ⟨j, hj, hjs⟩ := Option.map_eq_some_iff.1 hsz
  have hag : (isAgg t).run P w = .ok true w := by cases d <;> simp_all [isAgg, run_underlying hd]
  have hok : w.heap[b]? = some (.cells cs.toArray tb (0, 0)) := hh.ok hi
  have hlc := run_loadCells (P := P) w b cs 0 0 #[] (fun j u hu => by rw [cell_of_row w b _ cs.toArray tb (0, 0) hok]; simpa using hu)
  simp [loadVar, hag, sizeOf, typeInfo, hj, hjs, loadCells, hlc]
theorem results_mix {fn : Func} {l : List ResultVar} {vs : List Value} (hl : fn.results = l.toArray) (hv : ResM P w0 F0 m H l vs) (a : Act) (ha : Fr n m a) (w : World) (hh : Holds w0 F0 H w) :
    (results fn a.tmps).run P w = .ok (tup vs) w := by
  have key : ∀ (g : ResultVar → Sem Value), (∀ t, g (.tmp t) = pure (a.tmps.getD t undef)) → (∀ s t, g (.cell s t) = (do let x ← asAddr (a.tmps.getD s undef); loadVar t x)) →
      ∀ (l : List ResultVar) (vs : List Value), ResM P w0 F0 m H l vs → (l.mapM g).run P w = .ok vs w := by
    intro g hg hc l
    induction l with
    | nil =>
      intro vs h
      cases vs with
      | nil => rfl
      | cons v vs => cases h
    | cons x l ih =>
      intro vs h
      cases vs with
      | nil => cases x <;> cases h
      | cons v vs =>
        cases x with
        | tmp t =>
          have ht := ha.get t v h.1
          have hr := ih vs h.2
          simp only [List.mapM_cons, Sem.run_bind, hg, Sem.run_pure, Result.andThen_ok, hr]
          simp [ht]
        | cell s t =>
          obtain ⟨⟨b, hb, hld⟩, h2⟩ := h
          have ht := ha.get s _ hb
          have hr := ih vs h2
          have hx : a.tmps.getD s undef = .pointer (some ⟨b, 0, .none⟩) := by simp [ht]
          simp only [List.mapM_cons, Sem.run_bind, hc, hx, asAddr, Sem.run_pure, Result.andThen_ok, hld w hh, hr]
  have hsz : ∀ (us : List Value), (if h : us.toArray.size = 1 then us.toArray[0] else Value.tuple us.toArray) = tup us := by
    intro us
    cases us with
    | nil => rfl
    | cons u us => cases us with
      | nil => rfl
      | cons v us => simp [tup]
  unfold results
  rw [hl]
  simp only [List.mapM_toArray, Sem.run_bind, Sem.run_map]
  rw [key _ (fun t => rfl) (fun s t => rfl) l vs hv]
  simp only [Result.andThen_ok, Sem.run_pure]
  rw [hsz]
end
end Go.Proofs.Ytkoklfagmbaapaa
