/- Texts of this proof, part MB3: what the code does, step by step. They have no conditions. -/
import Derived.Test.YtmagdjlcckgkpaaGreatMB2
import Derived.Lib.ConvBytes
import Derived.Test.YtmagdjlcckgkpaaGreatChecked
/- The proof kit, eighth part: rows that are read alone: bytes that were made of a text. -/
namespace Go.Proofs.YtmagdjlcckgkpaaGreat
open Go.RowKit

/-- A slice of the call's own that is read alone. -/
def ror (v : Value) (sz n : Nat) (xs : List Value) : Res where
  foot := fun k => v.ownBlock = some k
  ok := fun w => xs.length = n * sz ∧ ∃ g c cs t fr, v = .slice (some ⟨g, 0, .none⟩) n c ∧ n ≤ c ∧ w.heap[g]? = some (.cells cs t fr) ∧ ∀ (j : Nat) (u : Value), xs[j]? = some u → cs[j]? = some u
  loc := fun w w' h hw => by
    obtain ⟨h1, g, c, cs, t, fr, rfl, h2, h3, h4⟩ := hw
    exact ⟨h1, g, c, cs, t, fr, rfl, h2, (h g rfl).trans h3, h4⟩

theorem Rd.ror {w0 w : World} {F0 : Nat → Prop} {H : List Res} {sz n : Nat} {v : Value} {xs : List Value} (hh : Holds w0 F0 H w) {i : Nat} (hi : H[i]? = some (ror v sz n xs)) : Rd w Nil sz v n xs := by
  obtain ⟨h1, g, c, cs, t, fr, rfl, h2, h3, h4⟩ := hh.ok hi
  refine ⟨_, _, rfl, h1, h2, .inr ⟨g, 0, rfl, id, (Array.getElem?_eq_some_iff.1 h3).1, fun j u hu => ?_⟩⟩
  simp [World.cell?, h3, h4 j u hu]
theorem ror_form {w0 w : World} {F0 : Nat → Prop} {H : List Res} {sz n : Nat} {v : Value} {xs : List Value} (hh : Holds w0 F0 H w) {i : Nat} (hi : H[i]? = some (ror v sz n xs)) : ∃ g c, v = .slice (some ⟨g, 0, .none⟩) n c := by
  obtain ⟨h1, g, c, cs, t, fr, h, _⟩ := hh.ok hi
  exact ⟨g, c, h⟩

/-- One block more. -/
theorem Holds.more {w0 w w' : World} {F0 : Nat → Prop} {H : List Res} {r : Res} (h : Holds w0 F0 H w) (hf : Frm (fun _ => False) w w') (hr : r.ok w') (hfoot : ∀ k, r.foot k → w.heap.size ≤ k ∧ k < w'.heap.size) : Holds w0 F0 (r :: H) w' := by
  refine ⟨h.1.trans hf (fun _ hx => hx.elim), ⟨hr, ?_, ?_⟩, ?_⟩
  · intro k hk
    exact ⟨(hfoot k hk).2, .inl (Nat.le_trans h.1.size (hfoot k hk).1)⟩
  · intro s hs k hk hf'
    have := ((h.2.mem s hs).2 k hf').1
    have := (hfoot k hk).1
    omega
  · exact h.2.keep (fun s hs k hk => hf.block k ((h.2.mem s hs).2 k hk).1 id) hf.size

theorem freeze_mod (w : World) (a : Addr) (k : Nat) (h : k ≠ 0) : ∃ f : Obj → Obj, w.freeze a k = { w with heap := w.heap.modify a.block f } ∧ ∀ c e, f (.cells c e (0, 0)) = .cells c e (a.off, a.off + k) := by
  unfold World.freeze
  rw [if_neg h]
  exact ⟨_, rfl, fun _ _ => rfl⟩

section
variable {P : Program} {n : Nat} {w0 : World} {F0 : Nat → Prop} {m : Env} {H : List Res} {w : World} {ty : TypeId} {x : Operand}

/-- '[]byte(s)'. -/
theorem e_s2b {src dst e : TypeId} {s : ByteArray} {u : TypeDesc} (hx : ev m x = some (.string s)) (hs : P.underlying src = some u) (hd : P.underlying dst = some (.slice e)) (he : P.underlying e = some (.int .u8)) :
    Eff P n w0 F0 (.convert src dst x) ty m H w (fun v H' => (∃ g c, v = .slice (some ⟨g, 0, .none⟩) s.size c) ∧ H' = ror v 1 s.size ((s.data.toList.map UInt8.toNat).map fun b : Nat => Value.int .u8 (b : Int)) :: H) := fun o a K Q h1 h2 ha hh hk => by
  unfold Oper.wp
  have : (execOp a.eval o).run P w = .ok (.value (.slice (some ⟨w.heap.size, 0, none⟩) s.size (grownCap w s.size 0 e))) (Lib.bytesWorld w e s) := by
    simp only [execOp, h1, ha.eval hx, Sem.run_bind, Lib.run_convert_string_bytes w src dst e s hs hd he, Result.andThen_ok, Sem.run_pure]
  rw [this, Oper.upon_value]
  have hcap : s.size ≤ grownCap w s.size 0 e := grownCap_ge w _ _ _
  refine hk _ _ _ ⟨⟨_, _, rfl⟩, rfl⟩ (hh.more ⟨rfl, rfl, rfl, by rw [Lib.bytesWorld_size]; omega, fun k hk _ => Lib.bytesWorld_at_old w e s k hk⟩ ?_ ?_)
  · refine ⟨by simp, _, _, _, _, _, rfl, hcap, Lib.bytesWorld_at_new w e s, fun j u hu => ?_⟩
    have hj : j < s.data.size := by
      have := (List.getElem?_eq_some_iff.1 hu).1
      simpa using this
    simp only [List.map_map, List.getElem?_map, Array.getElem?_toList, Array.getElem?_eq_getElem hj, Option.map_some, Option.some.injEq, Function.comp_apply] at hu
    subst hu
    have hj' : j < s.size := hj
    simp [Lib.bytesCells, Array.getElem?_append, hj', Array.getElem?_eq_getElem hj]
  · intro k hk'
    simp only [ror, Value.ownBlock, Option.some.injEq] at hk'
    subst hk'
    rw [Lib.bytesWorld_size]
    omega

/-- '[]byte("..")' of a constant: its row is read alone from here on. -/
theorem e_constb {t e : TypeId} {g k sz : Nat} {xs : List Value} (hx : ev m x = some (.slice (some ⟨g, 0, .none⟩) k k)) (ht : P.underlying t = some (.slice e)) (he : P.underlying e = some (.int .u8)) :
    Eff P n w0 F0 (.convert t t x) ty m (row (.slice (some ⟨g, 0, .none⟩) k k) e sz k xs :: H) w (fun v H' => v = .slice (some ⟨g, 0, .none⟩) k k ∧ H' = ror (.slice (some ⟨g, 0, .none⟩) k k) sz k xs :: H) := fun o a K Q h1 h2 ha hh hk => by
  have hok : w.ownsRow 0 e sz (.slice (some ⟨g, 0, .none⟩) k k) k xs := hh.ok (i := 0) rfl
  rcases hok.2 with ⟨h, _⟩ | ⟨g', cap', cur, h, _, hg, hnc, hcm, hcsz, htake⟩
  · cases h
  injection h with hga _ hcap
  injection hga with hga
  injection hga with hga _ _
  subst hga; subst hcap
  have hsh : w.shape? g = some (e, cur.size) := by unfold World.shape?; rw [hg]
  have hcv : (convert t t (.slice (some ⟨g, 0, none⟩) k k)).run P w = .ok (.slice (some ⟨g, 0, none⟩) k k) (w.freeze ⟨g, cur.size, none⟩ 1) := by
    simp [convert, run_underlying ht, run_underlying he, markStringish, hsh]
  unfold Oper.wp
  have : (execOp a.eval o).run P w = .ok (.value (.slice (some ⟨g, 0, none⟩) k k)) (w.freeze ⟨g, cur.size, none⟩ 1) := by
    simp only [execOp, h1, ha.eval hx, Sem.run_bind, hcv, Result.andThen_ok, Sem.run_pure]
  rw [this, Oper.upon_value]
  obtain ⟨f, hw, hf⟩ := freeze_mod w ⟨g, cur.size, .none⟩ 1 (by omega)
  have hglt := (Array.getElem?_eq_some_iff.1 hg).1
  have hnew : (w.freeze ⟨g, cur.size, none⟩ 1).heap[g]? = some (.cells cur e (cur.size, cur.size + 1)) := by
    rw [hw]
    simp only [Array.getElem?_modify, if_true, hg, Option.map_some, hf]
  refine hk _ _ _ ⟨rfl, rfl⟩ (hh.change (H1 := []) (r' := ror (.slice (some ⟨g, 0, .none⟩) k k) sz k xs) ⟨?_, ?_, ?_, ?_, ?_⟩ ⟨hok.1, _, _, _, _, _, rfl, Nat.le_refl _, hnew, ?_⟩ (fun q hq => .inl hq))
  · rw [hw]
  · rw [hw]
  · rw [hw]
  · rw [hw]; simp
  · intro q hq hnf
    rw [hw]
    have hne : g ≠ q := fun e => hnf (by simp [row, Value.ownBlock, e])
    simp only [Array.getElem?_modify, if_neg hne]
  · intro j u hu
    rw [← htake, List.getElem?_take] at hu
    split at hu
    · simpa using hu
    · cases hu

/-! ### Results of which some are cells -/
def ResM (P : Program) (w0 : World) (F0 : Nat → Prop) (m : Env) (H : List Res) : List ResultVar → List Value → Prop
  | [], [] => True
  | .tmp t :: l, v :: vs => lk m t = some v ∧ ResM P w0 F0 m H l vs
  | .cell s t :: l, v :: vs => (∃ b, lk m s = some (.pointer (some ⟨b, 0, .none⟩)) ∧ ∀ w, Holds w0 F0 H w → (loadVar t ⟨b, 0, .none⟩).run P w = .ok v w) ∧ ResM P w0 F0 m H l vs
  | _, _ => False
theorem rm_nil : ResM P w0 F0 m H [] [] := trivial
theorem rm_tmp {t : Nat} {v : Value} {l : List ResultVar} {vs : List Value} (h : lk m t = some v) (h2 : ResM P w0 F0 m H l vs) : ResM P w0 F0 m H (.tmp t :: l) (v :: vs) := ⟨h, h2⟩
theorem rm_cell {s t : Nat} {v : Value} {l : List ResultVar} {vs : List Value} (h : ∃ b, lk m s = some (.pointer (some ⟨b, 0, .none⟩)) ∧ ∀ w, Holds w0 F0 H w → (loadVar t ⟨b, 0, .none⟩).run P w = .ok v w) (h2 : ResM P w0 F0 m H l vs) :
    ResM P w0 F0 m H (.cell s t :: l) (v :: vs) := ⟨h, h2⟩
theorem cell_agg {s b tb t : Nat} {cs : List Value} {d : TypeDesc} (i : Nat) (hv : lk m s = some (.pointer (some ⟨b, 0, .none⟩))) (hd : P.underlying t = some d)
    (hagg : (match d with | .struct _ | .array _ _ => true | _ => false) = true) (hsz : (P.info? t).map (·.size) = some cs.length) (hi : H[i]? = some (blk b cs tb)) :
    ∃ b, lk m s = some (.pointer (some ⟨b, 0, .none⟩)) ∧ ∀ w, Holds w0 F0 H w → (loadVar t ⟨b, 0, .none⟩).run P w = .ok (.agg cs.toArray) w := by
  refine ⟨b, hv, fun w hh => ?_⟩
  obtain ⟨j, hj, hjs⟩ := Option.map_eq_some_iff.1 hsz
  have hag : (isAgg t).run P w = .ok true w := by cases d <;> simp_all [isAgg, run_underlying hd]
  have hok : w.heap[b]? = some (.cells cs.toArray tb (0, 0)) := hh.ok hi
  have hlc := run_loadCells (P := P) w b cs 0 0 #[] (fun j u hu => by rw [cell_of_row w b _ cs.toArray tb (0, 0) hok]; simpa using hu)
  simp [loadVar, hag, sizeOf, typeInfo, hj, hjs, loadCells, hlc]
theorem results_mix {fn : Func} {l : List ResultVar} {vs : List Value} (hl : fn.results = l.toArray) (hv : ResM P w0 F0 m H l vs) (a : Act) (ha : Fr n m a) (w : World) (hh : Holds w0 F0 H w) :
    (results fn a.tmps).run P w = .ok (tup vs) w := by
  have key : ∀ (g : ResultVar → Sem Value), (∀ t, g (.tmp t) = pure (a.tmps.getD t undef)) → (∀ s t, g (.cell s t) = (do let x ← asAddr (a.tmps.getD s undef); loadVar t x)) →
      ∀ (l : List ResultVar) (vs : List Value), ResM P w0 F0 m H l vs → (l.mapM g).run P w = .ok vs w := by
    intro g hg hc l
    induction l with
    | nil =>
      intro vs h
      cases vs with
      | nil => rfl
      | cons v vs => cases h
    | cons x l ih =>
      intro vs h
      cases vs with
      | nil => cases x <;> cases h
      | cons v vs =>
        cases x with
        | tmp t =>
          have ht := ha.get t v h.1
          have hr := ih vs h.2
          simp only [List.mapM_cons, Sem.run_bind, hg, Sem.run_pure, Result.andThen_ok, hr]
          simp [ht]
        | cell s t =>
          obtain ⟨⟨b, hb, hld⟩, h2⟩ := h
          have ht := ha.get s _ hb
          have hr := ih vs h2
          have hx : a.tmps.getD s undef = .pointer (some ⟨b, 0, .none⟩) := by simp [ht]
          simp only [List.mapM_cons, Sem.run_bind, hc, hx, asAddr, Sem.run_pure, Result.andThen_ok, hld w hh, hr]
  have hsz : ∀ (us : List Value), (if h : us.toArray.size = 1 then us.toArray[0] else Value.tuple us.toArray) = tup us := by
    intro us
    cases us with
    | nil => rfl
    | cons u us => cases us with
      | nil => rfl
      | cons v us => simp [tup]
  unfold results
  rw [hl]
  simp only [List.mapM_toArray, Sem.run_bind, Sem.run_map]
  rw [key _ (fun t => rfl) (fun s t => rfl) l vs hv]
  simp only [Result.andThen_ok, Sem.run_pure]
  rw [hsz]
end
end Go.Proofs.YtmagdjlcckgkpaaGreat

/- The proof kit, tenth part: regions that draw their order, where up to three changes may come in any order, and that change what they have read. -/
namespace Go.Proofs.YtmagdjlcckgkpaaGreat
open Go.RowKit

inductive Ordk where
  | done
  | fl (i : Nat) (t : Ordk)
  | ef (i : Nat) (t : Ordk)
  | two (i : Nat) (t : Ordk) (j : Nat) (u : Ordk)
  | three (i : Nat) (t : Ordk) (j : Nat) (u : Ordk) (k : Nat) (v : Ordk)

def Ordk.height : Ordk → Nat
  | .done => 0
  | .fl _ t => t.height + 1
  | .ef _ t => t.height + 1
  | .two _ t _ u => max t.height u.height + 1
  | .three _ t _ u _ v => max (max t.height u.height) v.height + 1

def okK (ops : Array Oper) : Array Bool → Ordk → Bool
  | listed, .done => (Region.ready .any ops listed).isEmpty
  | listed, .fl i t => Region.free .any ops listed i && (Region.ready .any ops listed).contains i && okK ops (listed.setIfInBounds i true) t
  | listed, .ef i t => Region.ready .any ops listed == [i] && okK ops (listed.setIfInBounds i true) t
  | listed, .two i t j u => Region.ready .any ops listed == [i, j] && (okK ops (listed.setIfInBounds i true) t && okK ops (listed.setIfInBounds j true) u)
  | listed, .three i t j u k v => Region.ready .any ops listed == [i, j, k] && (okK ops (listed.setIfInBounds i true) t && (okK ops (listed.setIfInBounds j true) u && okK ops (listed.setIfInBounds k true) v))

/-- No float of the order is the number of an operation that ends a resource. -/
def flNoKill (Hst : List KRes) : Ordk → Bool
  | .done => true
  | .fl i t => noKill i Hst && flNoKill Hst t
  | .ef _ t => flNoKill Hst t
  | .two _ t _ u => flNoKill Hst t && flNoKill Hst u
  | .three _ t _ u _ v => flNoKill Hst t && (flNoKill Hst u && flNoKill Hst v)

section
variable {P : Program} {n : Nat} {w0 : World} {F0 : Nat → Prop} {N R : Cond} {X : Nat → Cond} {m : Env} {H : List Res} {w : World}
  {ops : Array Oper} {op : Op} {ty : TypeId} {pos : String} {af : Array Edge} {v : Value} {Φ : Value → List Res → Prop} {d : Nat}

def KStep (P : Program) (n : Nat) (w0 : World) (F0 : Nat → Prop) (ops : Array Oper) (Hst : List KRes) (i : Nat) (K : List KRes → Env → List Res → World → Prop) (m : Env) (H : List Res) (w : World) : Prop :=
  ∃ dst op ty pos af, ops[i]? = some ⟨dst, op, ty, pos, af, .none⟩ ∧ (match dst with | some d => Nat.blt d n = true | .none => True) ∧
    ∃ Φ, Eff P n w0 F0 op ty m (resOf' Hst ++ H) w Φ ∧
      ∀ v H' w', Φ v H' → ∃ H'', H'.Perm (resOf' (kill i Hst) ++ H'') ∧ K (kill i Hst) (match dst with | some d => (d, v) :: m | .none => m) H'' w'

def WX (P : Program) (n : Nat) (w0 : World) (F0 : Nat → Prop) (ops : Array Oper) (N : Cond) : Ordk → List KRes → Env → List Res → World → Prop
  | .done, Hst, m, H, w => ∃ m' L, Sub m' m ∧ (∃ E, (resOf' Hst ++ H).Perm (L ++ E)) ∧ N m' L w
  | .fl i t, Hst, m, H, w => ∃ d op ty pos af g v, ops[i]? = some ⟨some d, op, ty, pos, af, g⟩ ∧ Nat.blt d n = true ∧ noKill i Hst = true ∧
      ((Flt P n w0 F0 op ty m (readOk ops i Hst) v ∧ (g = .none ∨ ∃ j b t, g = some (j, b) ∧ (ops[j]?).bind (·.dst) = some t ∧ lk m t = some (.bool b))) ∨
       (v = undef ∧ ∃ j b t, g = some (j, b) ∧ (ops[j]?).bind (·.dst) = some t ∧ (lk m t = some (.bool !b) ∨ lk m t = some undef))) ∧
      WX P n w0 F0 ops N t Hst ((d, v) :: m) H w
  | .ef i t, Hst, m, H, w => KStep P n w0 F0 ops Hst i (WX P n w0 F0 ops N t) m H w
  | .two i t j u, Hst, m, H, w => KStep P n w0 F0 ops Hst i (WX P n w0 F0 ops N t) m H w ∧ KStep P n w0 F0 ops Hst j (WX P n w0 F0 ops N u) m H w
  | .three i t j u k x, Hst, m, H, w => KStep P n w0 F0 ops Hst i (WX P n w0 F0 ops N t) m H w ∧ KStep P n w0 F0 ops Hst j (WX P n w0 F0 ops N u) m H w ∧ KStep P n w0 F0 ops Hst k (WX P n w0 F0 ops N x) m H w

structure KInv (ops : Array Oper) (Hst0 Hst : List KRes) (listed : Array Bool) : Prop where
  size : listed.size = ops.size
  closed : Closed .any ops listed
  fits : ∀ l, Above listed l → l.size = ops.size → alive l Hst0 = alive l Hst
  un : ∀ r e, (r, some e) ∈ Hst → listed.getD e false = false

theorem noKill_mem {i : Nat} {r : Res} : ∀ L : List KRes, noKill i L = true → (r, some i) ∉ L
  | [], _ => by simp
  | (s, .none) :: L, h => by
    intro hm
    rcases List.mem_cons.1 hm with hm | hm
    · cases hm
    · exact noKill_mem L h hm
  | (s, some k) :: L, h => by
    intro hm
    simp only [noKill, Bool.and_eq_true, Bool.not_eq_true'] at h
    rcases List.mem_cons.1 hm with hm | hm
    · injection hm with _ hm; injection hm with hm; subst hm; simp at h
    · exact noKill_mem L h.2 hm

theorem KInv.fl {Hst0 Hst : List KRes} {listed : Array Bool} {i : Nat} (h : KInv ops Hst0 Hst listed) (hr : i ∈ Region.ready .any ops listed) (hn : noKill i Hst = true) : KInv ops Hst0 Hst (listed.setIfInBounds i true) := by
  refine ⟨by simpa using h.size, h.closed.step hr, fun l hl => h.fits l (fun j hj => hl j (above_set _ _ j hj)), fun r e hm => ?_⟩
  have hne : i ≠ e := by
    rintro rfl
    exact noKill_mem Hst hn hm
  rw [getD_set_ne false hne]
  exact h.un r e hm

theorem KInv.ef {Hst0 Hst : List KRes} {listed : Array Bool} {k : Nat} (h : KInv ops Hst0 Hst listed) (hr : k ∈ Region.ready .any ops listed) (hk : k < ops.size) : KInv ops Hst0 (kill k Hst) (listed.setIfInBounds k true) := by
  have hil : k < listed.size := by rw [h.size]; exact hk
  have hset : ∀ l : Array Bool, Above (listed.setIfInBounds k true) l → l.size = ops.size → l = l.setIfInBounds k true := by
    intro l hab hls
    have : l.getD k false = true := hab k (by simp [hil])
    apply Array.ext
    · simp
    · intro j h1 h2
      by_cases hjk : j = k
      · subst hjk
        have h3 : l[j]? = some l[j] := Array.getElem?_eq_getElem h1
        simp [h3] at this
        simp [this]
      · rw [Array.getElem_setIfInBounds_ne h1 (Ne.symm hjk)]
  refine ⟨by simpa using h.size, h.closed.step hr, fun l hab hls => ?_, fun r e hm => ?_⟩
  · rw [h.fits l (fun j hj => hab j (above_set _ _ j hj)) hls]
    rw [hset l hab hls, alive_kill (by rw [hls]; exact hk) Hst, ← hset l hab hls]
  · obtain ⟨h1, h2⟩ := kill_mem Hst r e hm
    rw [getD_set_ne false (Ne.symm h2)]
    exact h.un r e h1

theorem kstep_sound {Hst0 Hst : List KRes} {listed : Array Bool} {k : Nat} {K : List KRes → Env → List Res → World → Prop} {Q : Exit → Act → World → Prop} {a : Act} {fuel : Nat}
    (hinv : KInv ops Hst0 Hst listed) (hr : k ∈ Region.ready .any ops listed) (ha : Fr n m a) (hh : Holds w0 F0 (resOf' Hst ++ H) w) (h : KStep P n w0 F0 ops Hst k K m H w)
    (hk : ∀ m' H' a' w', KInv ops Hst0 (kill k Hst) (listed.setIfInBounds k true) → Fr n m' a' → Holds w0 F0 (resOf' (kill k Hst) ++ H') w' → K (kill k Hst) m' H' w' →
      wpAnyI P .any ops Q (fun l w' => l.size = ops.size ∧ ∃ H', Holds w0 F0 (alive l Hst0 ++ H') w') fuel (listed.setIfInBounds k true) a' w') :
    wpOp P ops Q k (fun a' w' => (fun l w' => l.size = ops.size ∧ ∃ H', Holds w0 F0 (alive l Hst0 ++ H') w') (listed.setIfInBounds k true) w' ∧
      wpAnyI P .any ops Q (fun l w' => l.size = ops.size ∧ ∃ H', Holds w0 F0 (alive l Hst0 ++ H') w') fuel (listed.setIfInBounds k true) a' w') a w := by
  obtain ⟨dst, op, ty, pos, af, hi, hdn, Φ, he, hk'⟩ := h
  have put : ∀ v, Fr n (match dst with | some d => (d, v) :: m | .none => m) (a.put dst v) := by
    intro v
    cases dst with
    | none => exact ha
    | some d => exact ha.put hdn v
  have hw : Region.wanted (⟨dst, op, ty, pos, af, .none⟩ : Oper) (yielded ops a.tmps) = true := rfl
  have hinv' := hinv.ef hr (Array.getElem?_eq_some_iff.1 hi).1
  unfold wpOp
  simp only [hi, hw, if_true]
  refine .inl (he _ a _ Q rfl rfl ha hh fun v H' w' hp hh' => ?_)
  obtain ⟨H'', hpm, hwd⟩ := hk' v H' w' hp
  have hh'' := hh'.perm hpm
  refine ⟨⟨hinv'.size, H'', ?_⟩, hk _ H'' _ w' hinv' (put v) hh'' hwd⟩
  rw [hinv'.fits _ (fun _ h => h) hinv'.size, alive_all _ hinv'.un]
  exact hh''

theorem wx_sound {Hst0 : List KRes} (hns : Region.noSelect ops = true) (Q : Exit → Act → World → Prop) (hpan : ∀ c a w, ¬ Q (.panic c) a w)
    (hQ : ∀ a' w', (∃ m' H', Fr n m' a' ∧ Holds w0 F0 H' w' ∧ N m' H' w') → Q .normal a' w') :
    ∀ (σ : Ordk) (fuel : Nat) (listed : Array Bool) (Hst : List KRes) (m : Env) (H : List Res) (a : Act) (w : World), σ.height ≤ fuel → okK ops listed σ = true →
      KInv ops Hst0 Hst listed → Fr n m a → Holds w0 F0 (resOf' Hst ++ H) w → WX P n w0 F0 ops N σ Hst m H w → flNoKill Hst0 σ = true →
      wpAnyI P .any ops Q (fun l w' => l.size = ops.size ∧ ∃ H', Holds w0 F0 (alive l Hst0 ++ H') w') fuel listed a w
  | .done, fuel, listed, Hst, m, H, a, w, _, hok, _, ha, hh, hd, _ => by
    obtain ⟨m', L, hs, ⟨E, hE⟩, hN⟩ := hd
    have hh := hh.pick hE
    simp only [okK, List.isEmpty_iff] at hok
    cases fuel with
    | zero => exact ⟨hok, hQ a w ⟨m', _, ha.sub hs, hh, hN⟩⟩
    | succ f => exact ⟨fun _ => hQ a w ⟨m', _, ha.sub hs, hh, hN⟩, by rw [hok]; simp⟩
  | .fl i σ, 0, _, _, _, _, _, _, hl, _, _, _, _, _, _ => by simp [Ordk.height] at hl
  | .ef i σ, 0, _, _, _, _, _, _, hl, _, _, _, _, _, _ => by simp [Ordk.height] at hl
  | .two .., 0, _, _, _, _, _, _, hl, _, _, _, _, _, _ => by simp [Ordk.height] at hl
  | .three .., 0, _, _, _, _, _, _, hl, _, _, _, _, _, _ => by simp [Ordk.height] at hl
  | .fl i σ, fuel + 1, listed, Hst, m, H, a, w, hl, hok, hinv, ha, hh, hd, hnk => by
    obtain ⟨d, op, ty, pos, af, g, v, hi, hdn, hnki, hv, hrest⟩ := hd
    simp only [okK, Bool.and_eq_true] at hok
    simp only [flNoKill, Bool.and_eq_true] at hnk
    have hready : i ∈ Region.ready .any ops listed := by simpa using hok.1.2
    refine wpAnyI_first hi (Region.noSelect_spec hns) (fun c a w h => (hpan _ _ _ h).elim) ?_ fuel listed a w (Region.free_spec hi hok.1.1) hready ?_ hinv.closed ⟨hinv.size, H, ?_⟩
      (wx_sound hns Q hpan hQ σ fuel _ Hst ((d, v) :: m) H _ w (by simpa [Ordk.height] using hl) hok.2 (hinv.fl hready hnki) (ha.put hdn v) hh hrest hnk.2)
    · intro l w'
      rw [alive_noKill Hst0 hnk.1]
      simp
    · rcases hv with ⟨hf, hg⟩ | ⟨rfl, j, b, t, rfl, hj, hlk⟩
      · refine .inl ⟨?_, fun l w' hab hil' hcl ⟨hlsz, H', hh'⟩ => hf _ a w' rfl rfl ha ?_⟩
        · rcases hg with rfl | ⟨j, b, t, rfl, hj, hlk⟩
          · rfl
          · simp [Region.wanted, yielded_of ha hj hlk]
        · rw [hinv.fits l hab hlsz] at hh'
          exact (hh'.drop_ (List.sublist_append_left _ _)).drop_ (alive_sub hcl hil' Hst)
      · refine .inr ⟨?_, rfl⟩
        rcases hlk with hlk | hlk
        · simp [Region.wanted, yielded_of ha hj hlk]
        · simp [Region.wanted, yielded_undef ha hj hlk]
    · rw [hinv.fits listed (fun _ h => h) hinv.size, alive_all Hst hinv.un]
      exact hh
  | .ef i σ, fuel + 1, listed, Hst, m, H, a, w, hl, hok, hinv, ha, hh, hd, hnk => by
    simp only [okK, Bool.and_eq_true, beq_iff_eq] at hok
    refine ⟨fun h0 => absurd (hok.1 ▸ h0) (by simp), fun k hk' => ?_⟩
    obtain rfl : k = i := by rw [hok.1] at hk'; simpa using hk'
    exact kstep_sound hinv hk' ha hh hd fun m' H' a' w' hi' ha' hh' hw => wx_sound hns Q hpan hQ σ fuel _ _ m' H' a' w' (by simpa [Ordk.height] using hl) hok.2 hi' ha' hh' hw hnk
  | .two i σ j τ, fuel + 1, listed, Hst, m, H, a, w, hl, hok, hinv, ha, hh, hd, hnk => by
    simp only [okK, Bool.and_eq_true, beq_iff_eq] at hok
    simp only [flNoKill, Bool.and_eq_true] at hnk
    simp only [Ordk.height] at hl
    refine ⟨fun h0 => absurd (hok.1 ▸ h0) (by simp), fun k hk' => ?_⟩
    have hk2 := hk'
    rw [hok.1] at hk2
    rcases List.mem_cons.1 hk2 with rfl | hk2
    · exact kstep_sound hinv hk' ha hh hd.1 fun m' H' a' w' hi' ha' hh' hw => wx_sound hns Q hpan hQ σ fuel _ _ m' H' a' w' (by omega) hok.2.1 hi' ha' hh' hw hnk.1
    · obtain rfl : k = j := by simpa using hk2
      exact kstep_sound hinv hk' ha hh hd.2 fun m' H' a' w' hi' ha' hh' hw => wx_sound hns Q hpan hQ τ fuel _ _ m' H' a' w' (by omega) hok.2.2 hi' ha' hh' hw hnk.2
  | .three i σ j τ l υ, fuel + 1, listed, Hst, m, H, a, w, hl, hok, hinv, ha, hh, hd, hnk => by
    simp only [okK, Bool.and_eq_true, beq_iff_eq] at hok
    simp only [flNoKill, Bool.and_eq_true] at hnk
    simp only [Ordk.height] at hl
    refine ⟨fun h0 => absurd (hok.1 ▸ h0) (by simp), fun k hk' => ?_⟩
    have hk2 := hk'
    rw [hok.1] at hk2
    rcases List.mem_cons.1 hk2 with rfl | hk2
    · exact kstep_sound hinv hk' ha hh hd.1 fun m' H' a' w' hi' ha' hh' hw => wx_sound hns Q hpan hQ σ fuel _ _ m' H' a' w' (by omega) hok.2.1 hi' ha' hh' hw hnk.1
    rcases List.mem_cons.1 hk2 with rfl | hk2
    · exact kstep_sound hinv hk' ha hh hd.2.1 fun m' H' a' w' hi' ha' hh' hw => wx_sound hns Q hpan hQ τ fuel _ _ m' H' a' w' (by omega) hok.2.2.1 hi' ha' hh' hw hnk.2.1
    · obtain rfl : k = l := by simpa using hk2
      exact kstep_sound hinv hk' ha hh hd.2.2 fun m' H' a' w' hi' ha' hh' hw => wx_sound hns Q hpan hQ υ fuel _ _ m' H' a' w' (by omega) hok.2.2.2 hi' ha' hh' hw hnk.2.2

theorem w_drawx {id : Nat} (σ : Ordk) (Hst : List KRes) (Hm : List Res) (hm : P.follows .mixedOrders = true) (hns : Region.noSelect ops = true)
    (hok : okK ops (Array.replicate ops.size false) σ = true) (hlen : Nat.ble σ.height ops.size = true) (hnk : flNoKill Hst σ = true) (hH : H.Perm (resOf' Hst ++ Hm))
    (h : ∀ w', WX P n w0 F0 ops N σ Hst m Hm w') :
    W P n w0 F0 (.region id ops true) N R X m H w := fun a ha hh => by
  have hh' := (hh.perm hH).drew
  refine wp_region_any hm (wpAny_of_I _ _ _ _ (wx_sound (Hst0 := Hst) hns _ (fun _ _ _ h => h) (fun _ _ hq => hq) σ _ _ Hst m Hm a _ (Nat.le_of_ble_eq_true hlen) hok ⟨by simp, ?_, fun _ _ _ => rfl, ?_⟩ ha hh' (h _) hnk))
  · intro j o _ hl
    simp only [Array.getD_eq_getD_getElem?, Array.getElem?_replicate] at hl
    split at hl <;> simp at hl
  · intro r e _
    simp only [Array.getD_eq_getD_getElem?, Array.getElem?_replicate]
    split <;> simp

variable {Hst : List KRes} {σ τ υ : Ordk} {i j l : Nat} {K : List KRes → Env → List Res → World → Prop}

theorem wx_f (hi : ops[i]? = some ⟨some d, op, ty, pos, af, .none⟩) (h : Flt P n w0 F0 op ty m (readOk ops i Hst) v) (hk : WX P n w0 F0 ops N σ Hst ((d, v) :: m) H w)
    (hd : Nat.blt d n = true := by rfl) (hnk : noKill i Hst = true := by rfl) : WX P n w0 F0 ops N (.fl i σ) Hst m H w :=
  ⟨d, op, ty, pos, af, .none, v, hi, hd, hnk, .inl ⟨h, .inl rfl⟩, hk⟩
theorem wx_gf {j t : Nat} {b : Bool} (hi : ops[i]? = some ⟨some d, op, ty, pos, af, some (j, b)⟩) (hj : (ops[j]?).bind (·.dst) = some t) (hl : lk m t = some (.bool b))
    (h : Flt P n w0 F0 op ty m (readOk ops i Hst) v) (hk : WX P n w0 F0 ops N σ Hst ((d, v) :: m) H w)
    (hd : Nat.blt d n = true := by rfl) (hnk : noKill i Hst = true := by rfl) : WX P n w0 F0 ops N (.fl i σ) Hst m H w :=
  ⟨d, op, ty, pos, af, _, v, hi, hd, hnk, .inl ⟨h, .inr ⟨j, b, t, rfl, hj, hl⟩⟩, hk⟩
theorem wx_ef (h : KStep P n w0 F0 ops Hst i (WX P n w0 F0 ops N σ) m H w) : WX P n w0 F0 ops N (.ef i σ) Hst m H w := h
theorem wx_two (h1 : KStep P n w0 F0 ops Hst i (WX P n w0 F0 ops N σ) m H w) (h2 : KStep P n w0 F0 ops Hst j (WX P n w0 F0 ops N τ) m H w) : WX P n w0 F0 ops N (.two i σ j τ) Hst m H w := ⟨h1, h2⟩
theorem wx_three (h1 : KStep P n w0 F0 ops Hst i (WX P n w0 F0 ops N σ) m H w) (h2 : KStep P n w0 F0 ops Hst j (WX P n w0 F0 ops N τ) m H w) (h3 : KStep P n w0 F0 ops Hst l (WX P n w0 F0 ops N υ) m H w) :
    WX P n w0 F0 ops N (.three i σ j τ l υ) Hst m H w := ⟨h1, h2, h3⟩
theorem ks_e (hi : ops[i]? = some ⟨some d, op, ty, pos, af, .none⟩) (h : Eff P n w0 F0 op ty m (resOf' Hst ++ H) w Φ)
    (hk : ∀ v H' w', Φ v H' → ∃ H'', H'.Perm (resOf' (kill i Hst) ++ H'') ∧ K (kill i Hst) ((d, v) :: m) H'' w')
    (hd : Nat.blt d n = true := by rfl) : KStep P n w0 F0 ops Hst i K m H w := ⟨some d, op, ty, pos, af, hi, hd, Φ, h, hk⟩
theorem ks_e0 (hi : ops[i]? = some ⟨.none, op, ty, pos, af, .none⟩) (h : Eff P n w0 F0 op ty m (resOf' Hst ++ H) w Φ)
    (hk : ∀ v H' w', Φ v H' → ∃ H'', H'.Perm (resOf' (kill i Hst) ++ H'') ∧ K (kill i Hst) m H'' w') : KStep P n w0 F0 ops Hst i K m H w := ⟨.none, op, ty, pos, af, hi, trivial, Φ, h, hk⟩
theorem wx_endp (m' : Env) (is : List Nat) {L E : List Res} (hs : Sub m' m) (hp : pick is (resOf' Hst ++ H) = some (L, E)) (h : N m' L w) : WX P n w0 F0 ops N .done Hst m H w := ⟨m', L, hs, ⟨E, pick_perm _ _ hp⟩, h⟩
end
end Go.Proofs.YtmagdjlcckgkpaaGreat

/- Linked lists: the walks. Three kinds of values. -/
namespace Go.Proofs.YtmagdjlcckgkpaaGreat
open Go.RowKit

theorem mixed : Tryz.prog.follows .mixedOrders = true := by kernel_rfl
theorem t128 : SlT Tryz.prog 128 4 1 1 (.bool false) := .mk' Tryz.underlying128 (by kernel_rfl) rfl (by decide)
theorem t22 : SlT Tryz.prog 22 3 1 8 (.int .i64 0) := .mk' Tryz.underlying22 (by kernel_rfl) rfl (by decide)
theorem t30 : SlT Tryz.prog 30 9 1 16 (.string ByteArray.empty) := .mk' Tryz.underlying30 (by kernel_rfl) rfl (by decide)
theorem t129 : SlT Tryz.prog 129 116 2 16 (.agg #[.int .u64 0, .pointer .none]) := .mk' Tryz.underlying129 (by kernel_rfl) rfl (by decide)

def iv (l : List Int) : List Value := l.map (Value.int .i64)
def bov (l : List Bool) : List Value := l.map Value.bool
/-- The kinds of values. -/
structure VK (α : Type) where
  list : TypeId
  elem : TypeId
  sz : Nat
  cells : α → List Value
  val : α → Value
  zero : α
def kInt : VK Int := ⟨182, 3, 1, fun z => [.int .i64 z], fun z => .int .i64 z, 0⟩
def kBuc : VK (Nat × Option Nat) := ⟨131, 116, 2, fun b => [.int .u64 (b.1 : Int), .pointer (b.2.map fun k => ⟨k, 0, .none⟩)], fun b => .agg #[.int .u64 (b.1 : Int), .pointer (b.2.map fun k => ⟨k, 0, .none⟩)], (0, .none)⟩

section
variable {α : Type}
def vcells (K : VK α) (l : List α) : List Value := l.flatMap K.cells
theorem vcells_len (K : VK α) (hK : ∀ a, (K.cells a).length = K.sz) (l : List α) : (vcells K l).length = l.length * K.sz := by
  induction l with
  | nil => simp [vcells]
  | cons a l ih => simp only [vcells, List.flatMap_cons, List.length_append, hK, List.length_cons, Nat.succ_mul] at ih ⊢; omega
theorem vcells_app (K : VK α) (l k : List α) : vcells K (l ++ k) = vcells K l ++ vcells K k := by simp [vcells]
theorem vcells_split (K : VK α) (hK : ∀ a, (K.cells a).length = K.sz) (A B : List α) (a : α) : (vcells K (A ++ a :: B)).take (A.length * K.sz) = vcells K A ∧ (vcells K (A ++ a :: B)).drop (A.length * K.sz + K.sz) = vcells K B ∧
    ((vcells K (A ++ a :: B)).drop (A.length * K.sz)).take K.sz = K.cells a := by
  have hl := vcells_len K hK A
  have e : vcells K (A ++ a :: B) = vcells K A ++ (K.cells a ++ vcells K B) := by simp [vcells]
  refine ⟨by rw [e, ← hl, List.take_left], ?_, by rw [e, ← hl, List.drop_left, ← hK a, List.take_left]⟩
  rw [e, ← List.drop_drop, ← hl, List.drop_left, ← hK a, List.drop_left]
theorem vcells_get (K : VK α) (hK : ∀ a, (K.cells a).length = K.sz) {l : List α} {x : Nat} {a : α} (h : l[x]? = some a) : ((vcells K l).drop (0 + x * K.sz)).take K.sz = K.cells a := by
  obtain ⟨hx, rfl⟩ := List.getElem?_eq_some_iff.1 h
  have e : l = l.take x ++ l[x] :: l.drop (x + 1) := by rw [← List.drop_eq_getElem_cons hx, List.take_append_drop]
  have hl : (l.take x).length = x := by rw [List.length_take]; omega
  have := (vcells_split K hK (l.take x) (l.drop (x + 1)) l[x]).2.2
  rw [hl, ← e] at this
  rwa [Nat.zero_add]
theorem vcells_set (K : VK α) (hK : ∀ a, (K.cells a).length = K.sz) {l : List α} {x : Nat} (a : α) (hx : x < l.length) :
    (vcells K l).take (0 + x * K.sz) ++ K.cells a ++ (vcells K l).drop (0 + x * K.sz + K.sz) = vcells K (l.set x a) := by
  have e : l = l.take x ++ l[x] :: l.drop (x + 1) := by rw [← List.drop_eq_getElem_cons hx, List.take_append_drop]
  have hl : (l.take x).length = x := by rw [List.length_take]; omega
  obtain ⟨h1, h2, _⟩ := vcells_split K hK (l.take x) (l.drop (x + 1)) l[x]
  rw [hl, ← e] at h1 h2
  rw [Nat.zero_add, h1, h2, List.set_eq_take_append_cons_drop, if_pos hx]
  simp [vcells]
theorem map_set {β : Type} (f : β → Value) {l : List β} {x : Nat} (a : β) (hx : x < l.length) : (l.map f).take (0 + x * 1) ++ [f a] ++ (l.map f).drop (0 + x * 1 + 1) = (l.set x a).map f := by
  rw [Nat.zero_add, Nat.mul_one, List.set_eq_take_append_cons_drop, if_pos hx]
  simp [List.map_take, List.map_drop]
theorem map_get {β : Type} (f : β → Value) {l : List β} {x : Nat} {a : β} (h : l[x]? = some a) : (l.map f)[0 + x * 1]? = some (f a) := by simp [h]
theorem kInt_len : ∀ a, (kInt.cells a).length = kInt.sz := fun _ => rfl
theorem kBuc_len : ∀ a, (kBuc.cells a).length = kBuc.sz := fun _ => rfl
/-- A list of nodes with values, in a block b. -/
def chs (K : VK α) (b n : Nat) (l : List (Nat × α)) (uV nV pV vV : Value) (used : List Bool) (nx pv : List Int) (vs : List α) : List Res :=
  [blk b [.int .i64 (n : Int), .int .i64 (l.length : Int), .int .i64 (hdE (-1) (nodes l)), .int .i64 (hdE (-1) (nodes l).reverse), uV, nV, pV, vV] K.list,
    row uV 4 1 used.length (bov used), row nV 3 1 used.length (iv nx), row pV 3 1 used.length (iv pv), row vV K.elem K.sz used.length (vcells K vs)]
def ChR (K : VK α) (b n : Nat) (l : List (Nat × α)) (r : Res) : Prop :=
  ∃ uV nV pV vV used nx pv vs, r = bun (chs K b n l uV nV pV vV used nx pv vs) ∧ CInv n l used nx pv vs
end
theorem build_ilist (n : Int) (w : World) : (Instr.build 182 [(0, .int .i64 n), (2, .int .i64 (-1)), (3, .int .i64 (-1))].toArray).run Tryz.prog w =
    .ok (.agg [.int .i64 n, .int .i64 0, .int .i64 (-1), .int .i64 (-1), .slice .none 0 0, .slice .none 0 0, .slice .none 0 0, .slice .none 0 0].toArray) w := by kernel_rfl
theorem inew_spec (n : Int) (w : World) : Spec Tryz.prog 110 [.int .i64 n] w Nil fun r H => ((n < 1 ∨ 8192 < n) ∧ r = .tuple #[.pointer .none, .int .i64 1] ∧ H = []) ∨
    ∃ (k b : Nat) (r' : Res), n = k ∧ 1 ≤ k ∧ k ≤ 8192 ∧ r = .tuple #[.pointer (some ⟨b, 0, .none⟩), .int .i64 0] ∧ H = [r'] ∧ ChR kInt b k [] r' := by
  refine enter (n := 13) Tryz.func110 rfl rfl [(0, _)] rfl ⟨rfl, trivial⟩ (Holds.start _ _) ?_
  refine w_seq (w_reg (wl_f (f_assign rfl) (wl_f (f_assign rfl) (wl_end [(0, _)] ⟨rfl, trivial⟩ ?_))))
  refine w_seq (w_seq (w_reg (wl_f (f_move rfl) (wl_f (f_lss rfl rfl) ?_))))
  refine wl_f (f_move rfl) ?_
  refine wl_or (j := 2) (c := decide (8192 < n)) 2 [(0, _)] ⟨rfl, trivial⟩ rfl rfl rfl rfl rfl (fun hg1_5 => ?_) (fun w1_5 => ?_)
  · skip
    refine wl_gf rfl rfl (f_move rfl) ?_
    refine wl_gf rfl rfl (f_gtr rfl rfl) ?_
    exact wl_pend rfl rfl ⟨rfl, trivial⟩ (List.Sublist.refl _)
  refine wl_end [(0, _), (9, _)] ⟨rfl, rfl, trivial⟩ ?_
  refine w_ifb rfl (fun hc1 => ?_) (fun hc1 => ?_)
  · skip
    simp only [Bool.or_eq_true, decide_eq_true_eq] at hc1
    refine w_seq (w_reg (wl_f (f_assign rfl) (wl_f (f_assign rfl) (wl_end [(2, _), (3, _)] ⟨rfl, rfl, trivial⟩ ?_))))
    refine w_ret ?_
    refine ⟨_, _, fun a ha hh => results_tmps Tryz.results110 rfl a ha _, List.Sublist.refl _, ?_⟩
    exact .inl ⟨hc1, rfl, rfl⟩
  · skip
    simp only [Bool.or_eq_true, decide_eq_true_eq, not_or] at hc1
    refine w_skip ?_
    refine w_seq (w_reg (wl_f (f_move rfl) (wl_f (f_build rfl (fun w => build_ilist _ w)) ?_)))
    refine wl_e (e_box (cs := [_, _, _, _, _, _, _, _]) rfl rfl) ?_
    rintro _ _ w3_2 ⟨b3_2, rfl, rfl⟩
    refine wl_f (f_assign rfl) (wl_f (f_assign rfl) (wl_end [(2, _), (3, _)] ⟨rfl, rfl, trivial⟩ ?_))
    refine w_nilrow 4 1 ?_
    refine w_nilrow 3 1 ?_
    refine w_nilrow 3 1 ?_
    refine w_nilrow (kInt).elem (kInt).sz ?_
    refine w_pick [4, 3, 2, 1, 0] rfl ?_
    refine w_bun (H := []) [_, _, _, _, _] ?_
    refine w_ret ?_
    refine ⟨_, _, fun a ha hh => results_tmps Tryz.results110 rfl a ha _, List.Sublist.refl _, ?_⟩
    obtain ⟨k, rfl⟩ : ∃ k : Nat, n = k := ⟨n.toNat, by omega⟩
    exact .inr ⟨k, b3_2, _, rfl, by omega, by omega, rfl, rfl, _, _, _, _, [], [], [], [], rfl, CInv.new k⟩
theorem build_blist (n : Int) (w : World) : (Instr.build 131 [(0, .int .i64 n), (2, .int .i64 (-1)), (3, .int .i64 (-1))].toArray).run Tryz.prog w =
    .ok (.agg [.int .i64 n, .int .i64 0, .int .i64 (-1), .int .i64 (-1), .slice .none 0 0, .slice .none 0 0, .slice .none 0 0, .slice .none 0 0].toArray) w := by kernel_rfl
theorem bnew_spec (n : Int) (w : World) : Spec Tryz.prog 52 [.int .i64 n] w Nil fun r H => ((n < 1 ∨ 8192 < n) ∧ r = .tuple #[.pointer .none, .int .i64 1] ∧ H = []) ∨
    ∃ (k b : Nat) (r' : Res), n = k ∧ 1 ≤ k ∧ k ≤ 8192 ∧ r = .tuple #[.pointer (some ⟨b, 0, .none⟩), .int .i64 0] ∧ H = [r'] ∧ ChR kBuc b k [] r' := by
  refine enter (n := 13) Tryz.func52 rfl rfl [(0, _)] rfl ⟨rfl, trivial⟩ (Holds.start _ _) ?_
  refine w_seq (w_reg (wl_f (f_assign rfl) (wl_f (f_assign rfl) (wl_end [(0, _)] ⟨rfl, trivial⟩ ?_))))
  refine w_seq (w_seq (w_reg (wl_f (f_move rfl) (wl_f (f_lss rfl rfl) ?_))))
  refine wl_f (f_move rfl) ?_
  refine wl_or (j := 2) (c := decide (8192 < n)) 2 [(0, _)] ⟨rfl, trivial⟩ rfl rfl rfl rfl rfl (fun hg1_5 => ?_) (fun w1_5 => ?_)
  · skip
    refine wl_gf rfl rfl (f_move rfl) ?_
    refine wl_gf rfl rfl (f_gtr rfl rfl) ?_
    exact wl_pend rfl rfl ⟨rfl, trivial⟩ (List.Sublist.refl _)
  refine wl_end [(0, _), (9, _)] ⟨rfl, rfl, trivial⟩ ?_
  refine w_ifb rfl (fun hc1 => ?_) (fun hc1 => ?_)
  · skip
    simp only [Bool.or_eq_true, decide_eq_true_eq] at hc1
    refine w_seq (w_reg (wl_f (f_assign rfl) (wl_f (f_assign rfl) (wl_end [(2, _), (3, _)] ⟨rfl, rfl, trivial⟩ ?_))))
    refine w_ret ?_
    refine ⟨_, _, fun a ha hh => results_tmps Tryz.results52 rfl a ha _, List.Sublist.refl _, ?_⟩
    exact .inl ⟨hc1, rfl, rfl⟩
  · skip
    simp only [Bool.or_eq_true, decide_eq_true_eq, not_or] at hc1
    refine w_skip ?_
    refine w_seq (w_reg (wl_f (f_move rfl) (wl_f (f_build rfl (fun w => build_blist _ w)) ?_)))
    refine wl_e (e_box (cs := [_, _, _, _, _, _, _, _]) rfl rfl) ?_
    rintro _ _ w3_2 ⟨b3_2, rfl, rfl⟩
    refine wl_f (f_assign rfl) (wl_f (f_assign rfl) (wl_end [(2, _), (3, _)] ⟨rfl, rfl, trivial⟩ ?_))
    refine w_nilrow 4 1 ?_
    refine w_nilrow 3 1 ?_
    refine w_nilrow 3 1 ?_
    refine w_nilrow (kBuc).elem (kBuc).sz ?_
    refine w_pick [4, 3, 2, 1, 0] rfl ?_
    refine w_bun (H := []) [_, _, _, _, _] ?_
    refine w_ret ?_
    refine ⟨_, _, fun a ha hh => results_tmps Tryz.results52 rfl a ha _, List.Sublist.refl _, ?_⟩
    obtain ⟨k, rfl⟩ : ∃ k : Nat, n = k := ⟨n.toNat, by omega⟩
    exact .inr ⟨k, b3_2, _, rfl, by omega, by omega, rfl, rfl, _, _, _, _, [], [], [], [], rfl, CInv.new k⟩
end Go.Proofs.YtmagdjlcckgkpaaGreat

/- The hash of a key. -/
namespace Go.Proofs.YtmagdjlcckgkpaaGreat
open Go.RowKit

theorem t95 : SlT Tryz.prog 95 33 1 8 (.int .u64 0) := .mk' Tryz.underlying95 (by kernel_rfl) rfl (by decide)
def u64v (l : List Nat) : List Value := l.map fun c : Nat => Value.int .u64 (c : Int)
theorem u64v_len (l : List Nat) : (u64v l).length = l.length := by simp [u64v]
theorem u64v_get {l : List Nat} {i c : Nat} (h : l[i]? = some c) : (u64v l)[i]? = some (.int .u64 (c : Int)) := by rw [u64v, List.getElem?_map, h]; rfl
theorem wrap_u64 {p q : Int} (h : IntKind.u64.wrap p = q) : ∃ k : Nat, q = k ∧ k < 18446744073709551616 := by
  subst h
  have h : IntKind.u64.wrap p = p % 18446744073709551616 := by rfl
  exact ⟨(p % 18446744073709551616).toNat, by rw [h]; omega, by omega⟩
theorem xor_u64 (p q : Int) : ∃ k : Nat, bits .xor .u64 p q = k ∧ k < 18446744073709551616 := by
  obtain ⟨k, e, h⟩ := wrap_u64 (p := ((BitVec.ofInt IntKind.u64.bits p ^^^ BitVec.ofInt IntKind.u64.bits q).toNat : Int)) rfl
  exact ⟨k, e, h⟩
def hrot (h k : Int) : Int := bits .or .u64 (IntKind.u64.wrap (h * 2 ^ min k.toNat IntKind.u64.bits)) (h.fdiv (2 ^ min (64 - k).toNat IntKind.u64.bits))
def hmix (T : List Nat) (h : Int) (b : Nat) : Int := bits .xor .u64 (hrot h 5) ((T.getD (b / 16) 0 : Nat) : Int)
def hstep (T : List Nat) (h : Int) (b : Nat) : Int := IntKind.u64.wrap (IntKind.u64.wrap (hrot (hmix T h b) 7 + ((T.getD (b % 16) 0 : Nat) : Int)) * 11400714819323198485)
def hfold (T : List Nat) (seed : Int) (l : List UInt8) : Int := l.foldl (fun h b => hstep T h b.toNat) seed
def hlast (h : Int) : Int := bits .xor .u64 h (h.fdiv (2 ^ min (32 : Int).toNat IntKind.u64.bits))
def hkey (T : List Nat) (seed : Int) (s : ByteArray) : Int := hlast (hfold T seed s.data.toList)
theorem hkey_rng (T : List Nat) (seed : Int) (s : ByteArray) : 0 ≤ hkey T seed s ∧ hkey T seed s < 18446744073709551616 := by
  obtain ⟨k, e, h⟩ := xor_u64 (hfold T seed s.data.toList) ((hfold T seed s.data.toList).fdiv (2 ^ min (32 : Int).toNat IntKind.u64.bits))
  have : hkey T seed s = k := e
  omega
def hslot (T : List Nat) (seed : Int) (N : Nat) (s : ByteArray) : Nat := (hkey T seed s % N).toNat
theorem hslot_lt (T : List Nat) (seed : Int) {N : Nat} (h : 1 ≤ N) (s : ByteArray) : hslot T seed N s < N := by
  have h1 := Int.emod_nonneg (hkey T seed s) (show (N : Int) ≠ 0 by omega)
  have h2 := Int.emod_lt_of_pos (hkey T seed s) (show (0 : Int) < N by omega)
  unfold hslot; omega

theorem check_ok (A : Option Addr) (c : Nat) (w : World) : Spec Tryz.prog 53 [.slice A 16 c] w Nil fun r H => r = .int .i64 0 ∧ H = [] := by
  refine enter (n := 6) Tryz.func53 rfl rfl [(0, _)] rfl ⟨rfl, trivial⟩ (Holds.start _ _) ?_
  refine w_seq (w_reg (wl_f (f_assign rfl) (wl_end [(0, _)] ⟨rfl, trivial⟩ ?_)))
  refine w_seq (w_seq (w_reg (wl_f (f_move rfl) (wl_f (f_len rfl Tryz.underlying95) ?_))))
  refine wl_f (f_neq rfl rfl) ?_
  refine wl_end [(5, _)] ⟨rfl, trivial⟩ ?_
  refine w_iff rfl ?_
  refine w_skip ?_
  refine w_seq (w_reg (wl_f (f_assign rfl) (wl_end [(2, _)] ⟨rfl, trivial⟩ ?_)))
  refine w_ret ?_
  refine ⟨_, _, fun a ha hh => results_tmps Tryz.results53 rfl a ha _, List.Sublist.refl _, ?_⟩
  exact ⟨rfl, rfl⟩
theorem check_spec (A : Option Addr) (l c : Nat) (w : World) : Spec Tryz.prog 53 [.slice A l c] w Nil fun r H => r = .int .i64 (if l = 16 then 0 else 11) ∧ H = [] := by
  refine enter (n := 6) Tryz.func53 rfl rfl [(0, _)] rfl ⟨rfl, trivial⟩ (Holds.start _ _) ?_
  refine w_seq (w_reg (wl_f (f_assign rfl) (wl_end [(0, _)] ⟨rfl, trivial⟩ ?_)))
  refine w_seq (w_seq (w_reg (wl_f (f_move rfl) (wl_f (f_len rfl Tryz.underlying95) ?_))))
  refine wl_f (f_neq rfl rfl) ?_
  refine wl_end [(5, _)] ⟨rfl, trivial⟩ ?_
  refine w_ifd rfl (fun hc1 => ?_) (fun hc1 => ?_)
  · skip
    refine w_seq (w_reg (wl_f (f_assign rfl) (wl_end [(2, _)] ⟨rfl, trivial⟩ ?_)))
    refine w_ret ?_
    refine ⟨_, _, fun a ha hh => results_tmps Tryz.results53 rfl a ha _, List.Sublist.refl _, ?_⟩
    rw [if_neg (fun h => hc1 (by rw [h]; rfl))]; exact ⟨rfl, rfl⟩
  · skip
    have h : l = 16 := by
      have : (l : Int) = 16 := Classical.not_not.1 hc1
      omega
    refine w_skip ?_
    refine w_seq (w_reg (wl_f (f_assign rfl) (wl_end [(2, _)] ⟨rfl, trivial⟩ ?_)))
    refine w_ret ?_
    refine ⟨_, _, fun a ha hh => results_tmps Tryz.results53 rfl a ha _, List.Sublist.refl _, ?_⟩
    rw [if_pos h]; exact ⟨rfl, rfl⟩
theorem rot_spec (h : Int) (k : Nat) (w : World) (hk : 1 ≤ k ∧ k ≤ 63) : Spec Tryz.prog 135 [.int .u64 h, .int .u64 (k : Int)] w Nil fun r H => r = .int .u64 (hrot h k) ∧ H = [] := by
  refine enter (n := 13) Tryz.func135 rfl rfl [(0, _), (1, _)] rfl ⟨rfl, rfl, trivial⟩ (Holds.start _ _) ?_
  refine w_seq (w_reg (wl_f (f_assign rfl) (wl_end [(0, _), (1, _)] ⟨rfl, rfl, trivial⟩ ?_)))
  refine w_seq (w_reg (wl_f (f_move rfl) (wl_f (f_move rfl) (wl_f (f_shl rfl rfl (by omega) rfl) ?_))))
  refine wl_f (f_move rfl) (wl_f (f_move rfl) (wl_f (f_subu rfl rfl (by omega)) ?_))
  refine wl_f (f_shr rfl rfl (by omega) rfl) ?_
  refine wl_f (f_or rfl rfl rfl) ?_
  refine wl_f (f_assign rfl) (wl_end [(4, _)] ⟨rfl, trivial⟩ ?_)
  refine w_ret ?_
  refine ⟨_, _, fun a ha hh => results_tmps Tryz.results135 rfl a ha _, List.Sublist.refl _, ?_⟩
  exact ⟨rfl, rfl⟩
theorem slot_spec (h : Int) (N : Nat) (w : World) (h0 : 0 ≤ h ∧ h < 18446744073709551616) (hN : 1 ≤ N ∧ N ≤ 16384) : Spec Tryz.prog 118 [.int .u64 h, .int .i64 (N : Int)] w Nil fun r H => r = .int .i64 (((h % N).toNat : Nat) : Int) ∧ H = [] := by
  have h1 := Int.emod_nonneg h (show (N : Int) ≠ 0 by omega)
  have h2 := Int.emod_lt_of_pos h (show (0 : Int) < N by omega)
  refine enter (n := 12) Tryz.func118 rfl rfl [(0, _), (1, _)] rfl ⟨rfl, rfl, trivial⟩ (Holds.start _ _) ?_
  refine w_seq (w_reg (wl_f (f_assign rfl) (wl_end [(0, _), (1, _)] ⟨rfl, rfl, trivial⟩ ?_)))
  refine w_seq (w_seq (w_reg (wl_f (f_move rfl) (wl_f (f_lss rfl rfl) ?_))))
  refine wl_end [(0, _), (1, _), (6, _)] ⟨rfl, rfl, rfl, trivial⟩ ?_
  refine w_ifd rfl (fun h => absurd h (by omega)) (fun _ => ?_)
  refine w_skip ?_
  refine w_seq (w_reg (wl_f (f_move rfl) (wl_f (f_move rfl) (wl_f (f_convu rfl Tryz.underlying3 Tryz.underlying33 (by omega)) ?_))))
  refine wl_f (f_rem rfl rfl (by omega)) ?_
  refine wl_f (f_convi rfl Tryz.underlying33 Tryz.underlying3 (by omega)) ?_
  refine wl_f (f_assign rfl) (wl_end [(4, _)] ⟨rfl, trivial⟩ ?_)
  refine w_ret ?_
  refine ⟨_, _, fun a ha hh => results_tmps Tryz.results118 rfl a ha _, List.Sublist.refl _, ?_⟩
  exact ⟨by rw [Int.toNat_of_nonneg h1]; rfl, rfl⟩
theorem quo16 (b : Nat) (h : b < 256) : IntKind.u8.wrap (((b : Nat) : Int).tdiv 16) = ((b / 16 : Nat) : Int) := by
  have h' : ∀ a : Fin 256, IntKind.u8.wrap (((a.val : Nat) : Int).tdiv 16) = ((a.val / 16 : Nat) : Int) := by decide +kernel
  exact h' ⟨b, h⟩

set_option maxHeartbeats 1000000 in
theorem hkey_spec (T : List Nat) (tv : Value) (seed : Int) (s : ByteArray) (w : World) (hT : T.length = 16) (ht : Rd w Nil 1 tv 16 (u64v T)) (hs : s.size ≤ 140737488355328) :
    Spec Tryz.prog 119 [tv, .int .u64 seed, .string s] w Nil fun r H => r = .int .u64 (hkey T seed s) ∧ H = [] := by
  obtain ⟨A1, c1, rfl, -, hc1', g1⟩ := ht
  obtain ⟨b1, o1, rfl, -, -, d1⟩ := g1.resolve_left (by omega)
  have hsl : s.size = s.data.toList.length := by rw [Array.length_toList]; rfl
  refine enter (n := 44) Tryz.func119 rfl rfl [(0, _), (1, _), (2, _)] rfl ⟨rfl, rfl, rfl, trivial⟩ (Holds.start _ _) ?_
  refine w_seq (w_reg (wl_f (f_assign rfl) (wl_end [(0, _), (1, _), (2, _)] ⟨rfl, rfl, rfl, trivial⟩ ?_)))
  refine w_seq (w_seq (w_reg (wl_f (f_move rfl) (wl_e (e_call0 rfl Tryz.func53 (by kernel_rfl) (fun w hh => check_ok _ _ w)) ?_))))
  rintro _ _ w1 ⟨_, rfl, rfl, rfl⟩
  refine wl_f (f_neq rfl rfl) ?_
  refine wl_end [(0, _), (1, _), (2, _), (12, _)] ⟨rfl, rfl, rfl, rfl, trivial⟩ ?_
  refine w_ifb rfl (fun h => absurd h (by simp)) (fun _ => ?_)
  refine w_skip ?_
  refine w_seq (w_reg (wl_f (f_move rfl) (wl_f (f_assign rfl) (wl_end [(0, _), (2, _), (7, _)] ⟨rfl, rfl, rfl, trivial⟩ ?_))))
  refine w_seq (w_seq (w_reg (wl_f (f_move rfl) (wl_f (f_lens rfl Tryz.underlying9) ?_))))
  refine wl_f (f_move rfl) (wl_end [(0, _), (2, _), (7, _), (15, _), (16, _)] ⟨rfl, rfl, rfl, rfl, rfl, trivial⟩ ?_)
  refine w_block ?_
  refine w_loop (fun k m H w => ∃ i : Nat, m = [(0, .slice (some ⟨b1, o1, .none⟩) 16 c1), (2, .string s), (7, .int .u64 (hfold T seed (s.data.toList.take i))), (15, .int .i64 s.size), (16, .int .i64 i)] ∧ H = [] ∧ k + i = s.size) s.size ⟨0, rfl, rfl, rfl⟩ ?_
  rintro k _ _ w' ⟨i, rfl, rfl, hk⟩
  refine w_seq (w_reg (wl_f (f_lss rfl rfl) ?_))
  refine wl_end [(0, _), (2, _), (7, _), (15, _), (16, _), (17, _)] ⟨rfl, rfl, rfl, rfl, rfl, rfl, trivial⟩ ?_
  refine w_seq ?_
  refine w_ifd rfl (fun hc2 => ?_) (fun hc2 => ?_)
  · skip
    have hi : i < s.data.toList.length := by
      have : (i : Int) < (s.size : Int) := hc2
      omega
    obtain ⟨b, hb⟩ : ∃ b, s.data.toList[i]? = some b := ⟨_, List.getElem?_eq_getElem hi⟩
    have hb' : s.data[i]? = some b := by rw [← Array.getElem?_toList]; exact hb
    have hbl : b.toNat < 256 := b.toNat_lt
    have hq : b.toNat / 16 < 16 := by omega
    have hr : b.toNat % 16 < 16 := by omega
    have hTq : T[b.toNat / 16]? = some (T.getD (b.toNat / 16) 0) := by rw [List.getD_eq_getElem?_getD, List.getElem?_eq_getElem (by omega)]; rfl
    have hTr : T[b.toNat % 16]? = some (T.getD (b.toNat % 16) 0) := by rw [List.getD_eq_getElem?_getD, List.getElem?_eq_getElem (by omega)]; rfl
    refine w_skip ?_
    refine w_seq (w_block ?_)
    refine w_seq (w_reg (wl_f (f_move rfl) (wl_f (f_assign rfl) (wl_end [(0, _), (2, _), (7, _), (8, _), (15, _), (16, _)] ⟨rfl, rfl, rfl, rfl, rfl, rfl, trivial⟩ ?_))))
    refine w_seq (w_reg (wl_f (f_move rfl) (wl_f (f_move rfl) (wl_f (f_indexs rfl rfl Tryz.underlying9 rfl hb') ?_))))
    refine wl_f (f_assign rfl) (wl_end [(0, _), (2, _), (7, _), (9, _), (15, _), (16, _)] ⟨rfl, rfl, rfl, rfl, rfl, rfl, trivial⟩ ?_)
    refine w_seq ?_
    refine w_draw [(0, true), (2, true), (3, true), (4, true), (5, true), (6, true), (1, false), (7, true), (8, true)] (_) ([]) mixed (by kernel_rfl) (by kernel_rfl) rfl (perm_all _) (fun w8_ => ?_)
    refine wd_f rfl (f_move rfl) (wd_f rfl (f_move rfl) (wd_f rfl (f_move rfl) (wd_f rfl (f_quow rfl rfl (by decide) (quo16 _ hbl)) ?_)))
    refine wd_f rfl (f_indexAddr 1 (i := b.toNat / 16) rfl rfl Tryz.underlying95 (by kernel_rfl) rfl hq) ?_
    refine wd_f rfl (f_loado (v := .int .u64 ((T.getD (b.toNat / 16) 0 : Nat) : Int)) rfl Tryz.underlying33 rfl (d1 _ _ (by rw [Nat.mul_one]; exact u64v_get hTq)) id) ?_
    refine wd_e rfl (e_call0 rfl Tryz.func135 (by kernel_rfl) (fun w hh => rot_spec _ 5 w (by omega))) ?_
    rintro _ _ w8 ⟨_, rfl, rfl, rfl⟩
    refine ⟨_, List.perm_append_comm_assoc _ _ _, ?_⟩
    refine wd_f rfl (f_xor rfl rfl rfl) ?_
    refine wd_f rfl (f_assign rfl) (wd_end [(0, _), (2, _), (7, _), (9, _), (15, _), (16, _)] ⟨rfl, rfl, rfl, rfl, rfl, rfl, trivial⟩ ?_)
    refine w_draw [(0, true), (2, true), (3, true), (4, true), (5, true), (6, true), (1, false), (7, true), (8, true), (9, true)] (_) ([]) mixed (by kernel_rfl) (by kernel_rfl) rfl (perm_all _) (fun w9_ => ?_)
    refine wd_f rfl (f_move rfl) (wd_f rfl (f_move rfl) (wd_f rfl (f_move rfl) (wd_f rfl (f_eqv (v' := .int .u8 ((b.toNat % 16 : Nat) : Int)) (f_rem rfl rfl (by omega)) (by rw [Int.natCast_emod]; rfl)) ?_)))
    refine wd_f rfl (f_indexAddr 1 (i := b.toNat % 16) rfl rfl Tryz.underlying95 (by kernel_rfl) rfl hr) ?_
    refine wd_f rfl (f_loado (v := .int .u64 ((T.getD (b.toNat % 16) 0 : Nat) : Int)) rfl Tryz.underlying33 rfl (d1 _ _ (by rw [Nat.mul_one]; exact u64v_get hTr)) id) ?_
    refine wd_e rfl (e_call0 rfl Tryz.func135 (by kernel_rfl) (fun w hh => rot_spec _ 7 w (by omega))) ?_
    rintro _ _ w9 ⟨_, rfl, rfl, rfl⟩
    refine ⟨_, List.perm_append_comm_assoc _ _ _, ?_⟩
    refine wd_f rfl (f_addw rfl rfl) ?_
    refine wd_f rfl (f_mulw rfl rfl) ?_
    refine wd_f rfl (f_assign rfl) (wd_end [(0, _), (2, _), (7, _), (15, _), (16, _)] ⟨rfl, rfl, rfl, rfl, rfl, trivial⟩ ?_)
    refine w_reg (wl_f (f_add rfl rfl (by omega)) ?_)
    refine wl_f (f_move rfl) (wl_end [(0, _), (2, _), (7, _), (15, _), (16, _)] ⟨rfl, rfl, rfl, rfl, rfl, trivial⟩ ?_)
    refine ⟨k - 1, by omega, i + 1, ?_, rfl, by omega⟩
    rw [List.take_add_one, hb]
    simp only [hfold, Option.toList, List.foldl_append, List.foldl_cons, List.foldl_nil]
    rfl
  · skip
    have hi : i = s.size := by
      have : ¬ (i : Int) < (s.size : Int) := hc2
      omega
    subst hi
    rw [hsl, List.take_length]
    refine w_exit0 ?_
    refine w_seq (w_reg (wl_f (f_move rfl) (wl_f (f_move rfl) (wl_f (f_shr rfl rfl (by omega) rfl) ?_))))
    refine wl_f (f_xor rfl rfl rfl) ?_
    refine wl_f (f_assign rfl) (wl_end [(6, _)] ⟨rfl, trivial⟩ ?_)
    refine w_ret ?_
    refine ⟨_, _, fun a ha hh => results_tmps Tryz.results119 rfl a ha _, List.Sublist.refl _, ?_⟩
    exact ⟨rfl, rfl⟩
end Go.Proofs.YtmagdjlcckgkpaaGreat

/- Tables: what they are, making one, where a key is. Two kinds of values. -/
namespace Go.Proofs.YtmagdjlcckgkpaaGreat
open Go.RowKit

structure VI (α : Type) where
  map : TypeId
  cell : TypeId
  val : α → Value
  zero : α
def xInt : VI Int := ⟨124, 154, fun z => .int .i64 z, 0⟩
def xU64 : VI Nat := ⟨127, 212, fun z => .int .u64 (z : Nat), 0⟩
theorem t122 : SlT Tryz.prog 122 154 3 32 (.agg #[.bool false, .string ByteArray.empty, .int .i64 0]) := .mk' Tryz.underlying122 (by kernel_rfl) rfl (by decide)
theorem t125 : SlT Tryz.prog 125 212 3 32 (.agg #[.bool false, .string ByteArray.empty, .int .u64 0]) := .mk' Tryz.underlying125 (by kernel_rfl) rfl (by decide)

section
variable {α : Type} (K : VI α)
def icell : Option (ByteArray × α) → List Value
  | none => [.bool false, .string ByteArray.empty, K.val K.zero]
  | some x => [.bool true, .string x.1, K.val x.2]
def icells (cs : Cells α) : List Value := cs.flatMap (icell K)
theorem icell_len (o : Option (ByteArray × α)) : (icell K o).length = 3 := by cases o <;> rfl
theorem icells_len (cs : Cells α) : (icells K cs).length = cs.length * 3 := by
  induction cs with
  | nil => rfl
  | cons o cs ih => simp only [icells, List.flatMap_cons, List.length_append, icell_len, List.length_cons] at ih ⊢; omega
theorem icells_get {cs : Cells α} {i : Nat} {o : Option (ByteArray × α)} (h : cs[i]? = some o) : ((icells K cs).drop (0 + i * 3)).take 3 = icell K o := by
  obtain ⟨hi, rfl⟩ := List.getElem?_eq_some_iff.1 h
  have e : cs = cs.take i ++ cs[i] :: cs.drop (i + 1) := by rw [← List.drop_eq_getElem_cons hi, List.take_append_drop]
  have hl : (icells K (cs.take i)).length = i * 3 := by rw [icells_len, List.length_take]; omega
  have e2 : icells K cs = icells K (cs.take i) ++ (icell K cs[i] ++ icells K (cs.drop (i + 1))) := by
    conv => lhs; rw [e]
    simp only [icells, List.flatMap_append, List.flatMap_cons]
  rw [e2, Nat.zero_add, ← hl, List.drop_left, List.take_append_of_le_length (by rw [icell_len]; exact Nat.le_refl _), List.take_of_length_le (by rw [icell_len]; exact Nat.le_refl _)]
theorem icells_set {cs : Cells α} {i : Nat} (o : Option (ByteArray × α)) (hi : i < cs.length) : (icells K cs).take (0 + i * 3) ++ icell K o ++ (icells K cs).drop (0 + i * 3 + 3) = icells K (cs.set i o) := by
  have e : cs = cs.take i ++ cs[i] :: cs.drop (i + 1) := by rw [← List.drop_eq_getElem_cons hi, List.take_append_drop]
  have hl : (icells K (cs.take i)).length = i * 3 := by rw [icells_len, List.length_take]; omega
  have e2 : icells K cs = icells K (cs.take i) ++ (icell K cs[i] ++ icells K (cs.drop (i + 1))) := by
    conv => lhs; rw [e]
    simp only [icells, List.flatMap_append, List.flatMap_cons]
  have e3 : cs.set i o = cs.take i ++ o :: cs.drop (i + 1) := List.set_eq_take_append_cons_drop.trans (if_pos hi)
  have e4 : icells K (cs.set i o) = icells K (cs.take i) ++ (icell K o ++ icells K (cs.drop (i + 1))) := by
    rw [e3]; simp only [icells, List.flatMap_append, List.flatMap_cons]
  rw [e4, e2, Nat.zero_add, ← hl, List.take_left, List.append_assoc]
  congr 2
  rw [← List.append_assoc, show (icells K (cs.take i)).length + 3 = (icells K (cs.take i) ++ icell K cs[i]).length by rw [List.length_append, icell_len], List.drop_left]
theorem icells_j {cs : Cells α} {i : Nat} {o : Option (ByteArray × α)} (h : cs[i]? = some o) (j : Nat) {v : Value} (hj : (icell K o)[j]? = some v) (hj3 : j < 3) : (icells K cs)[0 + i * 3 + j]? = some v := by
  have h1 : (((icells K cs).drop (0 + i * 3)).take 3)[j]? = some v := by rw [icells_get K h]; exact hj
  rw [List.getElem?_take, if_pos hj3, List.getElem?_drop] at h1
  exact h1

def ims (b n N len : Nat) (T : List Nat) (seed : Int) (tV cV : Value) (cs : Cells α) : List Res :=
  [blk b [.int .i64 (n : Int), .int .i64 (len : Int), tV, .int .u64 seed, cV] K.map, row tV 33 1 16 (u64v T), row cV K.cell 3 N (icells K cs)]
/-- A table whose cells are known. -/
def TbC (b n N len : Nat) (T : List Nat) (seed : Int) (cs : Cells α) (r : Res) : Prop :=
  1 ≤ n ∧ n ≤ 8192 ∧ N = 2 * n ∧ T.length = 16 ∧ cs.length = N ∧ ∃ tV cV, r = bun (ims K b n N len T seed tV cV cs)
abbrev small (s : ByteArray) : Prop := s.size ≤ 140737488355328
/-- A table with its keys and values. -/
def TbR (b n : Nat) (T : List Nat) (seed : Int) (M : List (ByteArray × α)) (r : Res) : Prop :=
  ∃ N cs, TbC K b n N (ents cs).length T seed cs r ∧ TInv (hslot T seed N) N cs ∧ (ents cs).Perm M ∧ (ents cs).length ≤ n ∧ ∀ x ∈ ents cs, small x.1
end

theorem u64v_one (l : List Nat) : ∀ u ∈ u64v l, u.oneCell' = true := by
  intro u hu; simp only [u64v, List.mem_map] at hu; obtain ⟨b, _, rfl⟩ := hu; rfl
set_option maxHeartbeats 1000000 in
theorem clone_spec (T : List Nat) (tv : Value) (w : World) (hT : T.length = 16) (ht : Rd w Nil 1 tv 16 (u64v T)) :
    Spec Tryz.prog 54 [tv] w Nil fun u H => ∃ A c, u = .slice A 16 c ∧ H = [row (.slice A 16 c) 33 1 16 (u64v T)] := by
  obtain ⟨A1, c1, rfl, h2, hc1', g1⟩ := id ht
  obtain ⟨b1, o1, rfl, -, -, d1⟩ := g1.resolve_left (by omega)
  refine enter (n := 8) Tryz.func54 rfl rfl [(0, _)] rfl ⟨rfl, trivial⟩ (Holds.start _ _) ?_
  refine w_seq (w_reg (wl_f (f_assign rfl) (wl_end [(0, _)] ⟨rfl, trivial⟩ ?_)))
  refine w_seq (w_seq (w_reg (wl_f (f_move rfl) (wl_f (f_eqlslnil rfl rfl Tryz.underlying95) ?_))))
  refine wl_end [(0, _), (4, _)] ⟨rfl, rfl, trivial⟩ ?_
  refine w_iff rfl ?_
  refine w_skip ?_
  refine w_seq (w_reg (wl_e (e_lit0 t95) ?_))
  rintro _ _ w3_0 ⟨b3_0, rfl, rfl⟩
  refine wl_f (f_move rfl) (wl_e (e_appS0 t95 rfl rfl (fun w hh => ht.old0 hh) (u64v_one _) (by omega) (by omega)) ?_)
  rintro _ _ w3 ⟨⟨A3, c3, rfl⟩, rfl⟩
  refine wl_f (f_assign rfl) (wl_end [(2, _)] ⟨rfl, trivial⟩ ?_)
  refine w_ret ?_
  refine ⟨_, _, fun a ha hh => results_tmps Tryz.results54 rfl a ha _, List.Sublist.refl _, ?_⟩
  exact ⟨_, _, rfl, rfl⟩

set_option maxHeartbeats 1000000 in
theorem ihome_spec (b n N len : Nat) (T : List Nat) (seed : Int) (cs : Cells _) (r : Res) (k : ByteArray) (w : World) (hk : small k) (hr : TbC xInt b n N len T seed cs r) (hs : Holds w r.foot [r] w) :
    Spec Tryz.prog 102 [.pointer (some ⟨b, 0, .none⟩), .string k] w r.foot fun v H => v = .int .i64 (hslot T seed N k : Nat) ∧ H = [r] := by
  obtain ⟨hn1, hn2, rfl, hT, hcl, tV, cV, rfl⟩ := hr
  refine enter (n := 21) Tryz.func102 rfl rfl [(0, _), (1, _)] rfl ⟨rfl, rfl, trivial⟩ hs ?_
  refine w_with fun hh => ?_
  obtain ⟨C, cc, rfl⟩ := rowB_slice hh (i := 0) (j := 2) rfl rfl
  clear hh
  refine w_seq (w_reg (wl_f (f_assign rfl) (wl_end [(0, _), (1, _)] ⟨rfl, rfl, trivial⟩ ?_)))
  refine w_seq ?_
  refine w_draw [(0, true), (1, true), (2, true), (3, true), (4, true), (5, true), (6, true), (7, true), (8, true), (10, true), (11, true), (12, true), (13, true), (14, true), (9, false), (15, false), (16, true)] (_) ([]) mixed (by kernel_rfl) (by kernel_rfl) rfl (perm_all _) (fun w1_ => ?_)
  refine wd_f rfl (f_move rfl) (wd_f rfl (f_nilCheck rfl) (wd_f rfl (f_fieldAddr 2 rfl Tryz.underlying124 rfl rfl (by kernel_rfl)) ?_))
  refine wd_f rfl (f_loadB 0 0 rfl rfl rfl Tryz.underlying95 rfl rfl) ?_
  refine wd_f rfl (f_move rfl) (wd_f rfl (f_nilCheck rfl) (wd_f rfl (f_fieldAddr 3 rfl Tryz.underlying124 rfl rfl (by kernel_rfl)) ?_))
  refine wd_f rfl (f_loadB 0 0 rfl rfl rfl Tryz.underlying33 rfl rfl) ?_
  refine wd_f rfl (f_move rfl) (wd_f rfl (f_move rfl) (wd_f rfl (f_nilCheck rfl) (wd_f rfl (f_fieldAddr 4 rfl Tryz.underlying124 rfl rfl (by kernel_rfl)) ?_)))
  refine wd_f rfl (f_loadB 0 0 rfl rfl rfl Tryz.underlying122 rfl rfl) ?_
  refine wd_f rfl (f_len rfl Tryz.underlying122) ?_
  refine wd_e rfl (e_call0 rfl Tryz.func119 (by kernel_rfl) (fun w hh => hkey_spec T tV seed k w hT (Rd.heldB hh (i := 0) (j := 1) rfl rfl) hk)) ?_
  rintro _ _ w1 ⟨_, rfl, rfl, rfl⟩
  refine ⟨_, List.perm_append_comm_assoc _ _ _, ?_⟩
  refine wd_e rfl (e_call0 rfl Tryz.func118 (by kernel_rfl) (fun w hh => slot_spec (hkey T seed k) (2 * n) w (hkey_rng T seed k) (by omega))) ?_
  rintro _ _ w2 ⟨_, rfl, rfl, rfl⟩
  refine ⟨_, List.perm_append_comm_assoc _ _ _, ?_⟩
  refine wd_f rfl (f_assign rfl) (wd_end [(4, _)] ⟨rfl, trivial⟩ ?_)
  refine w_ret ?_
  refine ⟨_, _, fun a ha hh => results_tmps Tryz.results102 rfl a ha _, List.Sublist.refl _, ?_⟩
  exact ⟨rfl, rfl⟩
set_option maxHeartbeats 1000000 in
theorem uhome_spec (b n N len : Nat) (T : List Nat) (seed : Int) (cs : Cells _) (r : Res) (k : ByteArray) (w : World) (hk : small k) (hr : TbC xU64 b n N len T seed cs r) (hs : Holds w r.foot [r] w) :
    Spec Tryz.prog 162 [.pointer (some ⟨b, 0, .none⟩), .string k] w r.foot fun v H => v = .int .i64 (hslot T seed N k : Nat) ∧ H = [r] := by
  obtain ⟨hn1, hn2, rfl, hT, hcl, tV, cV, rfl⟩ := hr
  refine enter (n := 21) Tryz.func162 rfl rfl [(0, _), (1, _)] rfl ⟨rfl, rfl, trivial⟩ hs ?_
  refine w_with fun hh => ?_
  obtain ⟨C, cc, rfl⟩ := rowB_slice hh (i := 0) (j := 2) rfl rfl
  clear hh
  refine w_seq (w_reg (wl_f (f_assign rfl) (wl_end [(0, _), (1, _)] ⟨rfl, rfl, trivial⟩ ?_)))
  refine w_seq ?_
  refine w_draw [(0, true), (1, true), (2, true), (3, true), (4, true), (5, true), (6, true), (7, true), (8, true), (10, true), (11, true), (12, true), (13, true), (14, true), (9, false), (15, false), (16, true)] (_) ([]) mixed (by kernel_rfl) (by kernel_rfl) rfl (perm_all _) (fun w1_ => ?_)
  refine wd_f rfl (f_move rfl) (wd_f rfl (f_nilCheck rfl) (wd_f rfl (f_fieldAddr 2 rfl Tryz.underlying127 rfl rfl (by kernel_rfl)) ?_))
  refine wd_f rfl (f_loadB 0 0 rfl rfl rfl Tryz.underlying95 rfl rfl) ?_
  refine wd_f rfl (f_move rfl) (wd_f rfl (f_nilCheck rfl) (wd_f rfl (f_fieldAddr 3 rfl Tryz.underlying127 rfl rfl (by kernel_rfl)) ?_))
  refine wd_f rfl (f_loadB 0 0 rfl rfl rfl Tryz.underlying33 rfl rfl) ?_
  refine wd_f rfl (f_move rfl) (wd_f rfl (f_move rfl) (wd_f rfl (f_nilCheck rfl) (wd_f rfl (f_fieldAddr 4 rfl Tryz.underlying127 rfl rfl (by kernel_rfl)) ?_)))
  refine wd_f rfl (f_loadB 0 0 rfl rfl rfl Tryz.underlying125 rfl rfl) ?_
  refine wd_f rfl (f_len rfl Tryz.underlying125) ?_
  refine wd_e rfl (e_call0 rfl Tryz.func119 (by kernel_rfl) (fun w hh => hkey_spec T tV seed k w hT (Rd.heldB hh (i := 0) (j := 1) rfl rfl) hk)) ?_
  rintro _ _ w1 ⟨_, rfl, rfl, rfl⟩
  refine ⟨_, List.perm_append_comm_assoc _ _ _, ?_⟩
  refine wd_e rfl (e_call0 rfl Tryz.func118 (by kernel_rfl) (fun w hh => slot_spec (hkey T seed k) (2 * n) w (hkey_rng T seed k) (by omega))) ?_
  rintro _ _ w2 ⟨_, rfl, rfl, rfl⟩
  refine ⟨_, List.perm_append_comm_assoc _ _ _, ?_⟩
  refine wd_f rfl (f_assign rfl) (wd_end [(4, _)] ⟨rfl, trivial⟩ ?_)
  refine w_ret ?_
  refine ⟨_, _, fun a ha hh => results_tmps Tryz.results162 rfl a ha _, List.Sublist.refl _, ?_⟩
  exact ⟨rfl, rfl⟩

/-- Where a search ends. -/
def FindG {α : Type} (hf : ByteArray → Nat) (N : Nat) (cs : Cells α) (k : ByteArray) (v : Value) : Prop :=
  ∃ i < N, (cs[adv N (hf k) i]? = some none ∧ v = .tuple #[.int .i64 (adv N (hf k) i : Nat), .bool false] ∧ (∀ j < i, ∀ y, cs[adv N (hf k) j]? ≠ some (some (k, y))) ∧ ∀ j < i, Occ cs (adv N (hf k) j)) ∨
    ∃ y, cs[adv N (hf k) i]? = some (some (k, y)) ∧ v = .tuple #[.int .i64 (adv N (hf k) i : Nat), .bool true]

set_option maxHeartbeats 2000000 in
theorem ifind_spec (b n N len : Nat) (T : List Nat) (seed : Int) (cs : Cells _) (r : Res) (k : ByteArray) (w : World) (hk : small k) (hfree : (ents cs).length < N) (hr : TbC xInt b n N len T seed cs r) (hs : Holds w r.foot [r] w) :
    Spec Tryz.prog 91 [.pointer (some ⟨b, 0, .none⟩), .string k] w r.foot fun v H => FindG (hslot T seed N) N cs k v ∧ H = [r] := by
  obtain ⟨hn1, hn2, hN, hT, hcl, tV, cV, rfl⟩ := id hr
  obtain ⟨e, heN, he⟩ := free_place (by rw [hcl]; exact hfree)
  rw [hcl] at heN
  have hh0 : hslot T seed N k < N := hslot_lt T seed (by omega) k
  have hde := adv_dst hh0 heN
  have hdl := dst_lt hh0 heN
  generalize hD : dst N (hslot T seed N k) e = D at hde hdl
  refine enter (n := 38) Tryz.func91 rfl rfl [(0, _), (1, _)] rfl ⟨rfl, rfl, trivial⟩ hs ?_
  refine w_seq (w_reg (wl_f (f_assign rfl) (wl_f (f_assign rfl) (wl_end [(0, _), (1, _)] ⟨rfl, rfl, trivial⟩ ?_))))
  refine w_seq (w_reg (wl_f (f_move rfl) (wl_f (f_move rfl) (wl_e (e_call1 _ [] rfl Tryz.func102 (by kernel_rfl) (List.Perm.refl _) (fun w hh hs' => ihome_spec b n N len T seed cs _ k w hk hr hs')) ?_))))
  rintro _ _ w1 ⟨_, rfl, rfl, rfl⟩
  generalize hhk : hslot T seed N k = h at hh0 hde
  refine wl_f (f_assign rfl) (wl_end [(0, _), (1, _), (6, _)] ⟨rfl, rfl, rfl, trivial⟩ ?_)
  refine w_seq (w_block ?_)
  refine w_with fun hh => ?_
  obtain ⟨g, cc, e2⟩ := rowB_form hh (i := 0) (j := 2) rfl rfl (by omega)
  clear hh
  subst e2
  refine w_loop (fun kk m H w => ∃ i : Nat, m = [(0, .pointer (some ⟨b, 0, .none⟩)), (1, .string k), (6, .int .i64 (adv N h i : Nat))] ∧ H = [bun (ims xInt b n N len T seed tV (.slice (some ⟨g, 0, .none⟩) N cc) cs)] ∧ kk + i = D ∧
    (∀ j < i, ∀ y, cs[adv N h j]? ≠ some (some (k, y))) ∧ ∀ j < i, Occ cs (adv N h j)) D
    ⟨0, by rw [adv_zero hh0], rfl, rfl, by omega, by omega⟩ ?_
  rintro kk _ _ w2 ⟨i, rfl, rfl, hkk, hne, hoc⟩
  have hpN := adv_lt hh0 (show i < N by omega)
  obtain ⟨o, ho⟩ : ∃ o, cs[adv N h i]? = some o := ⟨_, List.getElem?_eq_getElem (by omega)⟩
  refine w_seq (w_seq (w_reg (wl_f (f_move rfl) (wl_f (f_nilCheck rfl) (wl_f (f_fieldAddr 4 rfl Tryz.underlying124 rfl rfl (by kernel_rfl)) ?_)))))
  refine wl_f (f_loadB 0 0 rfl rfl rfl Tryz.underlying122 rfl rfl) ?_
  refine wl_f (f_move rfl) (wl_f (f_indexAddr 3 (i := adv N h i) rfl rfl Tryz.underlying122 (by kernel_rfl) rfl hpN) ?_)
  refine wl_f (f_fieldAddr 0 rfl Tryz.underlying154 rfl rfl (by kernel_rfl)) ?_
  refine wl_f (f_loadBr (v := .bool o.isSome) 0 2 rfl rfl rfl Tryz.underlying4 rfl (icells_j xInt ho 0 (by cases o <;> rfl) (by omega))) ?_
  refine wl_end [(0, _), (1, _), (6, _), (17, _)] ⟨rfl, rfl, rfl, rfl, trivial⟩ ?_
  refine w_ifb rfl (fun hc1 => ?_) (fun hc1 => ?_)
  · skip
    obtain ⟨x, rfl⟩ : ∃ x, o = some x := Option.isSome_iff_exists.1 hc1
    have hiD : i ≠ D := fun e => by rw [e, hde, he] at ho; cases ho
    refine w_skip ?_
    refine w_block ?_
    refine w_seq (w_seq (w_reg (wl_f (f_move rfl) (wl_f (f_nilCheck rfl) (wl_f (f_fieldAddr 4 rfl Tryz.underlying124 rfl rfl (by kernel_rfl)) ?_)))))
    refine wl_f (f_loadB 0 0 rfl rfl rfl Tryz.underlying122 rfl rfl) ?_
    refine wl_f (f_move rfl) (wl_f (f_indexAddr 3 (i := adv N h i) rfl rfl Tryz.underlying122 (by kernel_rfl) rfl hpN) ?_)
    refine wl_f (f_fieldAddr 1 rfl Tryz.underlying154 rfl rfl (by kernel_rfl)) ?_
    refine wl_f (f_loadBr (v := .string x.1) 0 2 rfl rfl rfl Tryz.underlying9 rfl (icells_j xInt ho 1 rfl (by omega))) ?_
    refine wl_f (f_move rfl) (wl_f (f_eqls rfl rfl) ?_)
    refine wl_end [(0, _), (1, _), (6, _), (27, _)] ⟨rfl, rfl, rfl, rfl, trivial⟩ ?_
    refine w_ifd rfl (fun hc2 => ?_) (fun hc2 => ?_)
    · skip
      obtain ⟨xk, xv⟩ := x
      obtain rfl : xk = k := hc2
      refine w_seq (w_reg (wl_f (f_move rfl) (wl_f (f_assign rfl) (wl_f (f_assign rfl) (wl_end [(4, _), (5, _)] ⟨rfl, rfl, trivial⟩ ?_)))))
      refine w_ret ?_
      refine ⟨_, _, fun a ha hh => results_tmps Tryz.results91 rfl a ha _, List.Sublist.refl _, ?_⟩
      subst hhk
      exact ⟨⟨i, by omega, .inr ⟨xv, ho, rfl⟩⟩, rfl⟩
    · skip
      refine w_skip ?_
      refine w_reg (wl_f (f_move rfl) (wl_f (f_add rfl rfl (by omega)) ?_))
      refine wl_f (f_move rfl) (wl_f (f_nilCheck rfl) (wl_f (f_fieldAddr 4 rfl Tryz.underlying124 rfl rfl (by kernel_rfl)) ?_))
      refine wl_f (f_loadB 0 0 rfl rfl rfl Tryz.underlying122 rfl rfl) ?_
      refine wl_f (f_len rfl Tryz.underlying122) ?_
      refine wl_f (f_eqv (v' := .int .i64 (adv N h (i + 1) : Nat)) (f_rem rfl rfl (by omega)) (by rw [adv_int hpN (by omega), adv_adv hh0 (by omega)])) ?_
      refine wl_f (f_assign rfl) (wl_end [(0, _), (1, _), (6, _)] ⟨rfl, rfl, rfl, trivial⟩ ?_)
      refine ⟨kk - 1, by omega, i + 1, rfl, rfl, by omega, fun j hj y => ?_, fun j hj => ?_⟩
      · rcases Nat.lt_or_eq_of_le (Nat.le_of_lt_succ hj) with h | rfl
        · exact hne j h y
        · intro e; rw [ho] at e; injection e with e; injection e with e; subst e; exact hc2 rfl
      · rcases Nat.lt_or_eq_of_le (Nat.le_of_lt_succ hj) with h | rfl
        · exact hoc j h
        · exact ⟨x, ho⟩
  · skip
    obtain rfl : o = none := by
      cases o with
      | none => rfl
      | some x => exact absurd rfl hc1
    refine w_exit0 ?_
    refine w_seq (w_reg (wl_f (f_move rfl) (wl_f (f_assign rfl) (wl_f (f_assign rfl) (wl_end [(4, _), (5, _)] ⟨rfl, rfl, trivial⟩ ?_)))))
    refine w_ret ?_
    refine ⟨_, _, fun a ha hh => results_tmps Tryz.results91 rfl a ha _, List.Sublist.refl _, ?_⟩
    subst hhk
    exact ⟨⟨i, by omega, .inl ⟨ho, rfl, hne, hoc⟩⟩, rfl⟩
set_option maxHeartbeats 2000000 in
theorem ufind_spec (b n N len : Nat) (T : List Nat) (seed : Int) (cs : Cells _) (r : Res) (k : ByteArray) (w : World) (hk : small k) (hfree : (ents cs).length < N) (hr : TbC xU64 b n N len T seed cs r) (hs : Holds w r.foot [r] w) :
    Spec Tryz.prog 159 [.pointer (some ⟨b, 0, .none⟩), .string k] w r.foot fun v H => FindG (hslot T seed N) N cs k v ∧ H = [r] := by
  obtain ⟨hn1, hn2, hN, hT, hcl, tV, cV, rfl⟩ := id hr
  obtain ⟨e, heN, he⟩ := free_place (by rw [hcl]; exact hfree)
  rw [hcl] at heN
  have hh0 : hslot T seed N k < N := hslot_lt T seed (by omega) k
  have hde := adv_dst hh0 heN
  have hdl := dst_lt hh0 heN
  generalize hD : dst N (hslot T seed N k) e = D at hde hdl
  refine enter (n := 38) Tryz.func159 rfl rfl [(0, _), (1, _)] rfl ⟨rfl, rfl, trivial⟩ hs ?_
  refine w_seq (w_reg (wl_f (f_assign rfl) (wl_f (f_assign rfl) (wl_end [(0, _), (1, _)] ⟨rfl, rfl, trivial⟩ ?_))))
  refine w_seq (w_reg (wl_f (f_move rfl) (wl_f (f_move rfl) (wl_e (e_call1 _ [] rfl Tryz.func162 (by kernel_rfl) (List.Perm.refl _) (fun w hh hs' => uhome_spec b n N len T seed cs _ k w hk hr hs')) ?_))))
  rintro _ _ w1 ⟨_, rfl, rfl, rfl⟩
  generalize hhk : hslot T seed N k = h at hh0 hde
  refine wl_f (f_assign rfl) (wl_end [(0, _), (1, _), (6, _)] ⟨rfl, rfl, rfl, trivial⟩ ?_)
  refine w_seq (w_block ?_)
  refine w_with fun hh => ?_
  obtain ⟨g, cc, e2⟩ := rowB_form hh (i := 0) (j := 2) rfl rfl (by omega)
  clear hh
  subst e2
  refine w_loop (fun kk m H w => ∃ i : Nat, m = [(0, .pointer (some ⟨b, 0, .none⟩)), (1, .string k), (6, .int .i64 (adv N h i : Nat))] ∧ H = [bun (ims xU64 b n N len T seed tV (.slice (some ⟨g, 0, .none⟩) N cc) cs)] ∧ kk + i = D ∧
    (∀ j < i, ∀ y, cs[adv N h j]? ≠ some (some (k, y))) ∧ ∀ j < i, Occ cs (adv N h j)) D
    ⟨0, by rw [adv_zero hh0], rfl, rfl, by omega, by omega⟩ ?_
  rintro kk _ _ w2 ⟨i, rfl, rfl, hkk, hne, hoc⟩
  have hpN := adv_lt hh0 (show i < N by omega)
  obtain ⟨o, ho⟩ : ∃ o, cs[adv N h i]? = some o := ⟨_, List.getElem?_eq_getElem (by omega)⟩
  refine w_seq (w_seq (w_reg (wl_f (f_move rfl) (wl_f (f_nilCheck rfl) (wl_f (f_fieldAddr 4 rfl Tryz.underlying127 rfl rfl (by kernel_rfl)) ?_)))))
  refine wl_f (f_loadB 0 0 rfl rfl rfl Tryz.underlying125 rfl rfl) ?_
  refine wl_f (f_move rfl) (wl_f (f_indexAddr 3 (i := adv N h i) rfl rfl Tryz.underlying125 (by kernel_rfl) rfl hpN) ?_)
  refine wl_f (f_fieldAddr 0 rfl Tryz.underlying212 rfl rfl (by kernel_rfl)) ?_
  refine wl_f (f_loadBr (v := .bool o.isSome) 0 2 rfl rfl rfl Tryz.underlying4 rfl (icells_j xU64 ho 0 (by cases o <;> rfl) (by omega))) ?_
  refine wl_end [(0, _), (1, _), (6, _), (17, _)] ⟨rfl, rfl, rfl, rfl, trivial⟩ ?_
  refine w_ifb rfl (fun hc1 => ?_) (fun hc1 => ?_)
  · skip
    obtain ⟨x, rfl⟩ : ∃ x, o = some x := Option.isSome_iff_exists.1 hc1
    have hiD : i ≠ D := fun e => by rw [e, hde, he] at ho; cases ho
    refine w_skip ?_
    refine w_block ?_
    refine w_seq (w_seq (w_reg (wl_f (f_move rfl) (wl_f (f_nilCheck rfl) (wl_f (f_fieldAddr 4 rfl Tryz.underlying127 rfl rfl (by kernel_rfl)) ?_)))))
    refine wl_f (f_loadB 0 0 rfl rfl rfl Tryz.underlying125 rfl rfl) ?_
    refine wl_f (f_move rfl) (wl_f (f_indexAddr 3 (i := adv N h i) rfl rfl Tryz.underlying125 (by kernel_rfl) rfl hpN) ?_)
    refine wl_f (f_fieldAddr 1 rfl Tryz.underlying212 rfl rfl (by kernel_rfl)) ?_
    refine wl_f (f_loadBr (v := .string x.1) 0 2 rfl rfl rfl Tryz.underlying9 rfl (icells_j xU64 ho 1 rfl (by omega))) ?_
    refine wl_f (f_move rfl) (wl_f (f_eqls rfl rfl) ?_)
    refine wl_end [(0, _), (1, _), (6, _), (27, _)] ⟨rfl, rfl, rfl, rfl, trivial⟩ ?_
    refine w_ifd rfl (fun hc2 => ?_) (fun hc2 => ?_)
    · skip
      obtain ⟨xk, xv⟩ := x
      obtain rfl : xk = k := hc2
      refine w_seq (w_reg (wl_f (f_move rfl) (wl_f (f_assign rfl) (wl_f (f_assign rfl) (wl_end [(4, _), (5, _)] ⟨rfl, rfl, trivial⟩ ?_)))))
      refine w_ret ?_
      refine ⟨_, _, fun a ha hh => results_tmps Tryz.results159 rfl a ha _, List.Sublist.refl _, ?_⟩
      subst hhk
      exact ⟨⟨i, by omega, .inr ⟨xv, ho, rfl⟩⟩, rfl⟩
    · skip
      refine w_skip ?_
      refine w_reg (wl_f (f_move rfl) (wl_f (f_add rfl rfl (by omega)) ?_))
      refine wl_f (f_move rfl) (wl_f (f_nilCheck rfl) (wl_f (f_fieldAddr 4 rfl Tryz.underlying127 rfl rfl (by kernel_rfl)) ?_))
      refine wl_f (f_loadB 0 0 rfl rfl rfl Tryz.underlying125 rfl rfl) ?_
      refine wl_f (f_len rfl Tryz.underlying125) ?_
      refine wl_f (f_eqv (v' := .int .i64 (adv N h (i + 1) : Nat)) (f_rem rfl rfl (by omega)) (by rw [adv_int hpN (by omega), adv_adv hh0 (by omega)])) ?_
      refine wl_f (f_assign rfl) (wl_end [(0, _), (1, _), (6, _)] ⟨rfl, rfl, rfl, trivial⟩ ?_)
      refine ⟨kk - 1, by omega, i + 1, rfl, rfl, by omega, fun j hj y => ?_, fun j hj => ?_⟩
      · rcases Nat.lt_or_eq_of_le (Nat.le_of_lt_succ hj) with h | rfl
        · exact hne j h y
        · intro e; rw [ho] at e; injection e with e; injection e with e; subst e; exact hc2 rfl
      · rcases Nat.lt_or_eq_of_le (Nat.le_of_lt_succ hj) with h | rfl
        · exact hoc j h
        · exact ⟨x, ho⟩
  · skip
    obtain rfl : o = none := by
      cases o with
      | none => rfl
      | some x => exact absurd rfl hc1
    refine w_exit0 ?_
    refine w_seq (w_reg (wl_f (f_move rfl) (wl_f (f_assign rfl) (wl_f (f_assign rfl) (wl_end [(4, _), (5, _)] ⟨rfl, rfl, trivial⟩ ?_)))))
    refine w_ret ?_
    refine ⟨_, _, fun a ha hh => results_tmps Tryz.results159 rfl a ha _, List.Sublist.refl _, ?_⟩
    subst hhk
    exact ⟨⟨i, by omega, .inl ⟨ho, rfl, hne, hoc⟩⟩, rfl⟩
end Go.Proofs.YtmagdjlcckgkpaaGreat

/- The proof kit, seventh part: regions that draw their order, where two changes may come in either order. -/
namespace Go.Proofs.YtmagdjlcckgkpaaGreat
open Go.RowKit

inductive Ordt where
  | done
  | fl (i : Nat) (t : Ordt)
  | ef (i : Nat) (t : Ordt)
  | two (i : Nat) (t : Ordt) (j : Nat) (u : Ordt)

def Ordt.height : Ordt → Nat
  | .done => 0
  | .fl _ t => t.height + 1
  | .ef _ t => t.height + 1
  | .two _ t _ u => max t.height u.height + 1

def okT (ops : Array Oper) : Array Bool → Ordt → Bool
  | listed, .done => (Region.ready .any ops listed).isEmpty
  | listed, .fl i t => Region.free .any ops listed i && (Region.ready .any ops listed).contains i && okT ops (listed.setIfInBounds i true) t
  | listed, .ef i t => Region.ready .any ops listed == [i] && okT ops (listed.setIfInBounds i true) t
  | listed, .two i t j u => Region.ready .any ops listed == [i, j] && (okT ops (listed.setIfInBounds i true) t && okT ops (listed.setIfInBounds j true) u)

section
variable {P : Program} {n : Nat} {w0 : World} {F0 : Nat → Prop} {N R : Cond} {X : Nat → Cond} {m : Env} {H : List Res} {w : World}
  {ops : Array Oper} {op : Op} {ty : TypeId} {pos : String} {af : Array Edge} {v : Value} {Φ : Value → List Res → Prop} {d : Nat}

/-- Operation i is carried out, or passed over; then K. -/
def EStep (P : Program) (n : Nat) (w0 : World) (F0 : Nat → Prop) (ops : Array Oper) (Hst : List Res) (i : Nat) (K : Env → List Res → World → Prop) (m : Env) (H : List Res) (w : World) : Prop :=
  ∃ dst op ty pos af g, ops[i]? = some ⟨dst, op, ty, pos, af, g⟩ ∧ (match dst with | some d => Nat.blt d n = true | .none => True) ∧
    ((∃ Φ, (g = .none ∨ ∃ j b t, g = some (j, b) ∧ (ops[j]?).bind (·.dst) = some t ∧ lk m t = some (.bool b)) ∧ Eff P n w0 F0 op ty m (Hst ++ H) w Φ ∧
      ∀ v H' w', Φ v H' → ∃ H'', H'.Perm (Hst ++ H'') ∧ K (match dst with | some d => (d, v) :: m | .none => m) H'' w') ∨
     ((∃ j b t, g = some (j, b) ∧ (ops[j]?).bind (·.dst) = some t ∧ (lk m t = some (.bool !b) ∨ lk m t = some undef)) ∧
      K (match dst with | some d => (d, undef) :: m | .none => m) H w))

def WT (P : Program) (n : Nat) (w0 : World) (F0 : Nat → Prop) (ops : Array Oper) (N : Cond) (Hst : List Res) : Ordt → Env → List Res → World → Prop
  | .done, m, H, w => ∃ m' L, Sub m' m ∧ (∃ E, (Hst ++ H).Perm (L ++ E)) ∧ N m' L w
  | .fl i t, m, H, w => ∃ d op ty pos af g v, ops[i]? = some ⟨some d, op, ty, pos, af, g⟩ ∧ Nat.blt d n = true ∧
      ((Flt P n w0 F0 op ty m Hst v ∧ (g = .none ∨ ∃ j b t, g = some (j, b) ∧ (ops[j]?).bind (·.dst) = some t ∧ lk m t = some (.bool b))) ∨
       (v = undef ∧ ∃ j b t, g = some (j, b) ∧ (ops[j]?).bind (·.dst) = some t ∧ (lk m t = some (.bool !b) ∨ lk m t = some undef))) ∧
      WT P n w0 F0 ops N Hst t ((d, v) :: m) H w
  | .ef i t, m, H, w => EStep P n w0 F0 ops Hst i (fun m H w => WT P n w0 F0 ops N Hst t m H w) m H w
  | .two i t j u, m, H, w => EStep P n w0 F0 ops Hst i (fun m H w => WT P n w0 F0 ops N Hst t m H w) m H w ∧ EStep P n w0 F0 ops Hst j (fun m H w => WT P n w0 F0 ops N Hst u m H w) m H w

theorem estep_sound {Hst : List Res} {i : Nat} {K : Env → List Res → World → Prop} {Q : Exit → Act → World → Prop} {K' : Act → World → Prop} {a : Act}
    (ha : Fr n m a) (hh : Holds w0 F0 (Hst ++ H) w) (h : EStep P n w0 F0 ops Hst i K m H w)
    (hk : ∀ m' H' a' w', Fr n m' a' → Holds w0 F0 (Hst ++ H') w' → K m' H' w' → K' a' w') : wpOp P ops Q i (fun a' w' => (∃ H', Holds w0 F0 (Hst ++ H') w') ∧ K' a' w') a w := by
  obtain ⟨dst, op, ty, pos, af, g, hi, hdn, hv⟩ := h
  have put : ∀ v, Fr n (match dst with | some d => (d, v) :: m | .none => m) (a.put dst v) := by
    intro v
    cases dst with
    | none => exact ha
    | some d => exact ha.put hdn v
  rcases hv with ⟨Φ, hg, he, hk'⟩ | ⟨⟨j, b, t, rfl, hj, hlk⟩, hk'⟩
  · have hw : Region.wanted (⟨dst, op, ty, pos, af, g⟩ : Oper) (yielded ops a.tmps) = true := by
      rcases hg with rfl | ⟨j, b, t, rfl, hj, hlk⟩
      · rfl
      · simp [Region.wanted, yielded_of ha hj hlk]
    unfold wpOp
    simp only [hi, hw, if_true]
    refine .inl (he _ a _ Q rfl rfl ha hh fun v H' w' hp hh' => ?_)
    obtain ⟨H'', hpm, hwd⟩ := hk' v H' w' hp
    exact ⟨⟨H'', hh'.perm hpm⟩, hk _ H'' _ w' (put v) (hh'.perm hpm) hwd⟩
  · have hw : Region.wanted (⟨dst, op, ty, pos, af, some (j, b)⟩ : Oper) (yielded ops a.tmps) = false := by
      rcases hlk with hlk | hlk
      · simp [Region.wanted, yielded_of ha hj hlk]
      · simp [Region.wanted, yielded_undef ha hj hlk]
    unfold wpOp
    simp only [hi, hw, Bool.false_eq_true, if_false]
    exact ⟨⟨H, hh⟩, hk _ H _ w (put undef) hh hk'⟩

theorem wt_sound {Hst : List Res} (hns : Region.noSelect ops = true) (Q : Exit → Act → World → Prop) (hpan : ∀ c a w, ¬ Q (.panic c) a w)
    (hQ : ∀ a' w', (∃ m' H', Fr n m' a' ∧ Holds w0 F0 H' w' ∧ N m' H' w') → Q .normal a' w') :
    ∀ (σ : Ordt) (fuel : Nat) (listed : Array Bool) (m : Env) (H : List Res) (a : Act) (w : World), σ.height ≤ fuel → okT ops listed σ = true →
      Fr n m a → Holds w0 F0 (Hst ++ H) w → WT P n w0 F0 ops N Hst σ m H w →
      wpAnyH P .any ops Q (fun w' => ∃ H', Holds w0 F0 (Hst ++ H') w') fuel listed a w
  | .done, fuel, listed, m, H, a, w, _, hok, ha, hh, hd => by
    obtain ⟨m', L, hs, ⟨E, hE⟩, hN⟩ := hd
    simp only [okT, List.isEmpty_iff] at hok
    exact wpAnyH_done hok (hQ a w ⟨m', L, ha.sub hs, hh.pick hE, hN⟩) fuel
  | .fl i σ, 0, _, _, _, _, _, hl, _, _, _, _ => by simp [Ordt.height] at hl
  | .ef i σ, 0, _, _, _, _, _, hl, _, _, _, _ => by simp [Ordt.height] at hl
  | .two i σ j τ, 0, _, _, _, _, _, hl, _, _, _, _ => by simp [Ordt.height] at hl
  | .fl i σ, fuel + 1, listed, m, H, a, w, hl, hok, ha, hh, hd => by
    obtain ⟨d, op, ty, pos, af, g, v, hi, hdn, hv, hrest⟩ := hd
    simp only [okT, Bool.and_eq_true] at hok
    refine wpAnyH_take hi hns hok.1.1 hok.1.2 (fun c a w h => (hpan _ _ _ h).elim) ?_ ⟨H, hh⟩
      (wt_sound hns Q hpan hQ σ fuel _ ((d, v) :: m) H _ w (by simpa [Ordt.height] using hl) hok.2 (ha.put hdn v) hh hrest)
    rcases hv with ⟨hf, hg⟩ | ⟨rfl, j, b, t, rfl, hj, hlk⟩
    · refine .inl ⟨?_, fun w' ⟨H', hh'⟩ => hf _ a w' rfl rfl ha (hh'.drop_ (List.sublist_append_left _ _))⟩
      rcases hg with rfl | ⟨j, b, t, rfl, hj, hlk⟩
      · rfl
      · simp [Region.wanted, yielded_of ha hj hlk]
    · refine .inr ⟨?_, rfl⟩
      rcases hlk with hlk | hlk
      · simp [Region.wanted, yielded_of ha hj hlk]
      · simp [Region.wanted, yielded_undef ha hj hlk]
  | .ef i σ, fuel + 1, listed, m, H, a, w, hl, hok, ha, hh, hd => by
    simp only [okT, Bool.and_eq_true, beq_iff_eq] at hok
    refine wpAnyH_all hok.1 (by simp) fun k hk => ?_
    obtain rfl : k = i := by simpa using hk
    exact estep_sound ha hh hd fun m' H' a' w' ha' hh' hw => wt_sound hns Q hpan hQ σ fuel _ m' H' a' w' (by simpa [Ordt.height] using hl) hok.2 ha' hh' hw
  | .two i σ j τ, fuel + 1, listed, m, H, a, w, hl, hok, ha, hh, hd => by
    simp only [okT, Bool.and_eq_true, beq_iff_eq] at hok
    refine wpAnyH_all hok.1 (by simp) fun k hk => ?_
    simp only [Ordt.height] at hl
    rcases List.mem_cons.1 hk with rfl | hk
    · exact estep_sound ha hh hd.1 fun m' H' a' w' ha' hh' hw => wt_sound hns Q hpan hQ σ fuel _ m' H' a' w' (by omega) hok.2.1 ha' hh' hw
    · obtain rfl : k = j := by simpa using hk
      exact estep_sound ha hh hd.2 fun m' H' a' w' ha' hh' hw => wt_sound hns Q hpan hQ τ fuel _ m' H' a' w' (by omega) hok.2.2 ha' hh' hw

/-- A region that draws its order: σ tells the orders. -/
theorem w_drawt {id : Nat} (σ : Ordt) (Hst Hm : List Res) (hm : P.follows .mixedOrders = true) (hns : Region.noSelect ops = true)
    (hok : okT ops (Array.replicate ops.size false) σ = true) (hlen : Nat.ble σ.height ops.size = true) (hH : H.Perm (Hst ++ Hm)) (h : ∀ w', WT P n w0 F0 ops N Hst σ m Hm w') :
    W P n w0 F0 (.region id ops true) N R X m H w := fun a ha hh => by
  have hh' := (hh.perm hH).drew
  refine wp_region_held (S := fun w' => ∃ H', Holds w0 F0 (Hst ++ H') w') hm ?_
  exact wt_sound hns _ (fun _ _ _ h => h) (fun _ _ hq => hq) σ _ _ m Hm a _ (Nat.le_of_ble_eq_true hlen) hok ha hh' (h _)

variable {Hst : List Res} {σ τ : Ordt} {i j : Nat} {g : Option (Nat × Bool)} {K : Env → List Res → World → Prop}

theorem wt_f (hi : ops[i]? = some ⟨some d, op, ty, pos, af, .none⟩) (h : Flt P n w0 F0 op ty m Hst v) (hk : WT P n w0 F0 ops N Hst σ ((d, v) :: m) H w)
    (hd : Nat.blt d n = true := by rfl) : WT P n w0 F0 ops N Hst (.fl i σ) m H w :=
  ⟨d, op, ty, pos, af, .none, v, hi, hd, .inl ⟨h, .inl rfl⟩, hk⟩
theorem wt_gf {j t : Nat} {b : Bool} (hi : ops[i]? = some ⟨some d, op, ty, pos, af, some (j, b)⟩) (hj : (ops[j]?).bind (·.dst) = some t) (hl : lk m t = some (.bool b))
    (h : Flt P n w0 F0 op ty m Hst v) (hk : WT P n w0 F0 ops N Hst σ ((d, v) :: m) H w)
    (hd : Nat.blt d n = true := by rfl) : WT P n w0 F0 ops N Hst (.fl i σ) m H w :=
  ⟨d, op, ty, pos, af, _, v, hi, hd, .inl ⟨h, .inr ⟨j, b, t, rfl, hj, hl⟩⟩, hk⟩
theorem wt_ef (h : EStep P n w0 F0 ops Hst i (fun m H w => WT P n w0 F0 ops N Hst σ m H w) m H w) : WT P n w0 F0 ops N Hst (.ef i σ) m H w := h
theorem wt_two (h1 : EStep P n w0 F0 ops Hst i (fun m H w => WT P n w0 F0 ops N Hst σ m H w) m H w) (h2 : EStep P n w0 F0 ops Hst j (fun m H w => WT P n w0 F0 ops N Hst τ m H w) m H w) :
    WT P n w0 F0 ops N Hst (.two i σ j τ) m H w := ⟨h1, h2⟩
theorem es_e (hi : ops[i]? = some ⟨some d, op, ty, pos, af, .none⟩) (h : Eff P n w0 F0 op ty m (Hst ++ H) w Φ)
    (hk : ∀ v H' w', Φ v H' → ∃ H'', H'.Perm (Hst ++ H'') ∧ K ((d, v) :: m) H'' w')
    (hd : Nat.blt d n = true := by rfl) : EStep P n w0 F0 ops Hst i K m H w :=
  ⟨some d, op, ty, pos, af, .none, hi, hd, .inl ⟨Φ, .inl rfl, h, hk⟩⟩
theorem es_e0 (hi : ops[i]? = some ⟨.none, op, ty, pos, af, .none⟩) (h : Eff P n w0 F0 op ty m (Hst ++ H) w Φ)
    (hk : ∀ v H' w', Φ v H' → ∃ H'', H'.Perm (Hst ++ H'') ∧ K m H'' w') : EStep P n w0 F0 ops Hst i K m H w :=
  ⟨.none, op, ty, pos, af, .none, hi, trivial, .inl ⟨Φ, .inl rfl, h, hk⟩⟩
theorem wt_end (m' : Env) (hs : Sub m' m) (h : N m' (Hst ++ H) w) : WT P n w0 F0 ops N Hst .done m H w := ⟨m', _, hs, ⟨[], by simp⟩, h⟩
theorem wt_endp (m' : Env) (is : List Nat) {L E : List Res} (hs : Sub m' m) (hp : pick is (Hst ++ H) = some (L, E)) (h : N m' L w) : WT P n w0 F0 ops N Hst .done m H w := ⟨m', L, hs, ⟨E, pick_perm _ _ hp⟩, h⟩
end
end Go.Proofs.YtmagdjlcckgkpaaGreat

/- Tables: making one. -/
namespace Go.Proofs.YtmagdjlcckgkpaaGreat
open Go.RowKit

theorem madeCellsI {α : Type} (K : VI α) (n : Nat) : (madeCells (Value.agg #[.bool false, .string ByteArray.empty, K.val K.zero]).cells (n * 3)).toList = icells K (List.replicate n none) := by
  have h : ∀ n, ((List.range (n * 3)).map fun i => (#[Value.bool false, .string ByteArray.empty, K.val K.zero] : Array Value)[i % 3]!) = icells K (List.replicate n none) := by
    intro n
    induction n with
    | zero => rfl
    | succ n ih =>
      have e : icells K (List.replicate (n + 1) none) = icells K (List.replicate n none) ++ icell K none := by
        rw [List.replicate_succ', icells, icells, List.flatMap_append]; simp
      rw [e, Nat.succ_mul, ← ih, List.range_succ, List.range_succ, List.range_succ]
      simp only [List.map_append, List.map_cons, List.map_nil, List.append_assoc]
      congr 1
      have e0 : (n * 3) % 3 = 0 := by omega
      have e1 : (n * 3 + 1) % 3 = 1 := by omega
      have e2 : (n * 3 + 2) % 3 = 2 := by omega
      rw [e0, e1, e2]
      rfl
  rw [← h n]
  simp only [madeCells, Array.toList_map, Array.toList_range]
  rfl
theorem ents_replicate {α : Type} (N : Nat) : ents (List.replicate N (none : Option (ByteArray × α))) = [] := by
  induction N with
  | zero => rfl
  | succ N ih => rw [List.replicate_succ, ents_none, ih]

theorem build_imap (n seed : Int) (A C : Option Addr) (l c l2 c2 : Nat) (w : World) : (Instr.build 124 [(0, .int .i64 n), (2, .slice A l c), (3, .int .u64 seed), (4, .slice C l2 c2)].toArray).run Tryz.prog w =
    .ok (.agg [.int .i64 n, .int .i64 0, .slice A l c, .int .u64 seed, .slice C l2 c2].toArray) w := by kernel_rfl
theorem ixnew_bad (n : Int) (A : Option Addr) (l c : Nat) (seed : Int) (w : World) (hn : n < 1 ∨ 8192 < n ∨ l ≠ 16) : Spec Tryz.prog 47 [.int .i64 n, .slice A l c, .int .u64 seed] w Nil
    fun r H => r = .tuple #[.pointer .none, .int .i64 (if n < 1 ∨ 8192 < n then 1 else 11)] ∧ H = [] := by
  refine enter (n := 29) Tryz.func47 rfl rfl [(0, _), (1, _), (2, _)] rfl ⟨rfl, rfl, rfl, trivial⟩ (Holds.start _ _) ?_
  refine w_seq (w_reg (wl_f (f_assign rfl) (wl_f (f_assign rfl) (wl_end [(0, _), (1, _), (2, _)] ⟨rfl, rfl, rfl, trivial⟩ ?_))))
  refine w_seq (w_seq (w_reg (wl_f (f_move rfl) (wl_f (f_lss rfl rfl) ?_))))
  refine wl_f (f_move rfl) ?_
  refine wl_or (j := 2) (c := decide (8192 < n)) 2 [(0, _), (1, _), (2, _)] ⟨rfl, rfl, rfl, trivial⟩ rfl rfl rfl rfl rfl (fun hg1_5 => ?_) (fun w1_5 => ?_)
  · skip
    refine wl_gf rfl rfl (f_move rfl) ?_
    refine wl_gf rfl rfl (f_gtr rfl rfl) ?_
    exact wl_pend rfl rfl ⟨rfl, rfl, rfl, trivial⟩ (List.Sublist.refl _)
  refine wl_end [(0, _), (1, _), (2, _), (14, _)] ⟨rfl, rfl, rfl, rfl, trivial⟩ ?_
  refine w_ifb rfl (fun hc1 => ?_) (fun hc1 => ?_)
  · skip
    simp only [Bool.or_eq_true, decide_eq_true_eq] at hc1
    refine w_seq (w_reg (wl_f (f_assign rfl) (wl_f (f_assign rfl) (wl_end [(6, _), (7, _)] ⟨rfl, rfl, trivial⟩ ?_))))
    refine w_ret ?_
    refine ⟨_, _, fun a ha hh => results_tmps Tryz.results47 rfl a ha _, List.Sublist.refl _, ?_⟩
    rw [if_pos hc1]; exact ⟨rfl, rfl⟩
  · skip
    simp only [Bool.or_eq_true, decide_eq_true_eq] at hc1
    have hl : l ≠ 16 := by
      rcases hn with h | h | h
      · exact absurd (.inl h) hc1
      · exact absurd (.inr h) hc1
      · exact h
    refine w_skip ?_
    refine w_seq (w_seq (w_reg (wl_f (f_move rfl) (wl_e (e_call0 rfl Tryz.func53 (by kernel_rfl) (fun w hh => check_spec A l c w)) ?_))))
    rw [if_neg hl]
    rintro _ _ w1 ⟨_, rfl, rfl, rfl⟩
    refine wl_f (f_assign rfl) (wl_end [(0, _), (1, _), (2, _), (8, _)] ⟨rfl, rfl, rfl, rfl, trivial⟩ ?_)
    refine w_seq (w_reg (wl_f (f_move rfl) (wl_f (f_neq rfl rfl) ?_)))
    refine wl_end [(0, _), (1, _), (2, _), (8, _), (18, _)] ⟨rfl, rfl, rfl, rfl, rfl, trivial⟩ ?_
    refine w_ifb rfl (fun _ => ?_) (fun h => absurd (rfl : decide ((11 : Int) ≠ 0) = true) (by simp at h))
    refine w_seq (w_reg (wl_f (f_move rfl) (wl_f (f_assign rfl) (wl_f (f_assign rfl) (wl_end [(6, _), (7, _)] ⟨rfl, rfl, trivial⟩ ?_)))))
    refine w_ret ?_
    refine ⟨_, _, fun a ha hh => results_tmps Tryz.results47 rfl a ha _, List.Sublist.refl _, ?_⟩
    rw [if_neg hc1]; exact ⟨rfl, rfl⟩
set_option maxHeartbeats 1000000 in
theorem ixnew_ok (n : Nat) (T : List Nat) (tv : Value) (seed : Int) (w : World) (h1 : 1 ≤ n) (h2 : n ≤ 8192) (hT : T.length = 16) (ht : Rd w Nil 1 tv 16 (u64v T)) : Spec Tryz.prog 47 [.int .i64 n, tv, .int .u64 seed] w Nil
    fun r H => ∃ b r', r = .tuple #[.pointer (some ⟨b, 0, .none⟩), .int .i64 0] ∧ H = [r'] ∧ TbR xInt b n T seed [] r' := by
  obtain ⟨A1, c1, rfl, -, hc1', g1⟩ := id ht
  refine enter (n := 29) Tryz.func47 rfl rfl [(0, _), (1, _), (2, _)] rfl ⟨rfl, rfl, rfl, trivial⟩ (Holds.start _ _) ?_
  refine w_seq (w_reg (wl_f (f_assign rfl) (wl_f (f_assign rfl) (wl_end [(0, _), (1, _), (2, _)] ⟨rfl, rfl, rfl, trivial⟩ ?_))))
  refine w_seq (w_seq (w_reg (wl_f (f_move rfl) (wl_f (f_lss rfl rfl) ?_))))
  refine wl_f (f_move rfl) ?_
  refine wl_or (j := 2) (c := decide (8192 < (n : Int))) 2 [(0, _), (1, _), (2, _)] ⟨rfl, rfl, rfl, trivial⟩ rfl rfl rfl rfl rfl (fun hg1_5 => ?_) (fun w1_5 => ?_)
  · skip
    refine wl_gf rfl rfl (f_move rfl) ?_
    refine wl_gf rfl rfl (f_gtr rfl rfl) ?_
    exact wl_pend rfl rfl ⟨rfl, rfl, rfl, trivial⟩ (List.Sublist.refl _)
  refine wl_end [(0, _), (1, _), (2, _), (14, _)] ⟨rfl, rfl, rfl, rfl, trivial⟩ ?_
  refine w_ifb rfl (fun h => absurd h (by simp; omega)) (fun _ => ?_)
  refine w_skip ?_
  refine w_seq (w_seq (w_reg (wl_f (f_move rfl) (wl_e (e_call0 rfl Tryz.func53 (by kernel_rfl) (fun w hh => check_ok _ _ w)) ?_))))
  rintro _ _ w1 ⟨_, rfl, rfl, rfl⟩
  refine wl_f (f_assign rfl) (wl_end [(0, _), (1, _), (2, _), (8, _)] ⟨rfl, rfl, rfl, rfl, trivial⟩ ?_)
  refine w_seq (w_reg (wl_f (f_move rfl) (wl_f (f_neq rfl rfl) ?_)))
  refine wl_end [(0, _), (1, _), (2, _), (8, _), (18, _)] ⟨rfl, rfl, rfl, rfl, rfl, trivial⟩ ?_
  refine w_ifb rfl (fun h => absurd h (by simp)) (fun _ => ?_)
  refine w_skip ?_
  refine w_seq ?_
  refine w_post (fun m H w' => ∃ (q : Nat) (tV cV : Value), m = [(6, .pointer (some ⟨q, 0, .none⟩)), (7, .int .i64 0)] ∧ H = ims xInt q n (2 * n) 0 T seed tV cV (List.replicate (2 * n) none)) ?_ ?_
  · skip
    refine w_drawt (.fl 0 (.fl 1 (.fl 3 (.fl 4 (.fl 5 (.two 2 (.ef 6 (.fl 7 (.ef 8 (.fl 9 (.fl 10 .done))))) 6 (.ef 2 (.fl 7 (.ef 8 (.fl 9 (.fl 10 .done))))))))))) ([]) ([]) mixed (by kernel_rfl) (by kernel_rfl) rfl (perm_all _) (fun w6_ => ?_)
    refine wt_f rfl (f_move rfl) ?_
    refine wt_f rfl (f_move rfl) ?_
    refine wt_f rfl (f_move rfl) ?_
    refine wt_f rfl (f_move rfl) ?_
    refine wt_f rfl (f_eqv (v' := .int .i64 ((2 * n : Nat) : Int)) (f_mul rfl rfl (by omega)) (by congr 1)) ?_
    refine wt_two ?_ ?_
    · skip
      refine es_e rfl (e_call0 rfl Tryz.func54 (by kernel_rfl) (fun w hh => clone_spec T _ w hT (ht.old0 hh))) ?_
      rintro _ _ w6_2 ⟨_, rfl, A2, c2, rfl, rfl⟩
      refine ⟨_, List.Perm.refl _, ?_⟩
      refine wt_ef (es_e rfl (e_make (l := 2 * n) (cs := icells xInt (List.replicate (2 * n) none)) rfl rfl t122 (by omega) (by omega) (madeCellsI xInt (2 * n)).symm) ?_)
      rintro _ _ w6_6 ⟨b6_6, rfl, rfl⟩
      refine ⟨_, List.perm_middle.symm, ?_⟩
      refine wt_f rfl (f_build rfl (fun w => build_imap _ _ _ _ _ _ _ _ w)) ?_
      refine wt_ef (es_e rfl (e_box (cs := [_, _, _, _, _]) rfl rfl) ?_)
      rintro _ _ w6_8 ⟨b6_8, rfl, rfl⟩
      refine ⟨_, List.perm_middle.symm, ?_⟩
      refine wt_f rfl (f_assign rfl) ?_
      refine wt_f rfl (f_assign rfl) ?_
      refine wt_endp [(6, _), (7, _)] [0, 1, 0] ⟨rfl, rfl, trivial⟩ rfl ?_
      exact ⟨b6_8, _, _, rfl, rfl⟩
    · skip
      refine es_e rfl (e_make (l := 2 * n) (cs := icells xInt (List.replicate (2 * n) none)) rfl rfl t122 (by omega) (by omega) (madeCellsI xInt (2 * n)).symm) ?_
      rintro _ _ w6_6 ⟨b6_6, rfl, rfl⟩
      refine ⟨_, List.perm_middle.symm, ?_⟩
      refine wt_ef (es_e rfl (e_call0 rfl Tryz.func54 (by kernel_rfl) (fun w hh => clone_spec T _ w hT (ht.old0 hh))) ?_)
      rintro _ _ w6_2 ⟨_, rfl, A2, c2, rfl, rfl⟩
      refine ⟨_, List.Perm.refl _, ?_⟩
      refine wt_f rfl (f_build rfl (fun w => build_imap _ _ _ _ _ _ _ _ w)) ?_
      refine wt_ef (es_e rfl (e_box (cs := [_, _, _, _, _]) rfl rfl) ?_)
      rintro _ _ w6_8 ⟨b6_8, rfl, rfl⟩
      refine ⟨_, List.perm_middle.symm, ?_⟩
      refine wt_f rfl (f_assign rfl) ?_
      refine wt_f rfl (f_assign rfl) ?_
      refine wt_endp [(6, _), (7, _)] [0, 0, 0] ⟨rfl, rfl, trivial⟩ rfl ?_
      exact ⟨b6_8, _, _, rfl, rfl⟩
  rintro _ _ w6_ ⟨q, tV, cV, rfl, rfl⟩
  refine w_bun (H := []) (ims xInt q n (2 * n) 0 T seed tV cV _) ?_
  refine w_ret ?_
  refine ⟨_, _, fun a ha hh => results_tmps Tryz.results47 rfl a ha _, List.Sublist.refl _, ?_⟩
  refine ⟨q, _, rfl, rfl, 2 * n, List.replicate (2 * n) none, ⟨h1, h2, rfl, hT, List.length_replicate, tV, cV, by rw [ents_replicate]; rfl⟩, TInv.new _, by rw [ents_replicate], by rw [ents_replicate]; exact Nat.zero_le _, by rw [ents_replicate]; simp⟩
theorem build_umap (n seed : Int) (A C : Option Addr) (l c l2 c2 : Nat) (w : World) : (Instr.build 127 [(0, .int .i64 n), (2, .slice A l c), (3, .int .u64 seed), (4, .slice C l2 c2)].toArray).run Tryz.prog w =
    .ok (.agg [.int .i64 n, .int .i64 0, .slice A l c, .int .u64 seed, .slice C l2 c2].toArray) w := by kernel_rfl
theorem uxnew_bad (n : Int) (A : Option Addr) (l c : Nat) (seed : Int) (w : World) (hn : n < 1 ∨ 8192 < n ∨ l ≠ 16) : Spec Tryz.prog 48 [.int .i64 n, .slice A l c, .int .u64 seed] w Nil
    fun r H => r = .tuple #[.pointer .none, .int .i64 (if n < 1 ∨ 8192 < n then 1 else 11)] ∧ H = [] := by
  refine enter (n := 29) Tryz.func48 rfl rfl [(0, _), (1, _), (2, _)] rfl ⟨rfl, rfl, rfl, trivial⟩ (Holds.start _ _) ?_
  refine w_seq (w_reg (wl_f (f_assign rfl) (wl_f (f_assign rfl) (wl_end [(0, _), (1, _), (2, _)] ⟨rfl, rfl, rfl, trivial⟩ ?_))))
  refine w_seq (w_seq (w_reg (wl_f (f_move rfl) (wl_f (f_lss rfl rfl) ?_))))
  refine wl_f (f_move rfl) ?_
  refine wl_or (j := 2) (c := decide (8192 < n)) 2 [(0, _), (1, _), (2, _)] ⟨rfl, rfl, rfl, trivial⟩ rfl rfl rfl rfl rfl (fun hg1_5 => ?_) (fun w1_5 => ?_)
  · skip
    refine wl_gf rfl rfl (f_move rfl) ?_
    refine wl_gf rfl rfl (f_gtr rfl rfl) ?_
    exact wl_pend rfl rfl ⟨rfl, rfl, rfl, trivial⟩ (List.Sublist.refl _)
  refine wl_end [(0, _), (1, _), (2, _), (14, _)] ⟨rfl, rfl, rfl, rfl, trivial⟩ ?_
  refine w_ifb rfl (fun hc1 => ?_) (fun hc1 => ?_)
  · skip
    simp only [Bool.or_eq_true, decide_eq_true_eq] at hc1
    refine w_seq (w_reg (wl_f (f_assign rfl) (wl_f (f_assign rfl) (wl_end [(6, _), (7, _)] ⟨rfl, rfl, trivial⟩ ?_))))
    refine w_ret ?_
    refine ⟨_, _, fun a ha hh => results_tmps Tryz.results48 rfl a ha _, List.Sublist.refl _, ?_⟩
    rw [if_pos hc1]; exact ⟨rfl, rfl⟩
  · skip
    simp only [Bool.or_eq_true, decide_eq_true_eq] at hc1
    have hl : l ≠ 16 := by
      rcases hn with h | h | h
      · exact absurd (.inl h) hc1
      · exact absurd (.inr h) hc1
      · exact h
    refine w_skip ?_
    refine w_seq (w_seq (w_reg (wl_f (f_move rfl) (wl_e (e_call0 rfl Tryz.func53 (by kernel_rfl) (fun w hh => check_spec A l c w)) ?_))))
    rw [if_neg hl]
    rintro _ _ w1 ⟨_, rfl, rfl, rfl⟩
    refine wl_f (f_assign rfl) (wl_end [(0, _), (1, _), (2, _), (8, _)] ⟨rfl, rfl, rfl, rfl, trivial⟩ ?_)
    refine w_seq (w_reg (wl_f (f_move rfl) (wl_f (f_neq rfl rfl) ?_)))
    refine wl_end [(0, _), (1, _), (2, _), (8, _), (18, _)] ⟨rfl, rfl, rfl, rfl, rfl, trivial⟩ ?_
    refine w_ifb rfl (fun _ => ?_) (fun h => absurd (rfl : decide ((11 : Int) ≠ 0) = true) (by simp at h))
    refine w_seq (w_reg (wl_f (f_move rfl) (wl_f (f_assign rfl) (wl_f (f_assign rfl) (wl_end [(6, _), (7, _)] ⟨rfl, rfl, trivial⟩ ?_)))))
    refine w_ret ?_
    refine ⟨_, _, fun a ha hh => results_tmps Tryz.results48 rfl a ha _, List.Sublist.refl _, ?_⟩
    rw [if_neg hc1]; exact ⟨rfl, rfl⟩
set_option maxHeartbeats 1000000 in
theorem uxnew_ok (n : Nat) (T : List Nat) (tv : Value) (seed : Int) (w : World) (h1 : 1 ≤ n) (h2 : n ≤ 8192) (hT : T.length = 16) (ht : Rd w Nil 1 tv 16 (u64v T)) : Spec Tryz.prog 48 [.int .i64 n, tv, .int .u64 seed] w Nil
    fun r H => ∃ b r', r = .tuple #[.pointer (some ⟨b, 0, .none⟩), .int .i64 0] ∧ H = [r'] ∧ TbR xU64 b n T seed [] r' := by
  obtain ⟨A1, c1, rfl, -, hc1', g1⟩ := id ht
  refine enter (n := 29) Tryz.func48 rfl rfl [(0, _), (1, _), (2, _)] rfl ⟨rfl, rfl, rfl, trivial⟩ (Holds.start _ _) ?_
  refine w_seq (w_reg (wl_f (f_assign rfl) (wl_f (f_assign rfl) (wl_end [(0, _), (1, _), (2, _)] ⟨rfl, rfl, rfl, trivial⟩ ?_))))
  refine w_seq (w_seq (w_reg (wl_f (f_move rfl) (wl_f (f_lss rfl rfl) ?_))))
  refine wl_f (f_move rfl) ?_
  refine wl_or (j := 2) (c := decide (8192 < (n : Int))) 2 [(0, _), (1, _), (2, _)] ⟨rfl, rfl, rfl, trivial⟩ rfl rfl rfl rfl rfl (fun hg1_5 => ?_) (fun w1_5 => ?_)
  · skip
    refine wl_gf rfl rfl (f_move rfl) ?_
    refine wl_gf rfl rfl (f_gtr rfl rfl) ?_
    exact wl_pend rfl rfl ⟨rfl, rfl, rfl, trivial⟩ (List.Sublist.refl _)
  refine wl_end [(0, _), (1, _), (2, _), (14, _)] ⟨rfl, rfl, rfl, rfl, trivial⟩ ?_
  refine w_ifb rfl (fun h => absurd h (by simp; omega)) (fun _ => ?_)
  refine w_skip ?_
  refine w_seq (w_seq (w_reg (wl_f (f_move rfl) (wl_e (e_call0 rfl Tryz.func53 (by kernel_rfl) (fun w hh => check_ok _ _ w)) ?_))))
  rintro _ _ w1 ⟨_, rfl, rfl, rfl⟩
  refine wl_f (f_assign rfl) (wl_end [(0, _), (1, _), (2, _), (8, _)] ⟨rfl, rfl, rfl, rfl, trivial⟩ ?_)
  refine w_seq (w_reg (wl_f (f_move rfl) (wl_f (f_neq rfl rfl) ?_)))
  refine wl_end [(0, _), (1, _), (2, _), (8, _), (18, _)] ⟨rfl, rfl, rfl, rfl, rfl, trivial⟩ ?_
  refine w_ifb rfl (fun h => absurd h (by simp)) (fun _ => ?_)
  refine w_skip ?_
  refine w_seq ?_
  refine w_post (fun m H w' => ∃ (q : Nat) (tV cV : Value), m = [(6, .pointer (some ⟨q, 0, .none⟩)), (7, .int .i64 0)] ∧ H = ims xU64 q n (2 * n) 0 T seed tV cV (List.replicate (2 * n) none)) ?_ ?_
  · skip
    refine w_drawt (.fl 0 (.fl 1 (.fl 3 (.fl 4 (.fl 5 (.two 2 (.ef 6 (.fl 7 (.ef 8 (.fl 9 (.fl 10 .done))))) 6 (.ef 2 (.fl 7 (.ef 8 (.fl 9 (.fl 10 .done))))))))))) ([]) ([]) mixed (by kernel_rfl) (by kernel_rfl) rfl (perm_all _) (fun w6_ => ?_)
    refine wt_f rfl (f_move rfl) ?_
    refine wt_f rfl (f_move rfl) ?_
    refine wt_f rfl (f_move rfl) ?_
    refine wt_f rfl (f_move rfl) ?_
    refine wt_f rfl (f_eqv (v' := .int .i64 ((2 * n : Nat) : Int)) (f_mul rfl rfl (by omega)) (by congr 1)) ?_
    refine wt_two ?_ ?_
    · skip
      refine es_e rfl (e_call0 rfl Tryz.func54 (by kernel_rfl) (fun w hh => clone_spec T _ w hT (ht.old0 hh))) ?_
      rintro _ _ w6_2 ⟨_, rfl, A2, c2, rfl, rfl⟩
      refine ⟨_, List.Perm.refl _, ?_⟩
      refine wt_ef (es_e rfl (e_make (l := 2 * n) (cs := icells xU64 (List.replicate (2 * n) none)) rfl rfl t125 (by omega) (by omega) (madeCellsI xU64 (2 * n)).symm) ?_)
      rintro _ _ w6_6 ⟨b6_6, rfl, rfl⟩
      refine ⟨_, List.perm_middle.symm, ?_⟩
      refine wt_f rfl (f_build rfl (fun w => build_umap _ _ _ _ _ _ _ _ w)) ?_
      refine wt_ef (es_e rfl (e_box (cs := [_, _, _, _, _]) rfl rfl) ?_)
      rintro _ _ w6_8 ⟨b6_8, rfl, rfl⟩
      refine ⟨_, List.perm_middle.symm, ?_⟩
      refine wt_f rfl (f_assign rfl) ?_
      refine wt_f rfl (f_assign rfl) ?_
      refine wt_endp [(6, _), (7, _)] [0, 1, 0] ⟨rfl, rfl, trivial⟩ rfl ?_
      exact ⟨b6_8, _, _, rfl, rfl⟩
    · skip
      refine es_e rfl (e_make (l := 2 * n) (cs := icells xU64 (List.replicate (2 * n) none)) rfl rfl t125 (by omega) (by omega) (madeCellsI xU64 (2 * n)).symm) ?_
      rintro _ _ w6_6 ⟨b6_6, rfl, rfl⟩
      refine ⟨_, List.perm_middle.symm, ?_⟩
      refine wt_ef (es_e rfl (e_call0 rfl Tryz.func54 (by kernel_rfl) (fun w hh => clone_spec T _ w hT (ht.old0 hh))) ?_)
      rintro _ _ w6_2 ⟨_, rfl, A2, c2, rfl, rfl⟩
      refine ⟨_, List.Perm.refl _, ?_⟩
      refine wt_f rfl (f_build rfl (fun w => build_umap _ _ _ _ _ _ _ _ w)) ?_
      refine wt_ef (es_e rfl (e_box (cs := [_, _, _, _, _]) rfl rfl) ?_)
      rintro _ _ w6_8 ⟨b6_8, rfl, rfl⟩
      refine ⟨_, List.perm_middle.symm, ?_⟩
      refine wt_f rfl (f_assign rfl) ?_
      refine wt_f rfl (f_assign rfl) ?_
      refine wt_endp [(6, _), (7, _)] [0, 0, 0] ⟨rfl, rfl, trivial⟩ rfl ?_
      exact ⟨b6_8, _, _, rfl, rfl⟩
  rintro _ _ w6_ ⟨q, tV, cV, rfl, rfl⟩
  refine w_bun (H := []) (ims xU64 q n (2 * n) 0 T seed tV cV _) ?_
  refine w_ret ?_
  refine ⟨_, _, fun a ha hh => results_tmps Tryz.results48 rfl a ha _, List.Sublist.refl _, ?_⟩
  refine ⟨q, _, rfl, rfl, 2 * n, List.replicate (2 * n) none, ⟨h1, h2, rfl, hT, List.length_replicate, tV, cV, by rw [ents_replicate]; rfl⟩, TInv.new _, by rw [ents_replicate], by rw [ents_replicate]; exact Nat.zero_le _, by rw [ents_replicate]; simp⟩
end Go.Proofs.YtmagdjlcckgkpaaGreat

/- Tables: what is done to keys and values; putting, getting, counting. -/
namespace Go.Proofs.YtmagdjlcckgkpaaGreat
open Go.RowKit

section
variable {α : Type}
def mdel (M : List (ByteArray × α)) (k : ByteArray) : List (ByteArray × α) := M.filter fun x => !decide (x.1 = k)
def mget (M : List (ByteArray × α)) (k : ByteArray) : Option α := (M.find? fun x => decide (x.1 = k)).map Prod.snd
def mput (n : Nat) (M : List (ByteArray × α)) (k : ByteArray) (v : α) : Int × List (ByteArray × α) := if (mget M k).isNone = true ∧ M.length = n then (7, M) else (0, (k, v) :: mdel M k)
theorem mem_keys {M : List (ByteArray × α)} {k : ByteArray} : k ∈ keys M ↔ ∃ v, (k, v) ∈ M := by simp [keys]
theorem mdel_self (M : List (ByteArray × α)) (k : ByteArray) (v : α) : mdel ((k, v) :: M) k = mdel M k := by simp [mdel]
theorem mdel_none {M : List (ByteArray × α)} {k : ByteArray} (h : k ∉ keys M) : mdel M k = M := by
  refine List.filter_eq_self.2 fun x hx => ?_
  have : x.1 ≠ k := fun e => h (mem_keys.2 ⟨x.2, by rw [← e]; exact hx⟩)
  simp [this]
theorem mdel_perm {M M' : List (ByteArray × α)} (h : M.Perm M') (k : ByteArray) : (mdel M k).Perm (mdel M' k) := h.filter _
theorem mdel_not (M : List (ByteArray × α)) (k : ByteArray) : k ∉ keys (mdel M k) := by
  rw [mem_keys]; rintro ⟨v, hv⟩; simp [mdel] at hv
theorem mdel_nd {M : List (ByteArray × α)} (h : (keys M).Nodup) (k : ByteArray) : (keys (mdel M k)).Nodup := h.sublist (List.filter_sublist.map _)
theorem mget_some {M : List (ByteArray × α)} {k : ByteArray} {v : α} (hnd : (keys M).Nodup) (h : (k, v) ∈ M) : mget M k = some v := by
  induction M with
  | nil => cases h
  | cons x M ih =>
    simp only [keys, List.map_cons, List.nodup_cons] at hnd
    rcases List.mem_cons.1 h with rfl | h
    · simp [mget]
    · have : x.1 ≠ k := fun e => hnd.1 (by rw [e]; exact mem_keys.2 ⟨v, h⟩)
      simp only [mget, List.find?_cons, decide_eq_false this] at ih ⊢
      exact ih hnd.2 h
theorem mget_none {M : List (ByteArray × α)} {k : ByteArray} (h : k ∉ keys M) : mget M k = none := by
  rw [mget, List.find?_eq_none.2 fun x hx => ?_]
  · rfl
  · have : x.1 ≠ k := fun e => h (mem_keys.2 ⟨x.2, by rw [← e]; exact hx⟩)
    simp [this]
theorem mget_in {M : List (ByteArray × α)} {k : ByteArray} (h : k ∈ keys M) : (mget M k).isNone = false := by
  obtain ⟨v, hv⟩ := mem_keys.1 h
  cases e : M.find? (fun x => decide (x.1 = k)) with
  | none => exact absurd (List.find?_eq_none.1 e (k, v) hv) (by simp)
  | some x => simp [mget, e]
theorem mput_over {n : Nat} {M : List (ByteArray × α)} {k : ByteArray} {v : α} (h : k ∈ keys M) : mput n M k v = (0, (k, v) :: mdel M k) := if_neg fun h' => by rw [mget_in h] at h'; exact absurd h'.1 (by decide)
theorem mput_full {n : Nat} {M : List (ByteArray × α)} {k : ByteArray} {v : α} (h : k ∉ keys M) (hn : M.length = n) : mput n M k v = (7, M) := if_pos ⟨by rw [mget_none h]; rfl, hn⟩
theorem mput_new {n : Nat} {M : List (ByteArray × α)} {k : ByteArray} {v : α} (h : k ∉ keys M) (hn : M.length ≠ n) : mput n M k v = (0, (k, v) :: M) := by
  rw [mput, if_neg fun h' => hn h'.2, mdel_none h]

/-- A search, split by its end. -/
theorem FindG.form {hf : ByteArray → Nat} {N : Nat} {cs : Cells α} {k : ByteArray} {v : Value} (h : FindG hf N cs k v) (hN : cs.length = N) (hk : hf k < N) :
    ∃ (p : Nat) (ok : Bool), v = .tuple [.int .i64 (p : Int), .bool ok].toArray ∧ p < N ∧ (ok = true → ∃ y, cs[p]? = some (some (k, y))) ∧
      (ok = false → ∃ i < N, p = adv N (hf k) i ∧ cs[p]? = some none ∧ (∀ j < i, ∀ y, cs[adv N (hf k) j]? ≠ some (some (k, y))) ∧ ∀ j < i, Occ cs (adv N (hf k) j)) := by
  obtain ⟨i, hi, ⟨h1, rfl, h2, h3⟩ | ⟨y, h1, rfl⟩⟩ := h
  · exact ⟨_, false, rfl, adv_lt hk hi, fun e => (by cases e), fun _ => ⟨i, hi, rfl, h1, h2, h3⟩⟩
  · exact ⟨_, true, rfl, adv_lt hk hi, fun _ => ⟨y, h1⟩, fun e => (by cases e)⟩
variable {cs : Cells α} {p : Nat} {k : ByteArray} {v y : α} {M : List (ByteArray × α)}
theorem at_mem (h : cs[p]? = some (some (k, y))) (hM : (ents cs).Perm M) : (k, y) ∈ M := hM.mem_iff.1 (mem_ents.2 ⟨p, h⟩)
theorem keys_in (hM : (ents cs).Perm M) {k : ByteArray} : k ∈ keys M ↔ k ∈ keys (ents cs) := (keys_perm hM).mem_iff.symm
/-- The rest, when one is out. -/
theorem rest_perm (hnd : (keys (ents cs)).Nodup) (h : cs[p]? = some (some (k, y))) (hM : (ents cs).Perm M) : (ents (cs.set p none)).Perm (mdel M k) := by
  have h1 := ents_set_none h
  have h2 : k ∉ keys (ents (cs.set p none)) := (List.nodup_cons.1 ((keys_perm h1).nodup_iff.1 hnd)).1
  have h3 := mdel_perm (hM.symm.trans h1) k
  rw [mdel_self, mdel_none h2] at h3
  exact h3.symm
end

theorem build_icell (k : ByteArray) (v : Int) (w : World) : (Instr.build 154 [(0, .bool true), (1, .string k), (2, xInt.val v)].toArray).run Tryz.prog w = .ok (.agg [.bool true, .string k, xInt.val v].toArray) w := by kernel_rfl
theorem build_ucell (k : ByteArray) (v : Nat) (w : World) : (Instr.build 212 [(0, .bool true), (1, .string k), (2, xU64.val v)].toArray).run Tryz.prog w = .ok (.agg [.bool true, .string k, xU64.val v].toArray) w := by kernel_rfl
theorem ixlen_spec (b n : Nat) (T : List Nat) (seed : Int) (M : List (ByteArray × Int)) (r : Res) (w : World) (hr : TbR xInt b n T seed M r) (hs : Holds w r.foot [r] w) :
    Spec Tryz.prog 163 [.pointer (some ⟨b, 0, .none⟩)] w r.foot fun v H => v = .int .i64 (M.length : Int) ∧ H = [r] := by
  obtain ⟨N, cs, ⟨hn1, hn2, hN, hT, hcl, tV, cV, rfl⟩, hI, hM, hle, hsm⟩ := hr
  refine enter (n := 9) Tryz.func163 rfl rfl [(0, _)] rfl ⟨rfl, trivial⟩ hs ?_
  refine w_seq (w_reg (wl_f (f_assign rfl) (wl_end [(0, _)] ⟨rfl, trivial⟩ ?_)))
  refine w_seq (w_seq (w_reg (wl_f (f_move rfl) (wl_f (f_eqlnil rfl rfl Tryz.underlying92) ?_))))
  refine wl_end [(0, _), (4, _)] ⟨rfl, rfl, trivial⟩ ?_
  refine w_iff rfl ?_
  refine w_skip ?_
  refine w_seq (w_reg (wl_f (f_move rfl) (wl_f (f_nilCheck rfl) (wl_f (f_fieldAddr 1 rfl Tryz.underlying124 rfl rfl (by kernel_rfl)) ?_))))
  refine wl_f (f_loadB 0 0 rfl rfl rfl Tryz.underlying3 rfl rfl) ?_
  refine wl_f (f_assign rfl) (wl_end [(2, _)] ⟨rfl, trivial⟩ ?_)
  refine w_ret ?_
  refine ⟨_, _, fun a ha hh => results_tmps Tryz.results163 rfl a ha _, List.Sublist.refl _, ?_⟩
  rw [← hM.length_eq]; exact ⟨rfl, rfl⟩
theorem uxlen_spec (b n : Nat) (T : List Nat) (seed : Int) (M : List (ByteArray × Nat)) (r : Res) (w : World) (hr : TbR xU64 b n T seed M r) (hs : Holds w r.foot [r] w) :
    Spec Tryz.prog 154 [.pointer (some ⟨b, 0, .none⟩)] w r.foot fun v H => v = .int .i64 (M.length : Int) ∧ H = [r] := by
  obtain ⟨N, cs, ⟨hn1, hn2, hN, hT, hcl, tV, cV, rfl⟩, hI, hM, hle, hsm⟩ := hr
  refine enter (n := 9) Tryz.func154 rfl rfl [(0, _)] rfl ⟨rfl, trivial⟩ hs ?_
  refine w_seq (w_reg (wl_f (f_assign rfl) (wl_end [(0, _)] ⟨rfl, trivial⟩ ?_)))
  refine w_seq (w_seq (w_reg (wl_f (f_move rfl) (wl_f (f_eqlnil rfl rfl Tryz.underlying102) ?_))))
  refine wl_end [(0, _), (4, _)] ⟨rfl, rfl, trivial⟩ ?_
  refine w_iff rfl ?_
  refine w_skip ?_
  refine w_seq (w_reg (wl_f (f_move rfl) (wl_f (f_nilCheck rfl) (wl_f (f_fieldAddr 1 rfl Tryz.underlying127 rfl rfl (by kernel_rfl)) ?_))))
  refine wl_f (f_loadB 0 0 rfl rfl rfl Tryz.underlying3 rfl rfl) ?_
  refine wl_f (f_assign rfl) (wl_end [(2, _)] ⟨rfl, trivial⟩ ?_)
  refine w_ret ?_
  refine ⟨_, _, fun a ha hh => results_tmps Tryz.results154 rfl a ha _, List.Sublist.refl _, ?_⟩
  rw [← hM.length_eq]; exact ⟨rfl, rfl⟩
set_option maxHeartbeats 1000000 in
theorem ixget_spec (b n : Nat) (T : List Nat) (seed : Int) (M : List (ByteArray × Int)) (r : Res) (k : ByteArray) (w : World) (hk : small k) (hr : TbR xInt b n T seed M r) (hs : Holds w r.foot [r] w) :
    Spec Tryz.prog 82 [.pointer (some ⟨b, 0, .none⟩), .string k] w r.foot fun v H => v = .tuple #[xInt.val ((mget M k).getD xInt.zero), .bool (mget M k).isSome] ∧ H = [r] := by
  obtain ⟨N, cs, hC, hI, hM, hle, hsm⟩ := hr
  obtain ⟨hn1, hn2, hN, hT, hcl, tV, cV, rfl⟩ := id hC
  have hh0 : hslot T seed N k < N := hslot_lt T seed (by omega) k
  refine enter (n := 29) Tryz.func82 rfl rfl [(0, _), (1, _)] rfl ⟨rfl, rfl, trivial⟩ hs ?_
  refine w_seq (w_reg (wl_f (f_assign rfl) (wl_f (f_assign rfl) (wl_end [(0, _), (1, _)] ⟨rfl, rfl, trivial⟩ ?_))))
  refine w_seq (w_reg (wl_f (f_assign rfl) (wl_end [(0, _), (1, _), (6, _)] ⟨rfl, rfl, rfl, trivial⟩ ?_)))
  refine w_seq (w_seq (w_reg (wl_f (f_move rfl) (wl_f (f_eqlnil rfl rfl Tryz.underlying92) ?_))))
  refine wl_end [(0, _), (1, _), (6, _), (10, _)] ⟨rfl, rfl, rfl, rfl, trivial⟩ ?_
  refine w_iff rfl ?_
  refine w_skip ?_
  refine w_seq (w_reg (wl_f (f_move rfl) (wl_f (f_move rfl) (wl_e (e_call1 _ [] rfl Tryz.func91 (by kernel_rfl) (List.Perm.refl _) (fun w hh hs' => ifind_spec b n N _ T seed cs _ k w hk (by omega) hC hs')) ?_))))
  rintro _ _ w4 ⟨_, rfl, hf, rfl⟩
  obtain ⟨p, ok, rfl, hp, hok, hno⟩ := hf.form hcl hh0
  refine wl_f (f_move rfl) (wl_f (f_extract rfl rfl) ?_)
  refine wl_f (f_extract rfl rfl) ?_
  refine wl_f (f_assign rfl) (wl_f (f_assign rfl) (wl_end [(0, _), (6, _), (7, _), (8, _)] ⟨rfl, rfl, rfl, rfl, trivial⟩ ?_))
  refine w_seq (w_seq (w_reg (wl_f (f_move rfl) (wl_f (f_not rfl rfl) ?_))))
  refine wl_end [(0, _), (6, _), (7, _), (19, _)] ⟨rfl, rfl, rfl, rfl, trivial⟩ ?_
  refine w_ifb rfl (fun hc2 => ?_) (fun hc2 => ?_)
  · skip
    obtain ⟨i, hi, rfl, he, h1, h2⟩ := hno (by simpa using hc2)
    have hab := hI.absent hh0 hi he h1
    refine w_seq (w_reg (wl_f (f_move rfl) (wl_f (f_assign rfl) (wl_f (f_assign rfl) (wl_end [(4, _), (5, _)] ⟨rfl, rfl, trivial⟩ ?_)))))
    refine w_ret ?_
    refine ⟨_, _, fun a ha hh => results_tmps Tryz.results82 rfl a ha _, List.Sublist.refl _, ?_⟩
    rw [mget_none (fun h => hab ((keys_in hM).1 h))]; exact ⟨rfl, rfl⟩
  · skip
    obtain ⟨y, hy⟩ := hok (by simpa using hc2)
    have hnd : (keys M).Nodup := (keys_perm hM).nodup_iff.1 hI.nd
    have hg := mget_some hnd (at_mem hy hM)
    refine w_with fun hh => ?_
    obtain ⟨g, cc, e2⟩ := rowB_form hh (i := 0) (j := 2) rfl rfl (by omega)
    subst e2
    clear hh
    refine w_skip ?_
    refine w_seq (w_reg (wl_f (f_move rfl) (wl_f (f_nilCheck rfl) (wl_f (f_fieldAddr 4 rfl Tryz.underlying124 rfl rfl (by kernel_rfl)) ?_))))
    refine wl_f (f_loadB 0 0 rfl rfl rfl Tryz.underlying122 rfl rfl) ?_
    refine wl_f (f_move rfl) (wl_f (f_indexAddr 3 (i := p) rfl rfl Tryz.underlying122 (by kernel_rfl) rfl hp) ?_)
    refine wl_f (f_fieldAddr 2 rfl Tryz.underlying154 rfl rfl (by kernel_rfl)) ?_
    refine wl_f (f_loadBr (v := xInt.val y) 0 2 rfl rfl rfl Tryz.underlying3 rfl (icells_j xInt hy 2 rfl (by omega))) ?_
    refine wl_f (f_assign rfl) (wl_f (f_assign rfl) (wl_end [(4, _), (5, _)] ⟨rfl, rfl, trivial⟩ ?_))
    refine w_ret ?_
    refine ⟨_, _, fun a ha hh => results_tmps Tryz.results82 rfl a ha _, List.Sublist.refl _, ?_⟩
    rw [hg]; exact ⟨rfl, rfl⟩
set_option maxHeartbeats 1000000 in
theorem uxget_spec (b n : Nat) (T : List Nat) (seed : Int) (M : List (ByteArray × Nat)) (r : Res) (k : ByteArray) (w : World) (hk : small k) (hr : TbR xU64 b n T seed M r) (hs : Holds w r.foot [r] w) :
    Spec Tryz.prog 153 [.pointer (some ⟨b, 0, .none⟩), .string k] w r.foot fun v H => v = .tuple #[xU64.val ((mget M k).getD xU64.zero), .bool (mget M k).isSome] ∧ H = [r] := by
  obtain ⟨N, cs, hC, hI, hM, hle, hsm⟩ := hr
  obtain ⟨hn1, hn2, hN, hT, hcl, tV, cV, rfl⟩ := id hC
  have hh0 : hslot T seed N k < N := hslot_lt T seed (by omega) k
  refine enter (n := 29) Tryz.func153 rfl rfl [(0, _), (1, _)] rfl ⟨rfl, rfl, trivial⟩ hs ?_
  refine w_seq (w_reg (wl_f (f_assign rfl) (wl_f (f_assign rfl) (wl_end [(0, _), (1, _)] ⟨rfl, rfl, trivial⟩ ?_))))
  refine w_seq (w_reg (wl_f (f_assign rfl) (wl_end [(0, _), (1, _), (6, _)] ⟨rfl, rfl, rfl, trivial⟩ ?_)))
  refine w_seq (w_seq (w_reg (wl_f (f_move rfl) (wl_f (f_eqlnil rfl rfl Tryz.underlying102) ?_))))
  refine wl_end [(0, _), (1, _), (6, _), (10, _)] ⟨rfl, rfl, rfl, rfl, trivial⟩ ?_
  refine w_iff rfl ?_
  refine w_skip ?_
  refine w_seq (w_reg (wl_f (f_move rfl) (wl_f (f_move rfl) (wl_e (e_call1 _ [] rfl Tryz.func159 (by kernel_rfl) (List.Perm.refl _) (fun w hh hs' => ufind_spec b n N _ T seed cs _ k w hk (by omega) hC hs')) ?_))))
  rintro _ _ w4 ⟨_, rfl, hf, rfl⟩
  obtain ⟨p, ok, rfl, hp, hok, hno⟩ := hf.form hcl hh0
  refine wl_f (f_move rfl) (wl_f (f_extract rfl rfl) ?_)
  refine wl_f (f_extract rfl rfl) ?_
  refine wl_f (f_assign rfl) (wl_f (f_assign rfl) (wl_end [(0, _), (6, _), (7, _), (8, _)] ⟨rfl, rfl, rfl, rfl, trivial⟩ ?_))
  refine w_seq (w_seq (w_reg (wl_f (f_move rfl) (wl_f (f_not rfl rfl) ?_))))
  refine wl_end [(0, _), (6, _), (7, _), (19, _)] ⟨rfl, rfl, rfl, rfl, trivial⟩ ?_
  refine w_ifb rfl (fun hc2 => ?_) (fun hc2 => ?_)
  · skip
    obtain ⟨i, hi, rfl, he, h1, h2⟩ := hno (by simpa using hc2)
    have hab := hI.absent hh0 hi he h1
    refine w_seq (w_reg (wl_f (f_move rfl) (wl_f (f_assign rfl) (wl_f (f_assign rfl) (wl_end [(4, _), (5, _)] ⟨rfl, rfl, trivial⟩ ?_)))))
    refine w_ret ?_
    refine ⟨_, _, fun a ha hh => results_tmps Tryz.results153 rfl a ha _, List.Sublist.refl _, ?_⟩
    rw [mget_none (fun h => hab ((keys_in hM).1 h))]; exact ⟨rfl, rfl⟩
  · skip
    obtain ⟨y, hy⟩ := hok (by simpa using hc2)
    have hnd : (keys M).Nodup := (keys_perm hM).nodup_iff.1 hI.nd
    have hg := mget_some hnd (at_mem hy hM)
    refine w_with fun hh => ?_
    obtain ⟨g, cc, e2⟩ := rowB_form hh (i := 0) (j := 2) rfl rfl (by omega)
    subst e2
    clear hh
    refine w_skip ?_
    refine w_seq (w_reg (wl_f (f_move rfl) (wl_f (f_nilCheck rfl) (wl_f (f_fieldAddr 4 rfl Tryz.underlying127 rfl rfl (by kernel_rfl)) ?_))))
    refine wl_f (f_loadB 0 0 rfl rfl rfl Tryz.underlying125 rfl rfl) ?_
    refine wl_f (f_move rfl) (wl_f (f_indexAddr 3 (i := p) rfl rfl Tryz.underlying125 (by kernel_rfl) rfl hp) ?_)
    refine wl_f (f_fieldAddr 2 rfl Tryz.underlying212 rfl rfl (by kernel_rfl)) ?_
    refine wl_f (f_loadBr (v := xU64.val y) 0 2 rfl rfl rfl Tryz.underlying33 rfl (icells_j xU64 hy 2 rfl (by omega))) ?_
    refine wl_f (f_assign rfl) (wl_f (f_assign rfl) (wl_end [(4, _), (5, _)] ⟨rfl, rfl, trivial⟩ ?_))
    refine w_ret ?_
    refine ⟨_, _, fun a ha hh => results_tmps Tryz.results153 rfl a ha _, List.Sublist.refl _, ?_⟩
    rw [hg]; exact ⟨rfl, rfl⟩
set_option maxHeartbeats 2000000 in
theorem ixput_spec (b n : Nat) (T : List Nat) (seed : Int) (M : List (ByteArray × Int)) (r : Res) (k : ByteArray) (v : Int) (w : World) (hk : small k) (hr : TbR xInt b n T seed M r) (hs : Holds w r.foot [r] w) :
    Spec Tryz.prog 98 [.pointer (some ⟨b, 0, .none⟩), .string k, xInt.val v] w r.foot fun u H => u = .int .i64 (mput n M k v).1 ∧ ∃ r', H = [r'] ∧ TbR xInt b n T seed (mput n M k v).2 r' := by
  have hr0 := hr
  obtain ⟨N, cs, hC, hI, hM, hle, hsm⟩ := hr
  obtain ⟨hn1, hn2, hN, hT, hcl, tV, cV, rfl⟩ := id hC
  have hh0 : hslot T seed N k < N := hslot_lt T seed (by omega) k
  refine enter (n := 44) Tryz.func98 rfl rfl [(0, _), (1, _), (2, _)] rfl ⟨rfl, rfl, rfl, trivial⟩ hs ?_
  refine w_seq (w_reg (wl_f (f_assign rfl) (wl_end [(0, _), (1, _), (2, _)] ⟨rfl, rfl, rfl, trivial⟩ ?_)))
  refine w_seq (w_seq (w_reg (wl_f (f_move rfl) (wl_f (f_eqlnil rfl rfl Tryz.underlying92) ?_))))
  refine wl_end [(0, _), (1, _), (2, _), (10, _)] ⟨rfl, rfl, rfl, rfl, trivial⟩ ?_
  refine w_iff rfl ?_
  refine w_skip ?_
  refine w_seq (w_reg (wl_f (f_move rfl) (wl_f (f_move rfl) (wl_e (e_call1 _ [] rfl Tryz.func91 (by kernel_rfl) (List.Perm.refl _) (fun w hh hs' => ifind_spec b n N _ T seed cs _ k w hk (by omega) hC hs')) ?_))))
  rintro _ _ w4 ⟨_, rfl, hf, rfl⟩
  obtain ⟨p, ok, rfl, hp, hok, hno⟩ := hf.form hcl hh0
  refine wl_f (f_move rfl) (wl_f (f_extract rfl rfl) ?_)
  refine wl_f (f_extract rfl rfl) ?_
  refine wl_f (f_assign rfl) (wl_f (f_assign rfl) (wl_end [(0, _), (1, _), (2, _), (7, _), (8, _)] ⟨rfl, rfl, rfl, rfl, rfl, trivial⟩ ?_))
  refine w_seq (w_seq (w_reg (wl_f (f_move rfl) (wl_f (f_not rfl rfl) ?_))))
  refine wl_end [(0, _), (1, _), (2, _), (7, _), (18, _)] ⟨rfl, rfl, rfl, rfl, rfl, trivial⟩ ?_
  refine w_post (fun m H w' => ∃ len' : Nat, m = [(0, .pointer (some ⟨b, 0, .none⟩)), (1, .string k), (2, xInt.val v), (7, .int .i64 p)] ∧ H = [bun (ims xInt b n N len' T seed tV cV cs)] ∧ len' = (ents (cs.set p (some (k, v)))).length ∧ TInv (hslot T seed N) N (cs.set p (some (k, v))) ∧
    (ents (cs.set p (some (k, v)))).Perm (mput n M k v).2 ∧ len' ≤ n ∧ (mput n M k v).1 = 0 ∧ ∀ x ∈ ents (cs.set p (some (k, v))), small x.1) ?_ ?_
  · skip
    refine w_ifb rfl (fun hc2 => ?_) (fun hc2 => ?_)
    · skip
      obtain ⟨i, hi, rfl, he, h1, h2⟩ := hno (by simpa using hc2)
      have hab := hI.absent hh0 hi he h1
      have hab' : k ∉ keys M := fun h => hab ((keys_in hM).1 h)
      have hl : M.length = (ents cs).length := hM.length_eq.symm
      refine w_seq (w_seq ?_)
      refine w_draw [(0, true), (1, true), (2, true), (3, true), (4, true), (5, true), (6, true), (7, true), (8, true)] (_) ([]) mixed (by kernel_rfl) (by kernel_rfl) rfl (perm_all _) (fun w5_ => ?_)
      refine wd_f rfl (f_move rfl) (wd_f rfl (f_nilCheck rfl) (wd_f rfl (f_fieldAddr 1 rfl Tryz.underlying124 rfl rfl (by kernel_rfl)) ?_))
      refine wd_f rfl (f_loadB 0 0 rfl rfl rfl Tryz.underlying3 rfl rfl) ?_
      refine wd_f rfl (f_move rfl) (wd_f rfl (f_nilCheck rfl) (wd_f rfl (f_fieldAddr 0 rfl Tryz.underlying124 rfl rfl (by kernel_rfl)) ?_))
      refine wd_f rfl (f_loadB 0 0 rfl rfl rfl Tryz.underlying3 rfl rfl) ?_
      refine wd_f rfl (f_eql rfl rfl) ?_
      refine wd_end [(0, _), (1, _), (2, _), (7, _), (27, _)] ⟨rfl, rfl, rfl, rfl, rfl, trivial⟩ ?_
      refine w_ifd rfl (fun hc3 => ?_) (fun hc3 => ?_)
      · skip
        have hfull : M.length = n := by
          have : ((ents cs).length : Int) = (n : Int) := hc3
          omega
        refine w_seq (w_reg (wl_f (f_assign rfl) (wl_end [(6, _)] ⟨rfl, trivial⟩ ?_)))
        refine w_ret ?_
        refine ⟨_, _, fun a ha hh => results_tmps Tryz.results98 rfl a ha _, List.Sublist.refl _, ?_⟩
        rw [mput_full hab' hfull]; exact ⟨rfl, _, rfl, hr0⟩
      · skip
        have hfull : M.length ≠ n := fun h => hc3 (show ((ents cs).length : Int) = (n : Int) by omega)
        have hper := ents_set_some (x := (k, v)) he
        refine w_unb (ims xInt b n N _ T seed tV cV cs) ?_
        refine w_skip ?_
        refine w_reg (wl_f (f_move rfl) (wl_f (f_nilCheck rfl) (wl_f (f_fieldAddr 1 rfl Tryz.underlying124 rfl rfl (by kernel_rfl)) ?_)))
        refine wl_f (f_loadb 0 rfl Tryz.underlying3 rfl rfl rfl) ?_
        refine wl_f (f_add rfl rfl (by omega)) ?_
        refine wl_f (f_nilCheck rfl) (wl_f (f_fieldAddr 1 rfl Tryz.underlying124 rfl rfl (by kernel_rfl)) ?_)
        refine wl_e0 (e_store0 (us := [_]) rfl rfl rfl (by kernel_rfl) (by simp [Value.oneCell']) rfl rfl) ?_
        rintro _ _ w7_7 rfl
        refine wl_bun (H := []) [_, _, _] ?_
        refine wl_end [(0, _), (1, _), (2, _), (7, _)] ⟨rfl, rfl, rfl, rfl, trivial⟩ ?_
        rw [mput_new hab' hfull]
        refine ⟨(ents cs).length + 1, rfl, rfl, ?_, hI.put hh0 hi he hab h2, hper.trans (hM.cons _), by omega, rfl, fun x hx => ?_⟩
        · rw [hper.length_eq]; rfl
        · rcases List.mem_cons.1 (hper.mem_iff.1 hx) with rfl | hx
          · exact hk
          · exact hsm x hx
    · skip
      obtain ⟨y, hy⟩ := hok (by simpa using hc2)
      have hin : k ∈ keys M := mem_keys.2 ⟨y, at_mem hy hM⟩
      have hper := ents_set_over (x := (k, v)) hy
      have hrest := rest_perm hI.nd hy hM
      have hp0 := ents_set_none hy
      refine w_sub [(0, _), (1, _), (2, _), (7, _)] ⟨rfl, rfl, rfl, rfl, trivial⟩ (w_skip ?_)
      rw [mput_over hin]
      refine ⟨(ents cs).length, rfl, rfl, by rw [hper.length_eq, hp0.length_eq]; rfl, hI.over hy, hper.trans (hrest.cons _), hle, rfl, fun x hx => ?_⟩
      rcases List.mem_cons.1 (hper.mem_iff.1 hx) with rfl | hx
      · exact hk
      · exact hsm x (hp0.mem_iff.2 (List.mem_cons_of_mem _ hx))
  · rintro _ _ w5 ⟨len', rfl, rfl, hlen', hI', hM', hle', he0, hsm'⟩
    refine w_seq (w_unb (H := []) (ims xInt b n N _ T seed tV cV cs) ?_)
    refine w_with fun hh => ?_
    obtain ⟨g, cc, e2⟩ := row_form hh (i := 2) rfl (by omega)
    subst e2
    clear hh
    refine w_reg (wl_f (f_move rfl) (wl_f (f_nilCheck rfl) (wl_f (f_fieldAddr 4 rfl Tryz.underlying124 rfl rfl (by kernel_rfl)) ?_)))
    refine wl_f (f_loadb 0 rfl Tryz.underlying122 rfl rfl rfl) ?_
    refine wl_f (f_move rfl) (wl_f (f_move rfl) (wl_f (f_move rfl) (wl_f (f_build rfl (fun w => build_icell _ _ w)) ?_)))
    refine wl_f (f_indexAddr 3 (i := p) rfl rfl Tryz.underlying122 (by kernel_rfl) rfl hp) ?_
    refine wl_e0 (e_storerN 2 (us := icell xInt (some (k, v))) (xs' := icells xInt (cs.set p (some (k, v)))) rfl rfl rfl rfl (by kernel_rfl) (by simp [icell, xInt, Value.oneCell']) (by rw [icells_len]; show 0 + p * 3 + 3 ≤ _; omega) (icells_set xInt _ (by omega))) ?_
    rintro _ _ w8_9 rfl
    refine wl_end [] trivial ?_
    refine w_seq (w_reg (wl_f (f_assign rfl) (wl_end [(6, _)] ⟨rfl, trivial⟩ ?_)))
    refine w_bun (H := []) [_, _, _] ?_
    refine w_ret ?_
    refine ⟨_, _, fun a ha hh => results_tmps Tryz.results98 rfl a ha _, List.Sublist.refl _, ?_⟩
    rw [he0]
    exact ⟨rfl, _, rfl, N, cs.set p (some (k, v)), ⟨hn1, hn2, hN, hT, by rw [List.length_set]; exact hcl, tV, .slice (some ⟨g, 0, .none⟩) N cc, by rw [hlen']; rfl⟩, hI', hM', by omega, hsm'⟩
set_option maxHeartbeats 2000000 in
theorem uxput_spec (b n : Nat) (T : List Nat) (seed : Int) (M : List (ByteArray × Nat)) (r : Res) (k : ByteArray) (v : Nat) (w : World) (hk : small k) (hr : TbR xU64 b n T seed M r) (hs : Holds w r.foot [r] w) :
    Spec Tryz.prog 155 [.pointer (some ⟨b, 0, .none⟩), .string k, xU64.val v] w r.foot fun u H => u = .int .i64 (mput n M k v).1 ∧ ∃ r', H = [r'] ∧ TbR xU64 b n T seed (mput n M k v).2 r' := by
  have hr0 := hr
  obtain ⟨N, cs, hC, hI, hM, hle, hsm⟩ := hr
  obtain ⟨hn1, hn2, hN, hT, hcl, tV, cV, rfl⟩ := id hC
  have hh0 : hslot T seed N k < N := hslot_lt T seed (by omega) k
  refine enter (n := 44) Tryz.func155 rfl rfl [(0, _), (1, _), (2, _)] rfl ⟨rfl, rfl, rfl, trivial⟩ hs ?_
  refine w_seq (w_reg (wl_f (f_assign rfl) (wl_end [(0, _), (1, _), (2, _)] ⟨rfl, rfl, rfl, trivial⟩ ?_)))
  refine w_seq (w_seq (w_reg (wl_f (f_move rfl) (wl_f (f_eqlnil rfl rfl Tryz.underlying102) ?_))))
  refine wl_end [(0, _), (1, _), (2, _), (10, _)] ⟨rfl, rfl, rfl, rfl, trivial⟩ ?_
  refine w_iff rfl ?_
  refine w_skip ?_
  refine w_seq (w_reg (wl_f (f_move rfl) (wl_f (f_move rfl) (wl_e (e_call1 _ [] rfl Tryz.func159 (by kernel_rfl) (List.Perm.refl _) (fun w hh hs' => ufind_spec b n N _ T seed cs _ k w hk (by omega) hC hs')) ?_))))
  rintro _ _ w4 ⟨_, rfl, hf, rfl⟩
  obtain ⟨p, ok, rfl, hp, hok, hno⟩ := hf.form hcl hh0
  refine wl_f (f_move rfl) (wl_f (f_extract rfl rfl) ?_)
  refine wl_f (f_extract rfl rfl) ?_
  refine wl_f (f_assign rfl) (wl_f (f_assign rfl) (wl_end [(0, _), (1, _), (2, _), (7, _), (8, _)] ⟨rfl, rfl, rfl, rfl, rfl, trivial⟩ ?_))
  refine w_seq (w_seq (w_reg (wl_f (f_move rfl) (wl_f (f_not rfl rfl) ?_))))
  refine wl_end [(0, _), (1, _), (2, _), (7, _), (18, _)] ⟨rfl, rfl, rfl, rfl, rfl, trivial⟩ ?_
  refine w_post (fun m H w' => ∃ len' : Nat, m = [(0, .pointer (some ⟨b, 0, .none⟩)), (1, .string k), (2, xU64.val v), (7, .int .i64 p)] ∧ H = [bun (ims xU64 b n N len' T seed tV cV cs)] ∧ len' = (ents (cs.set p (some (k, v)))).length ∧ TInv (hslot T seed N) N (cs.set p (some (k, v))) ∧
    (ents (cs.set p (some (k, v)))).Perm (mput n M k v).2 ∧ len' ≤ n ∧ (mput n M k v).1 = 0 ∧ ∀ x ∈ ents (cs.set p (some (k, v))), small x.1) ?_ ?_
  · skip
    refine w_ifb rfl (fun hc2 => ?_) (fun hc2 => ?_)
    · skip
      obtain ⟨i, hi, rfl, he, h1, h2⟩ := hno (by simpa using hc2)
      have hab := hI.absent hh0 hi he h1
      have hab' : k ∉ keys M := fun h => hab ((keys_in hM).1 h)
      have hl : M.length = (ents cs).length := hM.length_eq.symm
      refine w_seq (w_seq ?_)
      refine w_draw [(0, true), (1, true), (2, true), (3, true), (4, true), (5, true), (6, true), (7, true), (8, true)] (_) ([]) mixed (by kernel_rfl) (by kernel_rfl) rfl (perm_all _) (fun w5_ => ?_)
      refine wd_f rfl (f_move rfl) (wd_f rfl (f_nilCheck rfl) (wd_f rfl (f_fieldAddr 1 rfl Tryz.underlying127 rfl rfl (by kernel_rfl)) ?_))
      refine wd_f rfl (f_loadB 0 0 rfl rfl rfl Tryz.underlying3 rfl rfl) ?_
      refine wd_f rfl (f_move rfl) (wd_f rfl (f_nilCheck rfl) (wd_f rfl (f_fieldAddr 0 rfl Tryz.underlying127 rfl rfl (by kernel_rfl)) ?_))
      refine wd_f rfl (f_loadB 0 0 rfl rfl rfl Tryz.underlying3 rfl rfl) ?_
      refine wd_f rfl (f_eql rfl rfl) ?_
      refine wd_end [(0, _), (1, _), (2, _), (7, _), (27, _)] ⟨rfl, rfl, rfl, rfl, rfl, trivial⟩ ?_
      refine w_ifd rfl (fun hc3 => ?_) (fun hc3 => ?_)
      · skip
        have hfull : M.length = n := by
          have : ((ents cs).length : Int) = (n : Int) := hc3
          omega
        refine w_seq (w_reg (wl_f (f_assign rfl) (wl_end [(6, _)] ⟨rfl, trivial⟩ ?_)))
        refine w_ret ?_
        refine ⟨_, _, fun a ha hh => results_tmps Tryz.results155 rfl a ha _, List.Sublist.refl _, ?_⟩
        rw [mput_full hab' hfull]; exact ⟨rfl, _, rfl, hr0⟩
      · skip
        have hfull : M.length ≠ n := fun h => hc3 (show ((ents cs).length : Int) = (n : Int) by omega)
        have hper := ents_set_some (x := (k, v)) he
        refine w_unb (ims xU64 b n N _ T seed tV cV cs) ?_
        refine w_skip ?_
        refine w_reg (wl_f (f_move rfl) (wl_f (f_nilCheck rfl) (wl_f (f_fieldAddr 1 rfl Tryz.underlying127 rfl rfl (by kernel_rfl)) ?_)))
        refine wl_f (f_loadb 0 rfl Tryz.underlying3 rfl rfl rfl) ?_
        refine wl_f (f_add rfl rfl (by omega)) ?_
        refine wl_f (f_nilCheck rfl) (wl_f (f_fieldAddr 1 rfl Tryz.underlying127 rfl rfl (by kernel_rfl)) ?_)
        refine wl_e0 (e_store0 (us := [_]) rfl rfl rfl (by kernel_rfl) (by simp [Value.oneCell']) rfl rfl) ?_
        rintro _ _ w7_7 rfl
        refine wl_bun (H := []) [_, _, _] ?_
        refine wl_end [(0, _), (1, _), (2, _), (7, _)] ⟨rfl, rfl, rfl, rfl, trivial⟩ ?_
        rw [mput_new hab' hfull]
        refine ⟨(ents cs).length + 1, rfl, rfl, ?_, hI.put hh0 hi he hab h2, hper.trans (hM.cons _), by omega, rfl, fun x hx => ?_⟩
        · rw [hper.length_eq]; rfl
        · rcases List.mem_cons.1 (hper.mem_iff.1 hx) with rfl | hx
          · exact hk
          · exact hsm x hx
    · skip
      obtain ⟨y, hy⟩ := hok (by simpa using hc2)
      have hin : k ∈ keys M := mem_keys.2 ⟨y, at_mem hy hM⟩
      have hper := ents_set_over (x := (k, v)) hy
      have hrest := rest_perm hI.nd hy hM
      have hp0 := ents_set_none hy
      refine w_sub [(0, _), (1, _), (2, _), (7, _)] ⟨rfl, rfl, rfl, rfl, trivial⟩ (w_skip ?_)
      rw [mput_over hin]
      refine ⟨(ents cs).length, rfl, rfl, by rw [hper.length_eq, hp0.length_eq]; rfl, hI.over hy, hper.trans (hrest.cons _), hle, rfl, fun x hx => ?_⟩
      rcases List.mem_cons.1 (hper.mem_iff.1 hx) with rfl | hx
      · exact hk
      · exact hsm x (hp0.mem_iff.2 (List.mem_cons_of_mem _ hx))
  · rintro _ _ w5 ⟨len', rfl, rfl, hlen', hI', hM', hle', he0, hsm'⟩
    refine w_seq (w_unb (H := []) (ims xU64 b n N _ T seed tV cV cs) ?_)
    refine w_with fun hh => ?_
    obtain ⟨g, cc, e2⟩ := row_form hh (i := 2) rfl (by omega)
    subst e2
    clear hh
    refine w_reg (wl_f (f_move rfl) (wl_f (f_nilCheck rfl) (wl_f (f_fieldAddr 4 rfl Tryz.underlying127 rfl rfl (by kernel_rfl)) ?_)))
    refine wl_f (f_loadb 0 rfl Tryz.underlying125 rfl rfl rfl) ?_
    refine wl_f (f_move rfl) (wl_f (f_move rfl) (wl_f (f_move rfl) (wl_f (f_build rfl (fun w => build_ucell _ _ w)) ?_)))
    refine wl_f (f_indexAddr 3 (i := p) rfl rfl Tryz.underlying125 (by kernel_rfl) rfl hp) ?_
    refine wl_e0 (e_storerN 2 (us := icell xU64 (some (k, v))) (xs' := icells xU64 (cs.set p (some (k, v)))) rfl rfl rfl rfl (by kernel_rfl) (by simp [icell, xU64, Value.oneCell']) (by rw [icells_len]; show 0 + p * 3 + 3 ≤ _; omega) (icells_set xU64 _ (by omega))) ?_
    rintro _ _ w8_9 rfl
    refine wl_end [] trivial ?_
    refine w_seq (w_reg (wl_f (f_assign rfl) (wl_end [(6, _)] ⟨rfl, trivial⟩ ?_)))
    refine w_bun (H := []) [_, _, _] ?_
    refine w_ret ?_
    refine ⟨_, _, fun a ha hh => results_tmps Tryz.results155 rfl a ha _, List.Sublist.refl _, ?_⟩
    rw [he0]
    exact ⟨rfl, _, rfl, N, cs.set p (some (k, v)), ⟨hn1, hn2, hN, hT, by rw [List.length_set]; exact hcl, tV, .slice (some ⟨g, 0, .none⟩) N cc, by rw [hlen']; rfl⟩, hI', hM', by omega, hsm'⟩
end Go.Proofs.YtmagdjlcckgkpaaGreat
