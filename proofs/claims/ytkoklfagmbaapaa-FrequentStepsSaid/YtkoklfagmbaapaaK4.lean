/- The proof kit, fourth part: the rules of the operations on memory, calls, appends. -/
import Derived.Test.YtkoklfagmbaapaaK3
import Derived.Laws.Externs
namespace Go.Proofs.Ytkoklfagmbaapaa
open Go.RowKit

/-- What a slice type is: its element type, the cells and bytes of an element, the zero element. -/
structure SlT (P : Program) (t e sz bytes : Nat) (z : Value) : Prop where
  ht : P.underlying t = some (.slice e)
  hi : ∃ i, P.info? e = some i ∧ i.zero = some z ∧ i.size = sz ∧ i.bytes = bytes
  hzs : z.cells.size = sz
  hsz : 0 < sz

theorem SlT.mk' {P : Program} {t e sz bytes : Nat} {z : Value} (ht : P.underlying t = some (.slice e))
    (hi : (P.info? e).map (fun i => (i.zero, i.size, i.bytes)) = some (some z, sz, bytes)) (hzs : z.cells.size = sz) (hsz : 0 < sz) : SlT P t e sz bytes z := by
  refine ⟨ht, ?_, hzs, hsz⟩
  cases h : P.info? e with
  | none => rw [h] at hi; cases hi
  | some i =>
    rw [h] at hi
    simp only [Option.map_some, Option.some.injEq, Prod.mk.injEq] at hi
    exact ⟨i, rfl, hi.1, hi.2.1, hi.2.2⟩

theorem SlT.size {P : Program} {t e sz bytes : Nat} {z : Value} (h : SlT P t e sz bytes z) : (P.info? e).map (·.size) = some sz := by
  obtain ⟨i, hi, _, hs, _⟩ := h.hi
  simp [hi, hs]

/-- A slice that can be read: n elements of sz cells, outside of F. -/
def Rd (w : World) (F : Nat → Prop) (sz : Nat) (v : Value) (n : Nat) (xs : List Value) : Prop :=
  ∃ A c, v = .slice A n c ∧ xs.length = n * sz ∧ n ≤ c ∧ (n = 0 ∨ ∃ b off, A = some ⟨b, off, .none⟩ ∧ ¬ F b ∧ b < w.heap.size ∧ ∀ j u, xs[j]? = some u → w.cell? ⟨b, off + j, .none⟩ = some u)

theorem add_eq (b off k : Nat) : (⟨b, off, .none⟩ : Addr).add k = ⟨b, off + k, .none⟩ := by
  unfold Addr.add; split <;> simp_all

theorem Rd.nil (w : World) (F : Nat → Prop) (sz : Nat) : Rd w F sz (.slice .none 0 0) 0 [] := ⟨.none, 0, rfl, by simp, Nat.le_refl _, .inl rfl⟩

theorem Rd.keep {w w' : World} {F G : Nat → Prop} {sz n : Nat} {v : Value} {xs : List Value} (h : Rd w F sz v n xs) (hk : ∀ b, ¬ F b → b < w.heap.size → ¬ G b ∧ b < w'.heap.size ∧ w'.heap[b]? = w.heap[b]?) : Rd w' G sz v n xs := by
  obtain ⟨A, c, rfl, h1, h2, h3⟩ := h
  refine ⟨A, c, rfl, h1, h2, h3.imp id ?_⟩
  rintro ⟨b, off, rfl, hF, hlt, hc⟩
  obtain ⟨k1, k2, k3⟩ := hk b hF hlt
  exact ⟨b, off, rfl, k1, k2, fun j u hu => (World.cell?_of_block (w := w) k3).trans (hc j u hu)⟩

/-- What could be read at the beginning can be read now, and by a function that is handed H's blocks. -/
theorem Rd.old {w0 w : World} {F0 : Nat → Prop} {H Hc Hr : List Res} {sz n : Nat} {v : Value} {xs : List Value} (h : Rd w0 F0 sz v n xs) (hh : Holds w0 F0 H w) (hp : H.Perm (Hc ++ Hr)) : Rd w (feet Hc) sz v n xs := by
  refine h.keep fun b hF hlt => ⟨?_, Nat.lt_of_lt_of_le hlt hh.1.size, hh.1.block b hlt hF⟩
  rintro ⟨r, hr, hx⟩
  rcases ((hh.2.mem r (hp.mem_iff.2 (List.mem_append_left _ hr))).2 b hx).2 with h | h
  · omega
  · exact hF h
theorem Rd.old0 {w0 w : World} {F0 : Nat → Prop} {H : List Res} {sz n : Nat} {v : Value} {xs : List Value} (h : Rd w0 F0 sz v n xs) (hh : Holds w0 F0 H w) : Rd w Nil sz v n xs :=
  (h.old hh (Hc := []) (Hr := H) (List.Perm.refl _)).keep fun _ _ h => ⟨id, h, rfl⟩
theorem Rd.weak {w : World} {F G : Nat → Prop} {sz n : Nat} {v : Value} {xs : List Value} (h : Rd w F sz v n xs) (hG : ∀ b, G b → F b) : Rd w G sz v n xs :=
  h.keep fun b hb hlt => ⟨fun hg => hb (hG b hg), hlt, rfl⟩

/-- A part of a slice reads as that part. -/
theorem Rd.cut {w : World} {F : Nat → Prop} {sz n c l u : Nat} {A : Option Addr} {xs : List Value} (h : Rd w F sz (.slice A n c) n xs) (hlu : l ≤ u) (hun : u ≤ n) :
    Rd w F sz (.slice (if c = l then A else A.map (·.add (l * sz))) (u - l) (c - l)) (u - l) ((xs.drop (l * sz)).take ((u - l) * sz)) := by
  obtain ⟨A', c', he, h1, h2, h3⟩ := h
  injection he with e1 _ e3
  subst e1; subst e3
  have hlen : (u - l) * sz ≤ n * sz - l * sz := by
    rw [← Nat.sub_mul]
    exact Nat.mul_le_mul_right _ (by omega)
  refine ⟨_, _, rfl, by rw [List.length_take, List.length_drop, h1, Nat.min_eq_left hlen], by omega, ?_⟩
  rcases Nat.eq_zero_or_pos (u - l) with h0 | h0
  · exact .inl h0
  · right
    obtain ⟨b, off, rfl, hF, hlt, hc⟩ := h3.resolve_left (by omega)
    rw [if_neg (by omega)]
    refine ⟨b, off + l * sz, by simp [add_eq], hF, hlt, fun j v hj => ?_⟩
    rw [List.getElem?_take] at hj
    split at hj
    · rw [List.getElem?_drop] at hj
      have := hc _ _ hj
      rwa [show off + (l * sz + j) = off + l * sz + j by omega] at this
    · cases hj

theorem rd_row {w : World} {base e sz n : Nat} {v : Value} {xs : List Value} (h : w.ownsRow base e sz v n xs) : Rd w Nil sz v n xs := by
  rcases h.2 with ⟨rfl, rfl⟩ | ⟨g, cap, cur, rfl, hb, hg, hn, hc, hs, ht⟩
  · have : xs = [] := List.eq_nil_of_length_eq_zero (by simpa using h.1)
    subst this; exact Rd.nil _ _ _
  · refine ⟨_, _, rfl, h.1, hn, .inr ⟨_, _, rfl, id, (Array.getElem?_eq_some_iff.1 hg).1, fun j u hu => ?_⟩⟩
    have := h.cells (g := g) rfl j u hu
    rwa [add_eq] at this

/-- Reading a row that is held, by a function that is handed other resources. -/
theorem Rd.held {w0 w : World} {F0 : Nat → Prop} {H Hc Hr : List Res} {e sz n : Nat} {v : Value} {xs : List Value} (hh : Holds w0 F0 H w) (hp : H.Perm (Hc ++ Hr)) (hr : row v e sz n xs ∈ Hr) : Rd w (feet Hc) sz v n xs := by
  have h2 := hh.2.perm hp
  have hok : w.ownsRow 0 e sz v n xs := (h2.mem _ (List.mem_append_right _ hr)).1
  rcases hok.2 with ⟨rfl, rfl⟩ | ⟨g, cap, cur, rfl, hb, hg, hn, hc, hs, ht⟩
  · have : xs = [] := List.eq_nil_of_length_eq_zero (by simpa using hok.1)
    subst this; exact Rd.nil _ _ _
  · refine ⟨_, _, rfl, hok.1, hn, .inr ⟨_, _, rfl, ?_, (Array.getElem?_eq_some_iff.1 hg).1, fun j u hu => ?_⟩⟩
    · rintro ⟨r, hrc, hx⟩
      exact (Hs.append.1 h2).2.2 r hrc _ hr g hx (by simp [row, Value.ownBlock])
    · have := hok.cells (g := g) rfl j u hu
      rwa [add_eq] at this
theorem Rd.held0 {w0 w : World} {F0 : Nat → Prop} {H : List Res} {e sz n : Nat} {v : Value} {xs : List Value} (hh : Holds w0 F0 H w) {i : Nat} (hi : H[i]? = some (row v e sz n xs)) : Rd w Nil sz v n xs :=
  rd_row (hh.ok hi)
/-- A known block as a slice's source. -/
theorem Rd.blk {w0 w : World} {F0 : Nat → Prop} {H : List Res} {b t sz n : Nat} {cs : List Value} (hh : Holds w0 F0 H w) {i : Nat} (hi : H[i]? = some (blk b cs t)) (hl : cs.length = n * sz) : Rd w Nil sz (.slice (some ⟨b, 0, .none⟩) n n) n cs := by
  have hok : w.heap[b]? = some (.cells cs.toArray t (0, 0)) := hh.ok hi
  refine ⟨_, _, rfl, hl, Nat.le_refl _, .inr ⟨b, 0, rfl, id, (Array.getElem?_eq_some_iff.1 hok).1, fun j u hu => ?_⟩⟩
  rw [cell_of_row w b (0 + j) cs.toArray t (0, 0) hok]
  simpa using hu

theorem run_app {P : Program} {w : World} {t e sz bytes : Nat} {z : Value} (T : SlT P t e sz bytes z) (ty base : Nat) (v : Value) (n : Nat) (xs : List Value) (hown : w.ownsRow base e sz v n xs)
    (x : Value) (m : Nat) (news : List Value) (hr : Rd w Nil sz x m news) (h1 : ∀ u ∈ news, u.oneCell' = true)
    (hbytes : (n + m) * bytes ≤ 140737488355328) (h63 : n + m ≤ 140737488355328) (hbase : base ≤ w.heap.size) :
    ∃ v' w', (Builtin.append_ #[t, t] ty #[v, x]).run P w = .ok v' w' ∧ w'.ownsRow base e sz v' (n + m) (xs ++ news) ∧ w.grownBy w' v.ownBlock ∧
      (v'.ownBlock = v.ownBlock ∨ v'.ownBlock = some w.heap.size) := by
  obtain ⟨i, hi, hz, hs, hb⟩ := T.hi
  obtain ⟨A, c, rfl, hl, hc, hA⟩ := hr
  by_cases hm : m = 0
  · subst hm
    have hn : news = [] := List.eq_nil_of_length_eq_zero (by simpa using hl)
    subst hn
    refine ⟨v, w, ?_, by simpa using hown, ⟨rfl, rfl, rfl, Nat.le_refl _, fun _ _ _ => rfl⟩, .inl rfl⟩
    rcases hown.2 with ⟨rfl, rfl⟩ | ⟨g, cap, cur, rfl, _, _, hnc, _⟩ <;> cases A <;>
      simp [Builtin.append_, run_underlying T.ht, sizeOf, typeInfo, Builtin.lenOf, Builtin.firstCells, loadCells, loadCellsFrom, storeCells, *]
  · obtain ⟨b, off, rfl, _, _, hcell⟩ := hA.resolve_left hm
    obtain ⟨v', w', hrun, h2, h3, _, h5⟩ := run_append_own_at (P := P) w base t ty e i z sz bytes T.ht hi hz hs hb T.hzs T.hsz v n xs hown ⟨b, off, .none⟩ m c news hl
      (fun j u hu => by rw [add_eq]; exact hcell j u hu) h1 (by simp only [maxLen]; omega) hbytes hbase
    exact ⟨v', w', hrun, h2, h3, h5⟩

theorem ownBlock_lt {w w' : World} {e sz n : Nat} {v v' : Value} {xs : List Value} (h' : w'.ownsRow 0 e sz v' n xs) (hat : v'.ownBlock = v.ownBlock ∨ ∀ k, v'.ownBlock = some k → w.heap.size ≤ k) (k : Nat) (hk : v'.ownBlock = some k) :
    v.ownBlock = some k ∨ (w.heap.size ≤ k ∧ k < w'.heap.size) := by
  rcases hat with h | h
  · exact .inl (h ▸ hk)
  · exact .inr ⟨h k hk, (h'.lt k hk).2⟩

section
variable {P : Program} {n : Nat} {w0 : World} {F0 : Nat → Prop} {m : Env} {H H1 H2 : List Res} {w : World} {ty : TypeId}
  {x y c : Operand} {v vx vy : Value} {k : IntKind} {p q r : Int} {t e sz bytes : Nat} {z : Value}

/-! ### Loads -/

theorem isAgg_no {t : TypeId} {d : TypeDesc} (hd : P.underlying t = some d) (hagg : (match d with | .struct _ | .array _ _ => false | _ => true) = true) (w : World) : (isAgg t).run P w = .ok false w := by
  cases d <;> simp_all [isAgg, run_underlying hd]

/-- One cell, read in whatever way. -/
theorem f_load {ad : Addr} {d : TypeDesc} (hx : ev m x = some (.pointer (some ad))) (hd : P.underlying t = some d) (hagg : (match d with | .struct _ | .array _ _ => false | _ => true) = true)
    (hc : ∀ w, Holds w0 F0 H w → w.cell? ad = some v) : Flt P n w0 F0 (.load t x) ty m H v := fun o a w h1 h2 ha hh => by
  have := hc w hh
  simp [execOp, h1, ha.eval hx, Instr.loadAt, Instr.sureAddr, loadVar, isAgg_no hd hagg, this]
/-- A cell of a known block. -/
theorem f_loadb {b off tb : Nat} {cs : List Value} {d : TypeDesc} (i : Nat) (hx : ev m x = some (.pointer (some ⟨b, off, .none⟩))) (hd : P.underlying t = some d) (hagg : (match d with | .struct _ | .array _ _ => false | _ => true) = true)
    (hi : H[i]? = some (blk b cs tb)) (hv : cs[off]? = some v) : Flt P n w0 F0 (.load t x) ty m H v :=
  f_load hx hd hagg fun w hh => by
    have hok : w.heap[b]? = some (.cells cs.toArray tb (0, 0)) := hh.ok hi
    rw [cell_of_row w b off cs.toArray tb (0, 0) hok]
    simpa using hv
/-- A cell of old memory. -/
theorem f_loado {ad : Addr} {d : TypeDesc} (hx : ev m x = some (.pointer (some ad))) (hd : P.underlying t = some d) (hagg : (match d with | .struct _ | .array _ _ => false | _ => true) = true)
    (hc : w0.cell? ad = some v) (hF : ¬ F0 ad.block) : Flt P n w0 F0 (.load t x) ty m H v :=
  f_load hx hd hagg fun _ hh => hh.old hc hF
/-- An element's cell of a row of the call's own. -/
theorem f_loadr {g cap l off : Nat} {xs : List Value} {d : TypeDesc} (i : Nat) (hx : ev m x = some (.pointer (some ⟨g, off, .none⟩))) (hd : P.underlying t = some d) (hagg : (match d with | .struct _ | .array _ _ => false | _ => true) = true)
    (hi : H[i]? = some (row (.slice (some ⟨g, 0, .none⟩) l cap) e sz l xs)) (hv : xs[off]? = some v) : Flt P n w0 F0 (.load t x) ty m H v :=
  f_load hx hd hagg fun w hh => by
    have := (show w.ownsRow 0 e sz (.slice (some ⟨g, 0, .none⟩) l cap) l xs from hh.ok hi).cells (g := g) rfl off v hv
    rw [add_eq] at this
    simpa using this

/-- Several cells: a struct. -/
theorem run_loadCells (w : World) (b : Nat) : ∀ (l : List Value) (off i : Nat) (acc : Array Value), (∀ j u, l[j]? = some u → w.cell? ⟨b, off + (i + j), .none⟩ = some u) →
    (loadCellsFrom ⟨b, off, .none⟩ i l.length acc).run P w = .ok (acc ++ l.toArray) w
  | [], off, i, acc, _ => by simp [loadCellsFrom]
  | u :: l, off, i, acc, h => by
    have h0 := h 0 u rfl
    simp only [Nat.add_zero] at h0
    simp only [List.length_cons, loadCellsFrom, Sem.run_bind, add_eq, run_load, h0, Result.andThen_ok]
    rw [run_loadCells w b l off (i + 1) (acc.push u) (fun j v hv => by have := h (j + 1) v hv; rwa [show i + (j + 1) = i + 1 + j from by omega] at this)]
    simp
theorem f_loads {b off : Nat} {cs : List Value} {d : TypeDesc} (hx : ev m x = some (.pointer (some ⟨b, off, .none⟩))) (hd : P.underlying t = some d) (hagg : (match d with | .struct _ | .array _ _ => true | _ => false) = true)
    (hs : (P.info? t).map (·.size) = some cs.length) (hc : ∀ w, Holds w0 F0 H w → ∀ j u, cs[j]? = some u → w.cell? ⟨b, off + j, .none⟩ = some u) : Flt P n w0 F0 (.load t x) ty m H (.agg cs.toArray) := fun o a w h1 h2 ha hh => by
  obtain ⟨j, hj, hjs⟩ := Option.map_eq_some_iff.1 hs
  have hag : (isAgg t).run P w = .ok true w := by cases d <;> simp_all [isAgg, run_underlying hd]
  have hl := run_loadCells (P := P) w b cs off 0 #[] (fun j u hu => by simpa using hc w hh j u hu)
  simp [execOp, h1, ha.eval hx, Instr.loadAt, Instr.sureAddr, loadVar, hag, sizeOf, typeInfo, hj, hjs, loadCells, hl]
theorem f_loadsb {b off tb : Nat} {cs all : List Value} {d : TypeDesc} (i : Nat) (hx : ev m x = some (.pointer (some ⟨b, off, .none⟩))) (hd : P.underlying t = some d) (hagg : (match d with | .struct _ | .array _ _ => true | _ => false) = true)
    (hs : (P.info? t).map (·.size) = some cs.length) (hi : H[i]? = some (blk b all tb)) (hv : (all.drop off).take cs.length = cs) : Flt P n w0 F0 (.load t x) ty m H (.agg cs.toArray) :=
  f_loads hx hd hagg hs fun w hh j u hu => by
    have hok : w.heap[b]? = some (.cells all.toArray tb (0, 0)) := hh.ok hi
    rw [cell_of_row w b (off + j) all.toArray tb (0, 0) hok]
    have hj : j < cs.length := (List.getElem?_eq_some_iff.1 hu).1
    rw [← hv, List.getElem?_take, if_pos (by omega), List.getElem?_drop] at hu
    simpa using hu
theorem f_loadsr {g cap l off : Nat} {cs xs : List Value} {d : TypeDesc} (i : Nat) (hx : ev m x = some (.pointer (some ⟨g, off, .none⟩))) (hd : P.underlying t = some d) (hagg : (match d with | .struct _ | .array _ _ => true | _ => false) = true)
    (hs : (P.info? t).map (·.size) = some cs.length) (hi : H[i]? = some (row (.slice (some ⟨g, 0, .none⟩) l cap) e sz l xs)) (hv : (xs.drop off).take cs.length = cs) : Flt P n w0 F0 (.load t x) ty m H (.agg cs.toArray) :=
  f_loads hx hd hagg hs fun w hh j u hu => by
    have hj : j < cs.length := (List.getElem?_eq_some_iff.1 hu).1
    rw [← hv, List.getElem?_take, if_pos (by omega), List.getElem?_drop] at hu
    have := (show w.ownsRow 0 e sz (.slice (some ⟨g, 0, .none⟩) l cap) l xs from hh.ok hi).cells (g := g) rfl (off + j) u hu
    rw [add_eq] at this
    simpa using this
theorem f_loadso {b off : Nat} {cs : List Value} {d : TypeDesc} (hx : ev m x = some (.pointer (some ⟨b, off, .none⟩))) (hd : P.underlying t = some d) (hagg : (match d with | .struct _ | .array _ _ => true | _ => false) = true)
    (hs : (P.info? t).map (·.size) = some cs.length) (hc : ∀ j u, cs[j]? = some u → w0.cell? ⟨b, off + j, .none⟩ = some u) (hF : ¬ F0 b) : Flt P n w0 F0 (.load t x) ty m H (.agg cs.toArray) :=
  f_loads hx hd hagg hs fun _ hh j u hu => hh.old (hc j u hu) hF

/-! ### New blocks -/

theorem e_new {op : Op} {cs : List Value} {tb : TypeId} (g : Nat → Value)
    (hrun : ∀ (o : Oper) (a : Act) (w : World), o.op = op → o.type = ty → Fr n m a → Holds w0 F0 H w → (execOp a.eval o).run P w = .ok (.value (g w.heap.size)) (w.alloc (.cells cs.toArray tb))) :
    Eff P n w0 F0 op ty m H w (fun u H' => ∃ b, u = g b ∧ H' = blk b cs tb :: H) := fun o a K Q h1 h2 ha hh hk => by
  unfold Oper.wp
  rw [hrun o a w h1 h2 ha hh, Oper.upon_value]
  exact hk _ _ _ ⟨w.heap.size, rfl, rfl⟩ (hh.alloc cs tb)

theorem e_box {cs : List Value} (hx : ev m x = some v) (hv : v.cells = cs.toArray) : Eff P n w0 F0 (.box t x) ty m H w (fun u H' => ∃ b, u = .pointer (some ⟨b, 0, .none⟩) ∧ H' = blk b cs t :: H) :=
  e_new (fun b => .pointer (some ⟨b, 0, .none⟩)) fun o a w h1 h2 ha hh => by
    simp [execOp, h1, ha.eval hx, Instr.box, newVar, newRow, hv]
theorem e_alloc {cs : List Value} (hz : (P.info? t).map (·.zero) = some (some v)) (hv : v.cells = cs.toArray) : Eff P n w0 F0 (.alloc t) ty m H w (fun u H' => ∃ b, u = .pointer (some ⟨b, 0, .none⟩) ∧ H' = blk b cs t :: H) :=
  e_new (fun b => .pointer (some ⟨b, 0, .none⟩)) fun o a w h1 h2 ha hh => by
    obtain ⟨j, hj, hjs⟩ := Option.map_eq_some_iff.1 hz
    simp [execOp, h1, Instr.alloc, zeroValue, typeInfo, hj, hjs, newVar, newRow, hv]
theorem e_allocs (cs : List Value) (hz : (P.info? t).map (·.zero) = some (some (.agg cs.toArray))) : Eff P n w0 F0 (.alloc t) ty m H w (fun u H' => ∃ b, u = .pointer (some ⟨b, 0, .none⟩) ∧ H' = blk b cs t :: H) := e_alloc hz rfl
theorem e_alloc1 (v : Value) (hz : (P.info? t).map (·.zero) = some (some v)) (hv : v.cells = #[v]) : Eff P n w0 F0 (.alloc t) ty m H w (fun u H' => ∃ b, u = .pointer (some ⟨b, 0, .none⟩) ∧ H' = blk b [v] t :: H) := e_alloc hz hv
/-- A literal slice: parts are the elements' places and values; the cells are given. -/
theorem e_lit {len : Nat} {parts : List (Nat × Operand)} {us : List (Nat × Value)} {cs : List Value} (hp : evps m parts = some us)
    (hb : ∀ w, (Instr.buildSlice t len us.toArray).run P w = .ok (.slice (some ⟨w.heap.size, 0, .none⟩) len len) (w.alloc (.cells cs.toArray e))) :
    Eff P n w0 F0 (.buildSlice t len parts.toArray) ty m H w (fun u H' => ∃ b, u = .slice (some ⟨b, 0, .none⟩) len len ∧ H' = blk b cs e :: H) :=
  e_new (fun b => .slice (some ⟨b, 0, .none⟩) len len) fun o a w h1 h2 ha hh => by
    have e : (parts.toArray.map fun (i, x) => (i, a.eval x)) = us.toArray := by
      apply Array.ext'; simpa using ha.evparts _ hp
    simp only [execOp, h1, e, Sem.run_bind, hb, Result.andThen_ok, Sem.run_pure]
/-- The empty literal: an owned row. -/
theorem row_of_blk {b : Nat} {cs : List Value} {l : Nat} (hl : cs.length = l * sz) (hm : l ≤ maxLen) (hh : Holds w0 F0 (blk b cs e :: H) w) : Holds w0 F0 (row (.slice (some ⟨b, 0, .none⟩) l l) e sz l cs :: H) w := by
  obtain ⟨h1, ⟨hok, hf, hd⟩, h3⟩ := hh
  have hb : w.heap[b]? = some (.cells cs.toArray e (0, 0)) := hok
  refine ⟨h1, ⟨⟨hl, .inr ⟨b, l, cs.toArray, rfl, Nat.zero_le _, hb, Nat.le_refl _, hm, by simpa using hl, by simp [← hl]⟩⟩, ?_, ?_⟩, h3⟩
  · intro k hk
    exact hf k (by simpa [row, Value.ownBlock, blk, eq_comm] using hk)
  · intro s hs k hk
    exact hd s hs k (by simpa [row, Value.ownBlock, blk, eq_comm] using hk)
theorem e_litrow {len : Nat} {parts : List (Nat × Operand)} {us : List (Nat × Value)} {cs : List Value} (hp : evps m parts = some us)
    (hb : ∀ w, (Instr.buildSlice t len us.toArray).run P w = .ok (.slice (some ⟨w.heap.size, 0, .none⟩) len len) (w.alloc (.cells cs.toArray e))) (hl : cs.length = len * sz) (hm : len ≤ maxLen) :
    Eff P n w0 F0 (.buildSlice t len parts.toArray) ty m H w (fun u H' => ∃ b, u = .slice (some ⟨b, 0, .none⟩) len len ∧ H' = row (.slice (some ⟨b, 0, .none⟩) len len) e sz len cs :: H) :=
  fun o a K Q h1 h2 ha hh hk => e_lit hp hb o a K Q h1 h2 ha hh fun v _ w' ⟨b, hv, hH⟩ hh' => hk v _ w' ⟨b, hv, rfl⟩ (row_of_blk hl hm (hH ▸ hh'))
theorem run_lit0 (T : SlT P t e sz bytes z) (w : World) : (Instr.buildSlice t 0 #[]).run P w = .ok (.slice (some ⟨w.heap.size, 0, .none⟩) 0 0) (w.alloc (.cells #[] e)) := by
  obtain ⟨i, hi, hz, hs, hb⟩ := T.hi
  simp [Instr.buildSlice, run_underlying T.ht, sizeOf, typeInfo, hi, newRow, Instr.fill, Array.range_zero']
theorem run_lit1 (T : SlT P t e sz bytes z) (hv : v.cells.size = sz) (hsz : sz ≤ 65536) (w : World) :
    (Instr.buildSlice t 1 #[(0, v)]).run P w = .ok (.slice (some ⟨w.heap.size, 0, .none⟩) 1 1) (w.alloc (.cells v.cells e)) := by
  obtain ⟨i, hi, hz, hs, hb⟩ := T.hi
  have h0 := T.hsz
  have hbig : ¬ 16777216 < i.size := by omega
  have hcells : ∀ (l : List Value) (k : Nat) (acc : Array Value), k + l.length ≤ acc.size →
      (l.zipIdx k).foldl (fun cs (x : Value × Nat) => cs.setIfInBounds (0 + x.2) x.1) acc = (acc.toList.take k ++ l ++ acc.toList.drop (k + l.length)).toArray := by
    intro l
    induction l with
    | nil => intro k acc _; apply Array.ext'; simp
    | cons u l ih =>
      intro k acc hk
      simp only [List.zipIdx_cons, List.foldl_cons, Nat.zero_add]
      simp only [List.length_cons] at hk
      have := ih (k + 1) (acc.setIfInBounds k u) (by simp only [Array.size_setIfInBounds]; omega)
      simp only [Nat.zero_add] at this
      rw [this]
      apply Array.ext'
      simp only [Array.toList_setIfInBounds, List.length_cons]
      have hk' : k < acc.toList.length := by simp only [Array.length_toList]; omega
      rw [List.take_succ_eq_append_getElem (by simpa using hk'), List.take_set_of_le (Nat.le_refl _), List.drop_set_of_lt (by omega), List.getElem_set_self, show k + 1 + l.length = k + (l.length + 1) from by omega]
      simp
  have key : (v.cells.zipIdx.foldl (fun cs (x : Value × Nat) => cs.setIfInBounds (0 + x.2) x.1) ((Array.range (1 * i.size)).map (z.cells[· % z.cells.size]!))) = v.cells := by
    have h := hcells v.cells.toList 0 ((Array.range (1 * i.size)).map (z.cells[· % z.cells.size]!)) (by simp only [Array.length_toList, Array.size_map, Array.size_range]; omega)
    rw [← Array.foldl_toList, Array.toList_zipIdx, h]
    apply Array.ext'
    simp only [List.take_zero, List.nil_append]
    rw [List.drop_of_length_le (by simp; omega)]
    simp
  simp only [Nat.one_mul] at key
  simp [Instr.buildSlice, run_underlying T.ht, sizeOf, typeInfo, hi, newRow, Instr.fill, zeroValue, hz, hv, hs]
  rw [if_neg (by omega), if_neg (by omega)]
  simp only [Nat.zero_add, Array.size_zipIdx, hv, hs] at key
  rw [key]
/-- The empty literal, and the literal of one element. -/
theorem e_lit0 (T : SlT P t e sz bytes z) : Eff P n w0 F0 (.buildSlice t 0 #[]) ty m H w (fun u H' => ∃ b, u = .slice (some ⟨b, 0, .none⟩) 0 0 ∧ H' = row (.slice (some ⟨b, 0, .none⟩) 0 0) e sz 0 [] :: H) :=
  e_litrow (parts := []) (us := []) (cs := []) rfl (fun w => run_lit0 T w) (by simp) (by simp only [maxLen]; omega)
theorem e_lit1 {cs : List Value} (T : SlT P t e sz bytes z) (hx : ev m x = some v) (hv : v.cells = cs.toArray) (hl : cs.length = sz) (hsz : sz ≤ 65536) :
    Eff P n w0 F0 (.buildSlice t 1 #[(0, x)]) ty m H w (fun u H' => ∃ b, u = .slice (some ⟨b, 0, .none⟩) 1 1 ∧ H' = row (.slice (some ⟨b, 0, .none⟩) 1 1) e sz 1 cs :: H) :=
  e_litrow (parts := [(0, x)]) (us := [(0, v)]) (cs := cs) (by simp [evps, hx]) (fun w => by rw [← hv]; exact run_lit1 T (by simp [hv, hl]) hsz w) (by omega) (by simp only [maxLen]; omega)
/-- nil is a row. -/
theorem Holds.nilrow (h : Holds w0 F0 H w) (e sz : Nat) : Holds w0 F0 (row (.slice .none 0 0) e sz 0 [] :: H) w :=
  ⟨h.1, ⟨World.ownsRow_nil w 0 e sz, by intro k hk; simp [row, Value.ownBlock] at hk, by intro s hs k hk; simp [row, Value.ownBlock] at hk⟩, h.2⟩
theorem wl_nilrow {ops : Array Oper} {l : List Oper} {N : Cond} (e sz : Nat) (h : WL P n w0 F0 ops N l m (row (.slice .none 0 0) e sz 0 [] :: H) w) : WL P n w0 F0 ops N l m H w := fun a ha hh => h a ha (hh.nilrow e sz)
theorem w_nilrow {c : Code} {N R : Cond} {X : Nat → Cond} (e sz : Nat) (h : W P n w0 F0 c N R X m (row (.slice .none 0 0) e sz 0 [] :: H) w) : W P n w0 F0 c N R X m H w := fun a ha hh => h a ha (hh.nilrow e sz)
theorem e_make {cs : List Value} {l : Nat} (hx : ev m x = some (.int .i64 l)) (hy : ev m y = some (.int .i64 l)) (T : SlT P t e sz bytes z) (hb : bytes * l ≤ 281474976710656) (h63 : l ≤ 281474976710656) (hcs : cs = (madeCells z.cells (l * sz)).toList) :
    Eff P n w0 F0 (.makeSlice t x y) ty m H w (fun u H' => ∃ b, u = .slice (some ⟨b, 0, .none⟩) l l ∧ H' = row (.slice (some ⟨b, 0, .none⟩) l l) e sz l cs :: H) := fun o a K Q h1 h2 ha hh hk => by
  obtain ⟨i, hi, hz, hs, hby⟩ := T.hi
  have hb' : (i.bytes : Int) * (l : Int) ≤ 281474976710656 := by
    have h : ((i.bytes * l : Nat) : Int) ≤ 281474976710656 := by rw [hby]; omega
    rwa [Int.natCast_mul] at h
  have hr := run_make (P := P) w t e i z T.ht hi hz .i64 .i64 (l : Int) (l : Int) (by omega) (by omega) hb' (by omega)
  simp only [Int.toNat_natCast] at hr
  have hm : l ≤ maxLen := by simp only [maxLen]; omega
  have hlen : cs.length = l * sz := by rw [hcs, Array.length_toList]; simp only [madeCells, Array.size_map, Array.size_range]
  unfold Oper.wp
  have : (execOp a.eval o).run P w = .ok (.value (.slice (some ⟨w.heap.size, 0, .none⟩) l l)) (w.alloc (.cells cs.toArray e)) := by
    simp only [execOp, h1, ha.eval hx, ha.eval hy, Sem.run_bind, hr, Result.andThen_ok, Sem.run_pure, hcs, hs]
  rw [this, Oper.upon_value]
  exact hk _ _ _ ⟨_, rfl, rfl⟩ (row_of_blk hlen hm (hh.alloc cs e))

/-! ### Bytes to a string; a result that lies in memory -/

/-- The string of bytes. -/
def str (xs : List Nat) : ByteArray := ⟨(xs.map UInt8.ofNat).toArray⟩

theorem run_b2s {w : World} {xv : Value} {xs : List Nat} (hr : Rd w Nil 1 xv xs.length (xs.map fun b : Nat => Value.int .u8 (b : Int))) : (Conv.bytesToString xv).run P w = .ok (.string (str xs)) w := by
  obtain ⟨A, c, rfl, hl, hc, hA⟩ := hr
  cases A with
  | none =>
    have : xs = [] := by
      rcases hA with h | ⟨b, off, h, _⟩
      · exact List.eq_nil_of_length_eq_zero h
      · cases h
    subst this; rfl
  | some ad =>
    have hload : (loadCells ad xs.length).run P w = .ok ((xs.map fun b : Nat => (b : Int)).map (Value.int .u8)).toArray w := by
      rcases hA with h | ⟨b, off, h, _, _, hcell⟩
      · have : xs = [] := List.eq_nil_of_length_eq_zero h
        subst this; rfl
      · injection h with h; subst h
        have := run_loadCells (P := P) w b (xs.map fun b : Nat => Value.int .u8 (b : Int)) off 0 #[] (fun j u hu => by simpa using hcell j u hu)
        simp only [List.length_map] at this
        unfold loadCells
        rw [this]
        simp [Function.comp_def]
    rw [run_bytesToString w ad xs.length c _ hload]
    congr 2
    have key : ∀ (l : List Nat) (acc : ByteArray), (l.map fun b : Nat => (b : Int)).foldl (fun r n => r.push (UInt8.ofNat n.toNat)) acc = ⟨(acc.data.toList ++ l.map UInt8.ofNat).toArray⟩ := by
      intro l
      induction l with
      | nil => intro acc; simp
      | cons b l ih =>
        intro acc
        simp only [List.map_cons, List.foldl_cons, Int.toNat_natCast]
        rw [ih]
        simp [ByteArray.push]
    rw [key]
    simp [str]

theorem f_b2s {src dst e : TypeId} {xv : Value} {xs : List Nat} (hx : ev m x = some xv) (hs : P.underlying src = some (.slice e)) (he : P.underlying e = some (.int .u8)) (hd : P.underlying dst = some .string)
    (hr : ∀ w, Holds w0 F0 H w → Rd w Nil 1 xv xs.length (xs.map fun b : Nat => Value.int .u8 (b : Int))) : Flt P n w0 F0 (.convert src dst x) ty m H (.string (str xs)) := fun o a w h1 h2 ha hh => by
  have h := run_b2s (P := P) (hr w hh)
  obtain ⟨A, c, rfl, _⟩ := hr w hh
  simp [execOp, h1, ha.eval hx, convert, run_underlying hs, run_underlying hd, run_underlying he, h]

theorem results_cell {fn : Func} {s b tb t : Nat} {cs : List Value} {d : TypeDesc} (i : Nat) (hl : fn.results = #[.cell s t]) (hv : lk m s = some (.pointer (some ⟨b, 0, .none⟩))) (a : Act) (ha : Fr n m a) (hh : Holds w0 F0 H w)
    (hd : P.underlying t = some d) (hagg : (match d with | .struct _ | .array _ _ => true | _ => false) = true) (hsz : (P.info? t).map (·.size) = some cs.length) (hi : H[i]? = some (blk b cs tb)) :
    (results fn a.tmps).run P w = .ok (.agg cs.toArray) w := by
  obtain ⟨j, hj, hjs⟩ := Option.map_eq_some_iff.1 hsz
  have hag : (isAgg t).run P w = .ok true w := by cases d <;> simp_all [isAgg, run_underlying hd]
  have hok : w.heap[b]? = some (.cells cs.toArray tb (0, 0)) := hh.ok hi
  have hlc := run_loadCells (P := P) w b cs 0 0 #[] (fun j u hu => by rw [cell_of_row w b _ cs.toArray tb (0, 0) hok]; simpa using hu)
  have hg := ha.get s _ hv
  have hload : (loadVar t ⟨b, 0, .none⟩).run P w = .ok (.agg cs.toArray) w := by
    simp [loadVar, hag, sizeOf, typeInfo, hj, hjs, loadCells, hlc]
  simp [results, hl, hg, asAddr, hload]

/-! ### Stores -/

theorem run_storeCells' (w : World) (b tb : Nat) (cs : List Value) (hb : w.heap[b]? = some (.cells cs.toArray tb (0, 0))) (off : Nat) (us : List Value) (hl : off + us.length ≤ cs.length) (h1 : ∀ u ∈ us, u.oneCell' = true) :
    ∃ w', (storeCells ⟨b, off, .none⟩ us).run P w = .ok () w' ∧ w'.heap[b]? = some (.cells (cs.take off ++ us ++ cs.drop (off + us.length)).toArray tb (0, 0)) ∧ w.grownBy w' (some b) := by
  have := run_storeCells_at P b off tb us 0 cs.toArray w hb (by simpa using hl) h1
  simp only [Nat.add_zero] at this
  refine ⟨_, this, ?_, ?_⟩
  · rw [setRow_heap w b cs.toArray _ tb _ hb]
  · exact ⟨rfl, rfl, rfl, by simp, fun k _ hk => setRow_other w b k _ (fun e => hk (by simp [e]))⟩

theorem frm_of_grown {w w' : World} {row : Option Nat} {F : Nat → Prop} (h : w.grownBy w' row) (hF : ∀ k, row = some k → F k) : Frm F w w' :=
  ⟨h.os, h.tape, h.output, h.size, fun k hk hn => h.block k hk fun e => hn (hF k e.symm)⟩

theorem splice_take {α : Type} (cur us : List α) (off N : Nat) (h : off + us.length ≤ N) (hN : N ≤ cur.length) :
    (cur.take off ++ us ++ cur.drop (off + us.length)).take N = (cur.take N).take off ++ us ++ (cur.take N).drop (off + us.length) := by
  have hl : (cur.take off ++ us).length = off + us.length := by simp only [List.length_append, List.length_take]; omega
  rw [List.take_append, hl, List.take_of_length_le (by omega), List.take_take, Nat.min_eq_left (by omega), List.drop_take]

/-- A store into a known block. -/
theorem e_store {b off tb : Nat} {cs cs' us : List Value} (H1 H2 : List Res) (hx : ev m x = some (.pointer (some ⟨b, off, .none⟩))) (hy : ev m y = some v) (hv : v.cells = us.toArray) (hs : (P.info? t).map (·.size) = some us.length)
    (h1 : ∀ u ∈ us, u.oneCell' = true) (hl : off + us.length ≤ cs.length) (hcs : cs.take off ++ us ++ cs.drop (off + us.length) = cs') (hH : H = H1 ++ blk b cs tb :: H2) :
    Eff P n w0 F0 (.store t x y) ty m H w (fun _ H' => H' = H1 ++ blk b cs' tb :: H2) := fun o a K Q ho1 ho2 ha hh hk => by
  subst hH
  obtain ⟨j, hj, hjs⟩ := Option.map_eq_some_iff.1 hs
  have hok : w.heap[b]? = some (.cells cs.toArray tb (0, 0)) := (hh.2.mem (blk b cs tb) (by simp)).1
  obtain ⟨w', hrun, hb', hg⟩ := run_storeCells' (P := P) w b tb cs hok off us hl h1
  have hsz : us.length = j.size := hjs.symm
  unfold Oper.wp
  have : (execOp a.eval o).run P w = .ok .skip w' := by
    simp [execOp, ho1, ha.eval hx, ha.eval hy, Instr.storeAt, Instr.sureAddr, storeVar, hv, sizeOf, typeInfo, hj, hsz, hrun]
  rw [this, Oper.upon_skip]
  refine hk undef _ w' rfl (hh.change (r' := blk b cs' tb) (frm_of_grown hg (by rintro k h; injection h with h; exact h.symm)) ?_ (fun k hk => .inl hk))
  show w'.heap[b]? = some (.cells cs'.toArray tb (0, 0))
  rw [hb', hcs]
/-- A store into a row of the call's own. -/
theorem e_storer {g cap l off : Nat} {xs xs' us : List Value} (H1 H2 : List Res) (hx : ev m x = some (.pointer (some ⟨g, off, .none⟩))) (hy : ev m y = some v) (hv : v.cells = us.toArray) (hs : (P.info? t).map (·.size) = some us.length)
    (h1 : ∀ u ∈ us, u.oneCell' = true) (hl : off + us.length ≤ xs.length) (hcs : xs.take off ++ us ++ xs.drop (off + us.length) = xs') (hH : H = H1 ++ row (.slice (some ⟨g, 0, .none⟩) l cap) e sz l xs :: H2) :
    Eff P n w0 F0 (.store t x y) ty m H w (fun _ H' => H' = H1 ++ row (.slice (some ⟨g, 0, .none⟩) l cap) e sz l xs' :: H2) := fun o a K Q ho1 ho2 ha hh hk => by
  subst hH
  obtain ⟨j, hj, hjs⟩ := Option.map_eq_some_iff.1 hs
  have hok : w.ownsRow 0 e sz (.slice (some ⟨g, 0, .none⟩) l cap) l xs := (hh.2.mem (row (.slice (some ⟨g, 0, .none⟩) l cap) e sz l xs) (by simp)).1
  rcases hok.2 with ⟨h, _⟩ | ⟨g', cap', cur, h, _, hg, hnc, hcm, hcsz, htake⟩
  · cases h
  injection h with hga _ hcap
  injection hga with hga
  injection hga with hga _ _
  subst hga; subst hcap
  have hlen := hok.1
  have hcur : w.heap[g]? = some (.cells cur.toList.toArray e (0, 0)) := by simpa using hg
  have hle' : off + us.length ≤ cur.size := by
    have := Nat.mul_le_mul_right sz hnc
    omega
  have hle : off + us.length ≤ cur.toList.length := by simpa using hle'
  obtain ⟨w', hrun, hb', hgr⟩ := run_storeCells' (P := P) w g e cur.toList hcur off us hle h1
  have hsz : us.length = j.size := hjs.symm
  unfold Oper.wp
  have : (execOp a.eval o).run P w = .ok .skip w' := by
    simp [execOp, ho1, ha.eval hx, ha.eval hy, Instr.storeAt, Instr.sureAddr, storeVar, hv, sizeOf, typeInfo, hj, hsz, hrun]
  rw [this, Oper.upon_skip]
  refine hk undef _ w' rfl (hh.change (r' := row (.slice (some ⟨g, 0, .none⟩) l cap) e sz l xs') (frm_of_grown hgr (by rintro k h; simp only [row, Value.ownBlock]; exact h)) ?_ (fun k hk => .inl hk))
  have hl' : xs'.length = l * sz := by
    rw [← hcs]; simp only [List.length_append, List.length_take, List.length_drop]; omega
  refine ⟨hl', .inr ⟨g, cap, _, rfl, Nat.zero_le _, hb', hnc, hcm, ?_, ?_⟩⟩
  · have e : (cur.toList.take off ++ us ++ cur.toList.drop (off + us.length)).length = cur.size := by
      simp only [List.length_append, List.length_take, List.length_drop, Array.length_toList]; omega
    rw [List.size_toArray, e, hcsz]
  · rw [splice_take cur.toList us off (l * sz) (by omega) (by simp only [Array.length_toList, hcsz]; exact Nat.mul_le_mul_right sz hnc), htake, hcs]

/-! ### append -/

theorem e_app {l c : Nat} {xs news : List Value} {xv : Value} (H1 H2 : List Res) (T : SlT P t e sz bytes z) (hx : ev m x = some v) (hy : ev m y = some xv)
    (hH : H = H1 ++ row v e sz l xs :: H2) (hr : ∀ w, Holds w0 F0 H w → Rd w Nil sz xv c news) (h1 : ∀ u ∈ news, u.oneCell' = true)
    (hbytes : (l + c) * bytes ≤ 140737488355328) (h63 : l + c ≤ 140737488355328) :
    Eff P n w0 F0 (.call { callee := .builtin .append, args := #[x, y], argTypes := #[t, t] }) ty m H w (fun u H' => H' = H1 ++ row u e sz (l + c) (xs ++ news) :: H2) := fun o a K Q ho1 ho2 ha hh hk => by
  subst hH
  have hok : w.ownsRow 0 e sz v l xs := (hh.2.mem (row v e sz l xs) (by simp)).1
  obtain ⟨v', w', hrun, h2, h3, h4⟩ := run_app T o.type 0 v l xs hok xv c news (hr w hh) h1 hbytes h63 (Nat.zero_le _)
  unfold Oper.wp
  have : (execOp a.eval o).run P w = .ok (.value v') w' := by
    simp only [execOp, ho1, resolve, invoke, builtin, Sem.run_bind, Sem.run_pure, Result.andThen_ok, List.map_toArray, List.map_cons, List.map_nil, ha.eval hx, ha.eval hy, hrun]
  rw [this, Oper.upon_value]
  exact hk v' _ w' rfl (hh.change (r' := row v' e sz (l + c) (xs ++ news)) (frm_of_grown h3 (fun k h => h)) h2 (fun k hk => ownBlock_lt h2 (h4.imp id fun h k hk => by rw [h] at hk; injection hk with hk; omega) k hk))

/-! strings -/
theorem run_app_str {w : World} {u : TypeId} (T : SlT P t e 1 1 (.int .u8 0)) (hu : P.underlying u = some .string) (ty : TypeId) (v : Value) (l : Nat) (xs : List Value) (hown : w.ownsRow 0 e 1 v l xs) (s : ByteArray)
    (h63 : l + s.size ≤ 140737488355328) :
    ∃ v' w', (Builtin.append_ #[t, u] ty #[v, .string s]).run P w = .ok v' w' ∧ w'.ownsRow 0 e 1 v' (l + s.size) (xs ++ Lib.strCells s) ∧ w.grownBy w' v.ownBlock ∧
      (v'.ownBlock = v.ownBlock ∨ ∀ k, v'.ownBlock = some k → w.heap.size ≤ k) := by
  obtain ⟨i, hi, hz, hs, hby⟩ := T.hi
  obtain ⟨v', w', h1, h2, h3, _⟩ := Lib.run_append_own_string (P := P) w 0 t u ty e i T.ht hu hi hz hs hby v l xs hown s (by simp only [maxLen]; omega) (by omega) (Nat.zero_le _)
  refine ⟨v', w', h1, h2, h3, ?_⟩
  rcases hown.2 with ⟨rfl, rfl⟩ | ⟨g, cap, cur, rfl, hbg, hg, hnc, hcm, hcs, htake⟩
  · have hx : xs = [] := List.eq_nil_of_length_eq_zero (by simpa using hown.1)
    subst hx
    obtain ⟨v2, w2, g1, g2, g3, _⟩ := Lib.run_append_own_string (P := P) w w.heap.size t u ty e i T.ht hu hi hz hs hby (.slice .none 0 0) 0 [] (World.ownsRow_nil w _ e 1) s (by simp only [maxLen]; omega) (by omega) (Nat.le_refl _)
    rw [h1] at g1
    injection g1 with g1 g1'
    subst g1; subst g1'
    exact .inr fun k hk => (g2.lt k hk).1
  · by_cases hroom : l + s.size ≤ cap
    · have hcs' : cur.size = cap := by simpa using hcs
      have hr := Lib.run_append_room_string (P := P) w t u ty e i T.ht hu hi hs g l cap cur hg s hroom (by omega)
      rw [h1] at hr
      injection hr with hr _
      subst hr
      exact .inl rfl
    · have hxl : xs.length = l := by simpa using hown.1
      have holds : ∀ j u, xs[j]? = some u → w.cell? ((⟨g, 0, .none⟩ : Addr).add j) = some u := hown.cells (g := g) rfl
      have hr := Lib.run_append_grow_string (P := P) w t u ty e i (.int .u8 0) T.ht hu hi hz ⟨g, 0, .none⟩ l cap xs (by rw [hs]; simpa using hxl) holds s (by omega) (by omega) (by rw [hby]; exact growslice_fits (by omega) (by omega))
      rw [h1] at hr
      injection hr with hr _
      subst hr
      exact .inr fun k hk => by simp only [Value.ownBlock, Option.some.injEq] at hk; omega

theorem e_apps {l : Nat} {u : TypeId} {xs : List Value} {s : ByteArray} (H1 H2 : List Res) (T : SlT P t e 1 1 (.int .u8 0)) (hu : P.underlying u = some .string) (hx : ev m x = some v) (hy : ev m y = some (.string s))
    (hH : H = H1 ++ row v e 1 l xs :: H2) (h63 : l + s.size ≤ 140737488355328) :
    Eff P n w0 F0 (.call { callee := .builtin .append, args := #[x, y], argTypes := #[t, u] }) ty m H w (fun r H' => H' = H1 ++ row r e 1 (l + s.size) (xs ++ Lib.strCells s) :: H2) := fun o a K Q ho1 ho2 ha hh hk => by
  subst hH
  have hok : w.ownsRow 0 e 1 v l xs := (hh.2.mem (row v e 1 l xs) (by simp)).1
  obtain ⟨v', w', hrun, h2, h3, h4⟩ := run_app_str T hu o.type v l xs hok s h63
  unfold Oper.wp
  have : (execOp a.eval o).run P w = .ok (.value v') w' := by
    simp only [execOp, ho1, resolve, invoke, builtin, Sem.run_bind, Sem.run_pure, Result.andThen_ok, List.map_toArray, List.map_cons, List.map_nil, ha.eval hx, ha.eval hy, hrun]
  rw [this, Oper.upon_value]
  exact hk v' _ w' rfl (hh.change (r' := row v' e 1 (l + s.size) (xs ++ Lib.strCells s)) (frm_of_grown h3 (fun k h => h)) h2 (fun k hk => ownBlock_lt h2 h4 k hk))


/-! ### The same, by the place of the resource -/
theorem e_app0 {l c : Nat} {xs news : List Value} {xv : Value} (T : SlT P t e sz bytes z) (hx : ev m x = some v) (hy : ev m y = some xv)
    (hr : ∀ w, Holds w0 F0 (row v e sz l xs :: H) w → Rd w Nil sz xv c news) (h1 : ∀ u ∈ news, u.oneCell' = true)
    (hbytes : (l + c) * bytes ≤ 140737488355328) (h63 : l + c ≤ 140737488355328) :
    Eff P n w0 F0 (.call { callee := .builtin .append, args := #[x, y], argTypes := #[t, t] }) ty m (row v e sz l xs :: H) w (fun u H' => H' = row u e sz (l + c) (xs ++ news) :: H) :=
  e_app [] H T hx hy rfl hr h1 hbytes h63
theorem e_apps0 {l : Nat} {u : TypeId} {xs : List Value} {s : ByteArray} (T : SlT P t e 1 1 (.int .u8 0)) (hu : P.underlying u = some .string) (hx : ev m x = some v) (hy : ev m y = some (.string s))
    (h63 : l + s.size ≤ 140737488355328) :
    Eff P n w0 F0 (.call { callee := .builtin .append, args := #[x, y], argTypes := #[t, u] }) ty m (row v e 1 l xs :: H) w (fun r H' => H' = row r e 1 (l + s.size) (xs ++ Lib.strCells s) :: H) :=
  e_apps [] H T hu hx hy rfl h63
theorem e_store0 {bb off tb : Nat} {cs cs' us : List Value} (hx : ev m x = some (.pointer (some ⟨bb, off, .none⟩))) (hy : ev m y = some v) (hv : v.cells = us.toArray) (hs : (P.info? t).map (·.size) = some us.length)
    (h1 : ∀ u ∈ us, u.oneCell' = true) (hl : Nat.ble (off + us.length) cs.length = true) (hcs : cs.take off ++ us ++ cs.drop (off + us.length) = cs') :
    Eff P n w0 F0 (.store t x y) ty m (blk bb cs tb :: H) w (fun _ H' => H' = blk bb cs' tb :: H) :=
  e_store [] H hx hy hv hs h1 (Nat.le_of_ble_eq_true hl) hcs rfl
theorem e_storer0 {g cap l off : Nat} {xs xs' us : List Value} (hx : ev m x = some (.pointer (some ⟨g, off, .none⟩))) (hy : ev m y = some v) (hv : v.cells = us.toArray) (hs : (P.info? t).map (·.size) = some us.length)
    (h1 : ∀ u ∈ us, u.oneCell' = true) (hl : off + us.length ≤ xs.length) (hcs : xs.take off ++ us ++ xs.drop (off + us.length) = xs') :
    Eff P n w0 F0 (.store t x y) ty m (row (.slice (some ⟨g, 0, .none⟩) l cap) e sz l xs :: H) w (fun _ H' => H' = row (.slice (some ⟨g, 0, .none⟩) l cap) e sz l xs' :: H) :=
  e_storer [] H hx hy hv hs h1 hl hcs rfl
theorem e_app1 {a1 : Res} {l c : Nat} {xs news : List Value} {xv : Value} (T : SlT P t e sz bytes z) (hx : ev m x = some v) (hy : ev m y = some xv)
    (hr : ∀ w, Holds w0 F0 (a1 :: row v e sz l xs :: H) w → Rd w Nil sz xv c news) (h1 : ∀ u ∈ news, u.oneCell' = true)
    (hbytes : (l + c) * bytes ≤ 140737488355328) (h63 : l + c ≤ 140737488355328) :
    Eff P n w0 F0 (.call { callee := .builtin .append, args := #[x, y], argTypes := #[t, t] }) ty m (a1 :: row v e sz l xs :: H) w (fun u H' => H' = a1 :: row u e sz (l + c) (xs ++ news) :: H) :=
  e_app [a1] H T hx hy rfl hr h1 hbytes h63
theorem e_apps1 {a1 : Res} {l : Nat} {u : TypeId} {xs : List Value} {s : ByteArray} (T : SlT P t e 1 1 (.int .u8 0)) (hu : P.underlying u = some .string) (hx : ev m x = some v) (hy : ev m y = some (.string s))
    (h63 : l + s.size ≤ 140737488355328) :
    Eff P n w0 F0 (.call { callee := .builtin .append, args := #[x, y], argTypes := #[t, u] }) ty m (a1 :: row v e 1 l xs :: H) w (fun r H' => H' = a1 :: row r e 1 (l + s.size) (xs ++ Lib.strCells s) :: H) :=
  e_apps [a1] H T hu hx hy rfl h63
theorem e_store1 {a1 : Res} {bb off tb : Nat} {cs cs' us : List Value} (hx : ev m x = some (.pointer (some ⟨bb, off, .none⟩))) (hy : ev m y = some v) (hv : v.cells = us.toArray) (hs : (P.info? t).map (·.size) = some us.length)
    (h1 : ∀ u ∈ us, u.oneCell' = true) (hl : Nat.ble (off + us.length) cs.length = true) (hcs : cs.take off ++ us ++ cs.drop (off + us.length) = cs') :
    Eff P n w0 F0 (.store t x y) ty m (a1 :: blk bb cs tb :: H) w (fun _ H' => H' = a1 :: blk bb cs' tb :: H) :=
  e_store [a1] H hx hy hv hs h1 (Nat.le_of_ble_eq_true hl) hcs rfl
theorem e_storer1 {a1 : Res} {g cap l off : Nat} {xs xs' us : List Value} (hx : ev m x = some (.pointer (some ⟨g, off, .none⟩))) (hy : ev m y = some v) (hv : v.cells = us.toArray) (hs : (P.info? t).map (·.size) = some us.length)
    (h1 : ∀ u ∈ us, u.oneCell' = true) (hl : off + us.length ≤ xs.length) (hcs : xs.take off ++ us ++ xs.drop (off + us.length) = xs') :
    Eff P n w0 F0 (.store t x y) ty m (a1 :: row (.slice (some ⟨g, 0, .none⟩) l cap) e sz l xs :: H) w (fun _ H' => H' = a1 :: row (.slice (some ⟨g, 0, .none⟩) l cap) e sz l xs' :: H) :=
  e_storer [a1] H hx hy hv hs h1 hl hcs rfl
theorem e_app2 {a1 a2 : Res} {l c : Nat} {xs news : List Value} {xv : Value} (T : SlT P t e sz bytes z) (hx : ev m x = some v) (hy : ev m y = some xv)
    (hr : ∀ w, Holds w0 F0 (a1 :: a2 :: row v e sz l xs :: H) w → Rd w Nil sz xv c news) (h1 : ∀ u ∈ news, u.oneCell' = true)
    (hbytes : (l + c) * bytes ≤ 140737488355328) (h63 : l + c ≤ 140737488355328) :
    Eff P n w0 F0 (.call { callee := .builtin .append, args := #[x, y], argTypes := #[t, t] }) ty m (a1 :: a2 :: row v e sz l xs :: H) w (fun u H' => H' = a1 :: a2 :: row u e sz (l + c) (xs ++ news) :: H) :=
  e_app [a1, a2] H T hx hy rfl hr h1 hbytes h63
theorem e_apps2 {a1 a2 : Res} {l : Nat} {u : TypeId} {xs : List Value} {s : ByteArray} (T : SlT P t e 1 1 (.int .u8 0)) (hu : P.underlying u = some .string) (hx : ev m x = some v) (hy : ev m y = some (.string s))
    (h63 : l + s.size ≤ 140737488355328) :
    Eff P n w0 F0 (.call { callee := .builtin .append, args := #[x, y], argTypes := #[t, u] }) ty m (a1 :: a2 :: row v e 1 l xs :: H) w (fun r H' => H' = a1 :: a2 :: row r e 1 (l + s.size) (xs ++ Lib.strCells s) :: H) :=
  e_apps [a1, a2] H T hu hx hy rfl h63
theorem e_store2 {a1 a2 : Res} {bb off tb : Nat} {cs cs' us : List Value} (hx : ev m x = some (.pointer (some ⟨bb, off, .none⟩))) (hy : ev m y = some v) (hv : v.cells = us.toArray) (hs : (P.info? t).map (·.size) = some us.length)
    (h1 : ∀ u ∈ us, u.oneCell' = true) (hl : Nat.ble (off + us.length) cs.length = true) (hcs : cs.take off ++ us ++ cs.drop (off + us.length) = cs') :
    Eff P n w0 F0 (.store t x y) ty m (a1 :: a2 :: blk bb cs tb :: H) w (fun _ H' => H' = a1 :: a2 :: blk bb cs' tb :: H) :=
  e_store [a1, a2] H hx hy hv hs h1 (Nat.le_of_ble_eq_true hl) hcs rfl
theorem e_storer2 {a1 a2 : Res} {g cap l off : Nat} {xs xs' us : List Value} (hx : ev m x = some (.pointer (some ⟨g, off, .none⟩))) (hy : ev m y = some v) (hv : v.cells = us.toArray) (hs : (P.info? t).map (·.size) = some us.length)
    (h1 : ∀ u ∈ us, u.oneCell' = true) (hl : off + us.length ≤ xs.length) (hcs : xs.take off ++ us ++ xs.drop (off + us.length) = xs') :
    Eff P n w0 F0 (.store t x y) ty m (a1 :: a2 :: row (.slice (some ⟨g, 0, .none⟩) l cap) e sz l xs :: H) w (fun _ H' => H' = a1 :: a2 :: row (.slice (some ⟨g, 0, .none⟩) l cap) e sz l xs' :: H) :=
  e_storer [a1, a2] H hx hy hv hs h1 hl hcs rfl
theorem e_app3 {a1 a2 a3 : Res} {l c : Nat} {xs news : List Value} {xv : Value} (T : SlT P t e sz bytes z) (hx : ev m x = some v) (hy : ev m y = some xv)
    (hr : ∀ w, Holds w0 F0 (a1 :: a2 :: a3 :: row v e sz l xs :: H) w → Rd w Nil sz xv c news) (h1 : ∀ u ∈ news, u.oneCell' = true)
    (hbytes : (l + c) * bytes ≤ 140737488355328) (h63 : l + c ≤ 140737488355328) :
    Eff P n w0 F0 (.call { callee := .builtin .append, args := #[x, y], argTypes := #[t, t] }) ty m (a1 :: a2 :: a3 :: row v e sz l xs :: H) w (fun u H' => H' = a1 :: a2 :: a3 :: row u e sz (l + c) (xs ++ news) :: H) :=
  e_app [a1, a2, a3] H T hx hy rfl hr h1 hbytes h63
theorem e_apps3 {a1 a2 a3 : Res} {l : Nat} {u : TypeId} {xs : List Value} {s : ByteArray} (T : SlT P t e 1 1 (.int .u8 0)) (hu : P.underlying u = some .string) (hx : ev m x = some v) (hy : ev m y = some (.string s))
    (h63 : l + s.size ≤ 140737488355328) :
    Eff P n w0 F0 (.call { callee := .builtin .append, args := #[x, y], argTypes := #[t, u] }) ty m (a1 :: a2 :: a3 :: row v e 1 l xs :: H) w (fun r H' => H' = a1 :: a2 :: a3 :: row r e 1 (l + s.size) (xs ++ Lib.strCells s) :: H) :=
  e_apps [a1, a2, a3] H T hu hx hy rfl h63
theorem e_store3 {a1 a2 a3 : Res} {bb off tb : Nat} {cs cs' us : List Value} (hx : ev m x = some (.pointer (some ⟨bb, off, .none⟩))) (hy : ev m y = some v) (hv : v.cells = us.toArray) (hs : (P.info? t).map (·.size) = some us.length)
    (h1 : ∀ u ∈ us, u.oneCell' = true) (hl : Nat.ble (off + us.length) cs.length = true) (hcs : cs.take off ++ us ++ cs.drop (off + us.length) = cs') :
    Eff P n w0 F0 (.store t x y) ty m (a1 :: a2 :: a3 :: blk bb cs tb :: H) w (fun _ H' => H' = a1 :: a2 :: a3 :: blk bb cs' tb :: H) :=
  e_store [a1, a2, a3] H hx hy hv hs h1 (Nat.le_of_ble_eq_true hl) hcs rfl
theorem e_storer3 {a1 a2 a3 : Res} {g cap l off : Nat} {xs xs' us : List Value} (hx : ev m x = some (.pointer (some ⟨g, off, .none⟩))) (hy : ev m y = some v) (hv : v.cells = us.toArray) (hs : (P.info? t).map (·.size) = some us.length)
    (h1 : ∀ u ∈ us, u.oneCell' = true) (hl : off + us.length ≤ xs.length) (hcs : xs.take off ++ us ++ xs.drop (off + us.length) = xs') :
    Eff P n w0 F0 (.store t x y) ty m (a1 :: a2 :: a3 :: row (.slice (some ⟨g, 0, .none⟩) l cap) e sz l xs :: H) w (fun _ H' => H' = a1 :: a2 :: a3 :: row (.slice (some ⟨g, 0, .none⟩) l cap) e sz l xs' :: H) :=
  e_storer [a1, a2, a3] H hx hy hv hs h1 hl hcs rfl

/-! ### Calls -/

/-- A call of a function value: it is handed Hc, it leaves H1; the rest stays. -/
theorem e_callv {c : Operand} {first captured : Array Value} {f : FuncId} {fn : Func} {xs : List Operand} {vs : List Value} {ts : Array TypeId} {Φ : Value → List Res → Prop} (Hc Hr : List Res) (hcv : ev m c = some (.func (.func f) first captured))
    (hx : evs m xs = some vs) (hf : P.funcs[f]? = some fn) (hb : (fn.body.isNone, fn.name == "runtime.NumGoroutine") = (false, false)) (hH : H.Perm (Hc ++ Hr))
    (hc : ∀ w, Holds w0 F0 H w → Holds w (feet Hc) Hc w → Spec P f (first.toList ++ vs ++ captured.toList) w (feet Hc) Φ) :
    Eff P n w0 F0 (.call { callee := .value c, args := xs.toArray, argTypes := ts }) ty m H w (fun v H' => ∃ H1, H' = H1 ++ Hr ∧ Φ v H1) := fun o a K Q ho1 ho2 ha hh hk => by
  have hargs : (xs.toArray.map a.eval) = vs.toArray := by
    apply Array.ext'
    simpa using ha.evals _ hx
  have hcf : ∀ args : Array Value, (callFunc f args).run P w = .ok (.enter f args) w := fun args => by
    injection hb with hb1 hb2
    simp only [callFunc, Sem.run_bind, run_program, Result.andThen_ok, hf, hb1, hb2, Bool.false_eq_true, if_false, Sem.run_pure]
  have hrun : (execOp a.eval o).run P w = .ok (.enter f (first.toList ++ vs ++ captured.toList).toArray) w := by
    have e : (first.toList ++ vs ++ captured.toList).toArray = first ++ vs.toArray ++ captured := by
      apply Array.ext'
      simp
    simp only [execOp, ho1, resolve, ha.eval hcv, Deferred.ofValue, invoke, hargs, Sem.run_bind, Sem.run_pure, Result.andThen_ok, hcf, e]
  have hperm := hh.perm hH
  have hself : Holds w (feet Hc) Hc w := by
    refine ⟨Frm.refl _ _, ?_⟩
    have hcs := (Hs.append.1 hperm.2).1
    have key : ∀ L : List Res, Hs w0 F0 L w → (∀ r ∈ L, ∀ k, r.foot k → feet Hc k) → Hs w (feet Hc) L w := by
      intro L
      induction L with
      | nil => exact fun _ _ => trivial
      | cons r L ih => exact fun h hin => ⟨⟨h.1.1, fun k hk => ⟨(h.1.2.1 k hk).1, .inr (hin r (List.mem_cons_self ..) k hk)⟩, h.1.2.2⟩, ih h.2 fun s hs => hin s (List.mem_cons_of_mem _ hs)⟩
    exact key Hc hcs fun r hr k hk => ⟨r, hr, hk⟩
  unfold Oper.wp
  rw [hrun, Oper.upon_enter]
  refine Calls.mono (hc w hh hself) ?_
  rintro e' w' ⟨v, H1, rfl, hh1, hp⟩
  exact hk v _ w' ⟨H1, rfl, hp⟩ (hperm.call hh1)

/-- A call of a function: it is handed Hc, it leaves H1; the rest stays. -/
theorem e_call {f : FuncId} {fn : Func} {xs : List Operand} {vs : List Value} {ts : Array TypeId} {Φ : Value → List Res → Prop} (Hc Hr : List Res)
    (hx : evs m xs = some vs) (hf : P.funcs[f]? = some fn) (hb : (fn.body.isNone, fn.name == "runtime.NumGoroutine") = (false, false)) (hH : H.Perm (Hc ++ Hr))
    (hc : ∀ w, Holds w0 F0 H w → Holds w (feet Hc) Hc w → Spec P f vs w (feet Hc) Φ) :
    Eff P n w0 F0 (.call { callee := .value (.func f), args := xs.toArray, argTypes := ts }) ty m H w (fun v H' => ∃ H1, H' = H1 ++ Hr ∧ Φ v H1) :=
  e_callv (c := .func f) (first := #[]) (captured := #[]) Hc Hr rfl hx hf hb hH (by simpa using hc)

/-- A function without a body, that the model knows. -/
theorem f_extern {f : FuncId} {fn : Func} {e : Array Value → Sem Value} {xs : List Operand} {vs : List Value} {ts : Array TypeId} {v : Value} (hx : evs m xs = some vs) (hf : P.funcs[f]? = some fn)
    (hname : (fn.name == "runtime.NumGoroutine") = false) (hb : fn.body.isNone = true) (hn : Extern.findNext fn = none) (he : Extern.find fn = some e) (hr : ∀ w, (e vs.toArray).run P w = .ok v w) :
    Flt P n w0 F0 (.call { callee := .value (.func f), args := xs.toArray, argTypes := ts }) ty m H v := fun o a w ho1 ho2 ha hh => by
  have hargs : (xs.toArray.map a.eval) = vs.toArray := by
    apply Array.ext'
    simpa using ha.evals _ hx
  have hcf := run_callFunc_extern hf hname hb hn he vs.toArray w
  rw [hr, Result.andThen_ok] at hcf
  simp only [execOp, ho1, resolve, Act.eval, Deferred.ofValue, invoke, hargs, Sem.run_bind, Sem.run_pure, Result.andThen_ok, Array.empty_append, Array.append_empty, hcf]

theorem feet_nil : feet [] = Nil := by
  funext k
  simp [feet, Nil]

/-- A call that is handed nothing. -/
theorem e_call0 {f : FuncId} {fn : Func} {xs : List Operand} {vs : List Value} {ts : Array TypeId} {Φ : Value → List Res → Prop}
    (hx : evs m xs = some vs) (hf : P.funcs[f]? = some fn) (hb : (fn.body.isNone, fn.name == "runtime.NumGoroutine") = (false, false))
    (hc : ∀ w, Holds w0 F0 H w → Spec P f vs w Nil Φ) :
    Eff P n w0 F0 (.call { callee := .value (.func f), args := xs.toArray, argTypes := ts }) ty m H w (fun v H' => ∃ H1, H' = H1 ++ H ∧ Φ v H1) :=
  e_call [] H hx hf hb (List.Perm.refl _) fun w hh _ => by rw [feet_nil]; exact hc w hh

theorem feet_one (r : Res) : feet [r] = r.foot := by
  funext k
  simp [feet]

/-- A call that is handed one resource. -/
theorem e_call1 {f : FuncId} {fn : Func} {xs : List Operand} {vs : List Value} {ts : Array TypeId} {Φ : Value → List Res → Prop} (r : Res) (Hr : List Res)
    (hx : evs m xs = some vs) (hf : P.funcs[f]? = some fn) (hb : (fn.body.isNone, fn.name == "runtime.NumGoroutine") = (false, false)) (hH : H.Perm (r :: Hr))
    (hc : ∀ w, Holds w0 F0 H w → Holds w r.foot [r] w → Spec P f vs w r.foot Φ) :
    Eff P n w0 F0 (.call { callee := .value (.func f), args := xs.toArray, argTypes := ts }) ty m H w (fun v H' => ∃ H1, H' = H1 ++ Hr ∧ Φ v H1) :=
  e_call [r] Hr hx hf hb hH fun w hh hs => by rw [feet_one] at hs ⊢; exact hc w hh hs
end

theorem Rd.old1 {w0 w : World} {F0 : Nat → Prop} {H Hr : List Res} {r : Res} {sz n : Nat} {v : Value} {xs : List Value} (h : Rd w0 F0 sz v n xs) (hh : Holds w0 F0 H w) (hp : H.Perm (r :: Hr)) : Rd w r.foot sz v n xs := by
  have := h.old hh (Hc := [r]) (Hr := Hr) hp
  rwa [feet_one] at this
theorem Rd.held1 {w0 w : World} {F0 : Nat → Prop} {H Hr : List Res} {r : Res} {e sz n : Nat} {v : Value} {xs : List Value} (hh : Holds w0 F0 H w) (hp : H.Perm (r :: Hr)) (hr : row v e sz n xs ∈ Hr) : Rd w r.foot sz v n xs := by
  have := Rd.held hh (Hc := [r]) (Hr := Hr) hp hr
  rwa [feet_one] at this
theorem row_form {w0 w : World} {F0 : Nat → Prop} {H : List Res} {e sz n : Nat} {v : Value} {xs : List Value} (hh : Holds w0 F0 H w) {i : Nat} (hi : H[i]? = some (row v e sz n xs)) (hn : 0 < n) : ∃ g cap, v = .slice (some ⟨g, 0, .none⟩) n cap := by
  have hok : w.ownsRow 0 e sz v n xs := hh.ok hi
  rcases hok.2 with ⟨_, h⟩ | ⟨g, cap, cur, h, _⟩
  · omega
  · exact ⟨g, cap, h⟩
/-- The value of a row is a slice. -/
theorem row_slice {w0 w : World} {F0 : Nat → Prop} {H : List Res} {e sz n : Nat} {v : Value} {xs : List Value} (hh : Holds w0 F0 H w) {i : Nat} (hi : H[i]? = some (row v e sz n xs)) : ∃ A cap, v = .slice A n cap := by
  have hok : w.ownsRow 0 e sz v n xs := hh.ok hi
  rcases hok.2 with ⟨h, rfl⟩ | ⟨g, cap, cur, h, _⟩
  · exact ⟨_, _, h⟩
  · exact ⟨_, _, h⟩

theorem Eff.with_ {P : Program} {n : Nat} {w0 : World} {F0 : Nat → Prop} {op : Op} {ty : TypeId} {m : Env} {H : List Res} {w : World} {Φ Ψ : Value → List Res → Prop} (h : Eff P n w0 F0 op ty m H w Φ)
    (hi : ∀ v H' w', Φ v H' → Holds w0 F0 H' w' → Ψ v H') : Eff P n w0 F0 op ty m H w Ψ :=
  fun o a K Q h1 h2 ha hh hk => h o a K Q h1 h2 ha hh fun v H' w' hp hh' => hk v H' w' (hi v H' w' hp hh') hh'
section
variable {P : Program} {n : Nat} {w0 : World} {F0 : Nat → Prop} {m : Env} {H : List Res} {w : World} {ty : TypeId}
  {x y : Operand} {v : Value} {t e sz bytes : Nat} {z : Value}
/-- The same; the new value is seen to be a slice. -/
theorem e_appS0 {l c : Nat} {xs news : List Value} {xv : Value} (T : SlT P t e sz bytes z) (hx : ev m x = some v) (hy : ev m y = some xv)
    (hr : ∀ w, Holds w0 F0 (row v e sz l xs :: H) w → Rd w Nil sz xv c news) (h1 : ∀ u ∈ news, u.oneCell' = true)
    (hbytes : (l + c) * bytes ≤ 140737488355328) (h63 : l + c ≤ 140737488355328) :
    Eff P n w0 F0 (.call { callee := .builtin .append, args := #[x, y], argTypes := #[t, t] }) ty m (row v e sz l xs :: H) w (fun u H' => (∃ A cap, u = .slice A (l + c) cap) ∧ H' = row u e sz (l + c) (xs ++ news) :: H) :=
  (e_app0 T hx hy hr h1 hbytes h63).with_ fun v H' w' hH hh => ⟨by subst hH; exact row_slice hh (i := 0) rfl, hH⟩
theorem e_appsS0 {l : Nat} {u : TypeId} {xs : List Value} {s : ByteArray} (T : SlT P t e 1 1 (.int .u8 0)) (hu : P.underlying u = some .string) (hx : ev m x = some v) (hy : ev m y = some (.string s))
    (h63 : l + s.size ≤ 140737488355328) :
    Eff P n w0 F0 (.call { callee := .builtin .append, args := #[x, y], argTypes := #[t, u] }) ty m (row v e 1 l xs :: H) w (fun r H' => (∃ A cap, r = .slice A (l + s.size) cap) ∧ H' = row r e 1 (l + s.size) (xs ++ Lib.strCells s) :: H) :=
  (e_apps0 T hu hx hy h63).with_ fun v H' w' hH hh => ⟨by subst hH; exact row_slice hh (i := 0) rfl, hH⟩
/-- The same; the new value is seen to be a slice. -/
theorem e_appS1 {a1 : Res} {l c : Nat} {xs news : List Value} {xv : Value} (T : SlT P t e sz bytes z) (hx : ev m x = some v) (hy : ev m y = some xv)
    (hr : ∀ w, Holds w0 F0 (a1 :: row v e sz l xs :: H) w → Rd w Nil sz xv c news) (h1 : ∀ u ∈ news, u.oneCell' = true)
    (hbytes : (l + c) * bytes ≤ 140737488355328) (h63 : l + c ≤ 140737488355328) :
    Eff P n w0 F0 (.call { callee := .builtin .append, args := #[x, y], argTypes := #[t, t] }) ty m (a1 :: row v e sz l xs :: H) w (fun u H' => (∃ A cap, u = .slice A (l + c) cap) ∧ H' = a1 :: row u e sz (l + c) (xs ++ news) :: H) :=
  (e_app1 T hx hy hr h1 hbytes h63).with_ fun v H' w' hH hh => ⟨by subst hH; exact row_slice hh (i := 1) rfl, hH⟩
theorem e_appsS1 {a1 : Res} {l : Nat} {u : TypeId} {xs : List Value} {s : ByteArray} (T : SlT P t e 1 1 (.int .u8 0)) (hu : P.underlying u = some .string) (hx : ev m x = some v) (hy : ev m y = some (.string s))
    (h63 : l + s.size ≤ 140737488355328) :
    Eff P n w0 F0 (.call { callee := .builtin .append, args := #[x, y], argTypes := #[t, u] }) ty m (a1 :: row v e 1 l xs :: H) w (fun r H' => (∃ A cap, r = .slice A (l + s.size) cap) ∧ H' = a1 :: row r e 1 (l + s.size) (xs ++ Lib.strCells s) :: H) :=
  (e_apps1 T hu hx hy h63).with_ fun v H' w' hH hh => ⟨by subst hH; exact row_slice hh (i := 1) rfl, hH⟩
/-- The same; the new value is seen to be a slice. -/
theorem e_appS2 {a1 a2 : Res} {l c : Nat} {xs news : List Value} {xv : Value} (T : SlT P t e sz bytes z) (hx : ev m x = some v) (hy : ev m y = some xv)
    (hr : ∀ w, Holds w0 F0 (a1 :: a2 :: row v e sz l xs :: H) w → Rd w Nil sz xv c news) (h1 : ∀ u ∈ news, u.oneCell' = true)
    (hbytes : (l + c) * bytes ≤ 140737488355328) (h63 : l + c ≤ 140737488355328) :
    Eff P n w0 F0 (.call { callee := .builtin .append, args := #[x, y], argTypes := #[t, t] }) ty m (a1 :: a2 :: row v e sz l xs :: H) w (fun u H' => (∃ A cap, u = .slice A (l + c) cap) ∧ H' = a1 :: a2 :: row u e sz (l + c) (xs ++ news) :: H) :=
  (e_app2 T hx hy hr h1 hbytes h63).with_ fun v H' w' hH hh => ⟨by subst hH; exact row_slice hh (i := 2) rfl, hH⟩
theorem e_appsS2 {a1 a2 : Res} {l : Nat} {u : TypeId} {xs : List Value} {s : ByteArray} (T : SlT P t e 1 1 (.int .u8 0)) (hu : P.underlying u = some .string) (hx : ev m x = some v) (hy : ev m y = some (.string s))
    (h63 : l + s.size ≤ 140737488355328) :
    Eff P n w0 F0 (.call { callee := .builtin .append, args := #[x, y], argTypes := #[t, u] }) ty m (a1 :: a2 :: row v e 1 l xs :: H) w (fun r H' => (∃ A cap, r = .slice A (l + s.size) cap) ∧ H' = a1 :: a2 :: row r e 1 (l + s.size) (xs ++ Lib.strCells s) :: H) :=
  (e_apps2 T hu hx hy h63).with_ fun v H' w' hH hh => ⟨by subst hH; exact row_slice hh (i := 2) rfl, hH⟩
/-- The same; the new value is seen to be a slice. -/
theorem e_appS3 {a1 a2 a3 : Res} {l c : Nat} {xs news : List Value} {xv : Value} (T : SlT P t e sz bytes z) (hx : ev m x = some v) (hy : ev m y = some xv)
    (hr : ∀ w, Holds w0 F0 (a1 :: a2 :: a3 :: row v e sz l xs :: H) w → Rd w Nil sz xv c news) (h1 : ∀ u ∈ news, u.oneCell' = true)
    (hbytes : (l + c) * bytes ≤ 140737488355328) (h63 : l + c ≤ 140737488355328) :
    Eff P n w0 F0 (.call { callee := .builtin .append, args := #[x, y], argTypes := #[t, t] }) ty m (a1 :: a2 :: a3 :: row v e sz l xs :: H) w (fun u H' => (∃ A cap, u = .slice A (l + c) cap) ∧ H' = a1 :: a2 :: a3 :: row u e sz (l + c) (xs ++ news) :: H) :=
  (e_app3 T hx hy hr h1 hbytes h63).with_ fun v H' w' hH hh => ⟨by subst hH; exact row_slice hh (i := 3) rfl, hH⟩
theorem e_appsS3 {a1 a2 a3 : Res} {l : Nat} {u : TypeId} {xs : List Value} {s : ByteArray} (T : SlT P t e 1 1 (.int .u8 0)) (hu : P.underlying u = some .string) (hx : ev m x = some v) (hy : ev m y = some (.string s))
    (h63 : l + s.size ≤ 140737488355328) :
    Eff P n w0 F0 (.call { callee := .builtin .append, args := #[x, y], argTypes := #[t, u] }) ty m (a1 :: a2 :: a3 :: row v e 1 l xs :: H) w (fun r H' => (∃ A cap, r = .slice A (l + s.size) cap) ∧ H' = a1 :: a2 :: a3 :: row r e 1 (l + s.size) (xs ++ Lib.strCells s) :: H) :=
  (e_apps3 T hu hx hy h63).with_ fun v H' w' hH hh => ⟨by subst hH; exact row_slice hh (i := 3) rfl, hH⟩
end
theorem str_size (xs : List Nat) : (str xs).size = xs.length := by
  show (str xs).data.size = _
  simp [str]
theorem start1 {w : World} {r : Res} (h : Holds w r.foot [r] w) : Holds w r.foot [r] w := h
end Go.Proofs.Ytkoklfagmbaapaa
